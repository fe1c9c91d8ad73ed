/- Sums of products in a field; matrices as tables of numbers; what products, rows picked and joined tell. No program in sight. -/
import Derived.Test.YtkoiolamnnmokaaDoorGMat
set_option linter.unusedVariables false
set_option linter.unusedSimpArgs false
namespace Go.Gam
open Px

/-- The sum of f 0 .. f (n - 1). -/
def xsum : Nat → (Nat → Nat) → Nat
  | 0, _ => 0
  | n + 1, f => xsum n f ^^^ f n
theorem xsum_congr {f g : Nat → Nat} : ∀ {n : Nat}, (∀ i, i < n → f i = g i) → xsum n f = xsum n g
  | 0, _ => rfl
  | n + 1, h => by rw [xsum, xsum, xsum_congr (fun i hi => h i (by omega)), h n (by omega)]
theorem xsum_lt {k : Nat} {f : Nat → Nat} : ∀ {n : Nat}, (∀ i, i < n → f i < 2 ^ k) → xsum n f < 2 ^ k
  | 0, _ => Nat.two_pow_pos _
  | n + 1, h => Px.xor_lt (xsum_lt fun i hi => h i (by omega)) (h n (by omega))
theorem xor4 (a b c d : Nat) : (a ^^^ b) ^^^ (c ^^^ d) = (a ^^^ c) ^^^ (b ^^^ d) := by
  rw [Nat.xor_assoc, Nat.xor_assoc, ← Nat.xor_assoc b c d, Nat.xor_comm b c, Nat.xor_assoc c b d]
theorem xsum_xor (f g : Nat → Nat) : ∀ n, xsum n (fun i => f i ^^^ g i) = xsum n f ^^^ xsum n g
  | 0 => by simp [xsum]
  | n + 1 => by rw [xsum, xsum, xsum, xsum_xor f g n, xor4]
theorem xsum_zero : ∀ n, xsum n (fun _ => 0) = 0
  | 0 => rfl
  | n + 1 => by rw [xsum, xsum_zero n]; rfl
theorem xsum_zero' {n : Nat} {f : Nat → Nat} (h : ∀ i, i < n → f i = 0) : xsum n f = 0 := by rw [xsum_congr h, xsum_zero]
theorem xsum_single {f : Nat → Nat} {i : Nat} : ∀ {n : Nat}, i < n → (∀ j, j < n → j ≠ i → f j = 0) → xsum n f = f i
  | 0, h, _ => by omega
  | n + 1, h, h2 => by
    rw [xsum]
    by_cases hn : i = n
    · subst hn; rw [xsum_zero' fun j hj => h2 j (by omega) (by omega), Nat.zero_xor]
    · rw [xsum_single (by omega) (fun j hj => h2 j (by omega)), h2 n (by omega) (by omega), Nat.xor_zero]
theorem xsum_add (f : Nat → Nat) (m : Nat) : ∀ n, xsum (m + n) f = xsum m f ^^^ xsum n (fun i => f (m + i))
  | 0 => by rw [Nat.add_zero, xsum, Nat.xor_zero]
  | n + 1 => by rw [← Nat.add_assoc, xsum, xsum_add f m n, xsum, Nat.xor_assoc]
theorem xsum_comm (f : Nat → Nat → Nat) (m : Nat) : ∀ n, xsum n (fun i => xsum m (f i)) = xsum m (fun j => xsum n (fun i => f i j))
  | 0 => (xsum_zero m).symm
  | n + 1 => by
    rw [xsum, xsum_comm f m n, ← xsum_xor]
    exact xsum_congr fun j _ => rfl
theorem mul_xsum (F : Fld) (c : Nat) (f : Nat → Nat) : ∀ n, F.mul c (xsum n f) = xsum n (fun i => F.mul c (f i))
  | 0 => F.mul_zero c
  | n + 1 => by rw [xsum, F.dist, mul_xsum F c f n, xsum]
theorem xsum_mul (F : Fld) (c : Nat) (f : Nat → Nat) (n : Nat) : F.mul (xsum n f) c = xsum n (fun i => F.mul (f i) c) := by
  rw [F.comm, mul_xsum]; exact xsum_congr fun i _ => F.comm _ _

/-! ### tables -/
/-- n rows of m numbers below 2^w. -/
def Mx (w n m : Nat) (a : Mtx) : Prop := a.length = n ∧ ∀ r ∈ a, r.length = m ∧ ∀ x ∈ r, 0 ≤ x ∧ x < ((2 ^ w : Nat) : Int)
/-- The number at row i, place j. -/
def en (a : Mtx) (i j : Nat) : Nat := ((a.getD i []).getD j 0).toNat
def tab (n m : Nat) (f : Nat → Nat → Nat) : Mtx := (List.range n).map fun i => (List.range m).map fun j => (f i j : Int)
theorem getD_of {α : Type} {l : List α} {i : Nat} {d : α} (h : i < l.length) : l.getD i d = l[i] := by rw [List.getD_eq_getElem?_getD, List.getElem?_eq_getElem h]; rfl
theorem Mx.num {w n m : Nat} {a : Mtx} (h : Mx w n m a) {i j : Nat} (hi : i < n) (hj : j < m) : ∃ r, a[i]? = some r ∧ r.length = m ∧ r[j]? = some (en a i j : Int) ∧ en a i j < 2 ^ w := by
  obtain ⟨rfl, h2⟩ := h
  have hr := h2 a[i] (List.getElem_mem hi)
  have hj' : j < a[i].length := by omega
  have hx := hr.2 a[i][j] (List.getElem_mem hj')
  have he : en a i j = a[i][j].toNat := by unfold en; rw [getD_of hi, getD_of hj']
  refine ⟨a[i], List.getElem?_eq_getElem hi, hr.1, ?_, by omega⟩
  rw [List.getElem?_eq_getElem hj']
  congr 1; omega
theorem Mx.lt {w n m : Nat} {a : Mtx} (h : Mx w n m a) {i j : Nat} (hi : i < n) (hj : j < m) : en a i j < 2 ^ w := let ⟨_, _, _, _, h⟩ := h.num hi hj; h
theorem Mx.ext {w n m : Nat} {a b : Mtx} (ha : Mx w n m a) (hb : Mx w n m b) (h : ∀ i j, i < n → j < m → en a i j = en b i j) : a = b := by
  apply List.ext_getElem?
  intro i
  by_cases hi : i < n
  · have hia : i < a.length := by rw [ha.1]; exact hi
    have hib : i < b.length := by rw [hb.1]; exact hi
    rw [List.getElem?_eq_getElem hia, List.getElem?_eq_getElem hib]
    congr 1
    apply List.ext_getElem?
    intro j
    have la := (ha.2 a[i] (List.getElem_mem hia)).1
    have lb := (hb.2 b[i] (List.getElem_mem hib)).1
    by_cases hj : j < m
    · obtain ⟨r, h1, _, h2, _⟩ := ha.num hi hj
      obtain ⟨s, h3, _, h4, _⟩ := hb.num hi hj
      rw [List.getElem?_eq_getElem hia] at h1
      rw [List.getElem?_eq_getElem hib] at h3
      obtain rfl := Option.some.inj h1
      obtain rfl := Option.some.inj h3
      rw [h2, h4, h i j hi hj]
    · rw [List.getElem?_eq_none (by omega), List.getElem?_eq_none (by omega)]
  · have := ha.1; have := hb.1
    rw [List.getElem?_eq_none (by omega), List.getElem?_eq_none (by omega)]
theorem tab_length (n m : Nat) (f : Nat → Nat → Nat) : (tab n m f).length = n := by simp [tab]
theorem tab_at {n m i : Nat} {f : Nat → Nat → Nat} (hi : i < n) : (tab n m f)[i]? = some ((List.range m).map fun j => (f i j : Int)) := by simp [tab, hi]
theorem en_tab {n m i j : Nat} {f : Nat → Nat → Nat} (hi : i < n) (hj : j < m) : en (tab n m f) i j = f i j := by
  unfold en
  rw [List.getD_eq_getElem?_getD, List.getD_eq_getElem?_getD, tab_at hi]
  simp [hj]
theorem Mx.tab {w n m : Nat} {f : Nat → Nat → Nat} (h : ∀ i j, i < n → j < m → f i j < 2 ^ w) : Mx w n m (tab n m f) := by
  refine ⟨tab_length _ _ _, fun r hr => ?_⟩
  obtain ⟨i, hi, rfl⟩ := List.mem_map.1 hr
  rw [List.mem_range] at hi
  refine ⟨by simp, fun x hx => ?_⟩
  obtain ⟨j, hj, rfl⟩ := List.mem_map.1 hx
  rw [List.mem_range] at hj
  have := h i j hi hj
  exact ⟨by omega, by omega⟩
theorem Mx.eq_tab {w n m : Nat} {a : Mtx} (h : Mx w n m a) : a = Gam.tab n m (en a) := h.ext (Mx.tab fun i j hi hj => h.lt hi hj) fun i j hi hj => (en_tab hi hj).symm
theorem tab_congr {n m : Nat} {f g : Nat → Nat → Nat} (h : ∀ i j, i < n → j < m → f i j = g i j) : tab n m f = tab n m g := by
  unfold tab
  refine List.map_congr_left fun i hi => List.map_congr_left fun j hj => ?_
  rw [List.mem_range] at hi hj
  rw [h i j hi hj]
theorem wid_tab {n m : Nat} {f : Nat → Nat → Nat} (h : 0 < n) : wid (tab n m f) = m := by rw [wid_at (tab_at h)]; simp
theorem Mx.wid {w n m : Nat} {a : Mtx} (h : Mx w n m a) (hn : 0 < n) : wid a = m := by
  obtain ⟨r, hr⟩ : ∃ r, a[0]? = some r := ⟨_, List.getElem?_eq_getElem (by rw [h.1]; exact hn)⟩
  rw [wid_at hr]
  exact (h.2 r (List.mem_of_getElem? hr)).1

section
variable {wb p : Nat}
theorem mayM_Mx {a : Mtx} (h : mayM (some (wb, p)) a = true) : Mx wb a.length (wid a) a ∧ 1 ≤ a.length ∧ a.length ≤ 20 ∧ 1 ≤ wid a ∧ wid a ≤ 20 := by
  obtain ⟨h1, h2, h3, h4, h5⟩ := mayM_pos h
  exact ⟨⟨rfl, fun r hr => ⟨(h5 r hr).1, fun x hx => inF_some.1 ((h5 r hr).2 x hx)⟩⟩, h1, h2, h3, h4⟩
theorem Mx.may {n m : Nat} {a : Mtx} (h : Mx wb n m a) (h1 : 1 ≤ n) (h2 : n ≤ 20) (h3 : 1 ≤ m) (h4 : m ≤ 20) : mayM (some (wb, p)) a = true := by
  have hw := h.wid (by omega)
  exact mayM_of (by rw [h.1]; exact h1) (by rw [h.1]; exact h2) (by omega) (by omega) fun r hr => ⟨by rw [hw]; exact (h.2 r hr).1, fun x hx => inF_some.2 ((h.2 r hr).2 x hx)⟩
theorem gmul_num (h : Prm wb p) {x y : Nat} (hx : x < 2 ^ wb) (hy : y < 2 ^ wb) : gmul (some (wb, p)) (x : Int) (y : Int) = (h.fld.mul x y : Int) := gmul_in hx hy
theorem dotP_sum (h : Prm wb p) {r c : List Int} {f g : Nat → Nat} : ∀ n, (∀ i, i < n → r[i]? = some (f i : Int) ∧ c[i]? = some (g i : Int) ∧ f i < 2 ^ wb ∧ g i < 2 ^ wb) →
    dotP (some (wb, p)) r c n = xsum n fun i => h.fld.mul (f i) (g i)
  | 0, _ => rfl
  | n + 1, hn => by
    obtain ⟨h1, h2, h3, h4⟩ := hn n (by omega)
    rw [dotP_step h1 h2, dotP_sum h n (fun i hi => hn i (by omega)), gmul_num h h3 h4, Int.toNat_natCast]
    rfl
theorem colAt_num {n m w : Nat} {b : Mtx} (hb : Mx w n m b) {i j : Nat} (hi : i < n) (hj : j < m) : (colAt b j)[i]? = some (en b i j : Int) := by
  obtain ⟨r, h1, _, h2, _⟩ := hb.num hi hj
  exact colAt_at h1 h2
theorem dotN_num (h : Prm wb p) {n m k : Nat} {a b : Mtx} (ha : Mx wb n m a) (hb : Mx wb m k b) {i j : Nat} {r : List Int} (hi : a[i]? = some r) (hj : j < k) :
    dotN (some (wb, p)) r (colAt b j) = xsum m fun l => h.fld.mul (en a i l) (en b l j) := by
  have hin : i < n := by rw [← ha.1]; exact (List.getElem?_eq_some_iff.1 hi).1
  have hr := (ha.2 r (List.mem_of_getElem? hi)).1
  have hc : r.length = (colAt b j).length := by rw [colAt_length, hb.1, hr]
  rw [← dotP_all _ hc, hr]
  refine dotP_sum h m fun l hl => ?_
  obtain ⟨r', h1, _, h2, h3⟩ := ha.num hin hl
  rw [hi] at h1
  obtain rfl := Option.some.inj h1
  exact ⟨h2, colAt_num hb hl hj, h3, hb.lt hl hj⟩
/-- A product, told as a table. -/
theorem mulM_tab (h : Prm wb p) {n m k : Nat} {a b : Mtx} (ha : Mx wb n m a) (hb : Mx wb m k b) (hn : 1 ≤ n ∧ n ≤ 20) (hm : 1 ≤ m ∧ m ≤ 20) (hk : 1 ≤ k ∧ k ≤ 20) :
    mulM (some (wb, p)) a b = some (tab n k fun i j => xsum m fun l => h.fld.mul (en a i l) (en b l j)) := by
  rw [mulM_t (ha.may hn.1 hn.2 hm.1 hm.2) (hb.may hm.1 hm.2 hk.1 hk.2) (by rw [ha.wid (by omega), hb.1])]
  congr 1
  have hw := hb.wid (show 0 < m by omega)
  unfold tab
  apply List.ext_getElem?
  intro i
  by_cases hi : i < n
  · have hia : i < a.length := by rw [ha.1]; exact hi
    rw [List.getElem?_map, List.getElem?_eq_getElem hia, List.getElem?_map, List.getElem?_range hi]
    show some _ = some _
    congr 1
    unfold mulRow
    rw [hw]
    refine List.map_congr_left fun j hj => ?_
    rw [List.mem_range] at hj
    rw [dotN_num h ha hb (List.getElem?_eq_getElem hia) hj]
  · have := ha.1
    rw [List.getElem?_eq_none (by simp; omega), List.getElem?_eq_none (by simp; omega)]
theorem mulM_inv {a b x : Mtx} {o : Fq} (hx : mulM o a b = some x) : mayM o a = true ∧ mayM o b = true ∧ wid a = b.length ∧ x = a.map (mulRow o b) := by
  unfold mulM at hx
  split at hx
  · rename_i hb
    simp only [mulB, Bool.and_eq_true, decide_eq_true_eq] at hb
    exact ⟨hb.1.1, hb.1.2, hb.2, (Option.some.inj hx).symm⟩
  · cases hx
theorem mulM_some (h : Prm wb p) {a b x : Mtx} (hx : mulM (some (wb, p)) a b = some x) : ∃ n m k, Mx wb n m a ∧ Mx wb m k b ∧ (1 ≤ n ∧ n ≤ 20) ∧ (1 ≤ m ∧ m ≤ 20) ∧ (1 ≤ k ∧ k ≤ 20) ∧ x = tab n k fun i j => xsum m fun l => h.fld.mul (en a i l) (en b l j) := by
  obtain ⟨h1, h2, h3, -⟩ := mulM_inv hx
  obtain ⟨ha, a1, a2, a3, a4⟩ := mayM_Mx h1
  obtain ⟨hb, b1, b2, b3, b4⟩ := mayM_Mx h2
  rw [h3] at ha
  refine ⟨_, _, _, ha, hb, ⟨a1, a2⟩, ⟨b1, b2⟩, ⟨b3, b4⟩, ?_⟩
  rw [mulM_tab h ha hb ⟨a1, a2⟩ ⟨b1, b2⟩ ⟨b3, b4⟩] at hx
  exact (Option.some.inj hx).symm
theorem Mx.mul (h : Prm wb p) {n m k : Nat} (f g : Nat → Nat → Nat) : Mx wb n k (Gam.tab n k fun i j => xsum m fun l => h.fld.mul (f i l) (g l j)) :=
  Mx.tab fun i j _ _ => xsum_lt fun l _ => by have := h.fld.lt (f i l) (g l j); rw [h.fld_w] at this; exact this
/-- Products don't hang on which two are first. -/
theorem mulM_assoc (h : Prm wb p) {a b c x y : Mtx} (hx : mulM (some (wb, p)) a b = some x) (hy : mulM (some (wb, p)) b c = some y) : ∃ q, mulM (some (wb, p)) x c = some q ∧ mulM (some (wb, p)) a y = some q := by
  obtain ⟨n, m, k, ha, hb, hn, hm, hk, rfl⟩ := mulM_some h hx
  obtain ⟨m', k', l, hb', hc, hm', hk', hl, rfl⟩ := mulM_some h hy
  have e1 : m' = m := hb'.1.symm.trans hb.1
  subst e1
  have e2 : k' = k := by rw [← hb'.wid (by omega), ← hb.wid (by omega)]
  subst e2
  refine ⟨_, mulM_tab h (Mx.mul h _ _) hc hn hk hl, ?_⟩
  rw [mulM_tab h ha (Mx.mul h _ _) hn hm hl]
  congr 1
  refine tab_congr fun i j hi hj => ?_
  rw [xsum_congr (fun s hs => by rw [en_tab hs hj, mul_xsum])]
  rw [xsum_comm]
  refine xsum_congr fun s hs => ?_
  rw [en_tab hi hs, xsum_mul]
  exact xsum_congr fun t _ => by rw [h.fld.assoc]
theorem idM_tab (n : Nat) : idM n = tab n n fun i j => if i = j then 1 else 0 := by
  unfold idM tab
  refine List.map_congr_left fun i _ => List.map_congr_left fun j _ => ?_
  by_cases h : i = j <;> simp [h]
theorem Mx.id (h : Prm wb p) (n : Nat) : Mx wb n n (idM n) := by
  rw [idM_tab]
  refine Mx.tab fun i j _ _ => ?_
  have := h.size
  split <;> omega
/-- The identity changes nothing. -/
theorem mulM_idl (h : Prm wb p) {n m : Nat} {a : Mtx} (ha : Mx wb n m a) (hn : 1 ≤ n ∧ n ≤ 20) (hm : 1 ≤ m ∧ m ≤ 20) : mulM (some (wb, p)) (idM n) a = some a := by
  rw [mulM_tab h (Mx.id h n) ha hn hn hm]
  congr 1
  rw [ha.eq_tab]
  refine tab_congr fun i j hi hj => ?_
  rw [idM_tab, xsum_single hi (fun s hs hne => by rw [en_tab hi hs, if_neg (Ne.symm hne), h.fld.zero_mul]), en_tab hi hi, if_pos rfl, en_tab hi hj]
  exact h.fld.one _ (by rw [h.fld_w]; exact ha.lt hi hj)
theorem mulM_idr (h : Prm wb p) {n m : Nat} {a : Mtx} (ha : Mx wb n m a) (hn : 1 ≤ n ∧ n ≤ 20) (hm : 1 ≤ m ∧ m ≤ 20) : mulM (some (wb, p)) a (idM m) = some a := by
  rw [mulM_tab h ha (Mx.id h m) hn hm hm]
  congr 1
  rw [ha.eq_tab]
  refine tab_congr fun i j hi hj => ?_
  rw [idM_tab, xsum_single hj (fun s hs hne => by rw [en_tab hs hj, if_neg hne, h.fld.mul_zero]), en_tab hj hj, if_pos rfl, en_tab hi hj]
  exact h.fld.mul_one _ (by rw [h.fld_w]; exact ha.lt hi hj)
theorem identM_of {n : Nat} (h : 1 ≤ n ∧ n ≤ 20) : identM (n : Int) = idM n := by unfold identM; rw [if_pos (by omega), Int.toNat_natCast]
/-- A product is a matrix. -/
theorem mulM_may (h : Prm wb p) {a b x : Mtx} (hx : mulM (some (wb, p)) a b = some x) : mayM (some (wb, p)) x = true ∧ x.length = a.length ∧ wid x = wid b := by
  obtain ⟨n, m, k, ha, hb, hn, hm, hk, rfl⟩ := mulM_some h hx
  exact ⟨(Mx.mul h _ _).may hn.1 hn.2 hk.1 hk.2, by rw [tab_length, ha.1], by rw [wid_tab (by omega), hb.wid (by omega)]⟩

/-! ### rows picked, joined -/
theorem rowM_map {o : Fq} {a b : Mtx} {i : Int} (h : 0 ≤ i ∧ i < (a.length : Int)) : rowM (a.map (mulRow o b)) i = mulRow o b (rowM a i) := by
  have hi : i.toNat < a.length := by omega
  unfold rowM
  rw [getD_of (by simpa using hi), getD_of hi, List.getElem_map]
theorem pickM_may {o : Fq} {a s : Mtx} {l : List Int} (hs : pickM o a l = some s) : mayM o s = true ∧ s.length = l.length ∧ wid s = wid a := by
  unfold pickM at hs
  split at hs
  · rename_i hb
    obtain rfl := Option.some.inj hs
    simp only [pickB, Bool.and_eq_true, decide_eq_true_eq] at hb
    obtain ⟨⟨h1, h2⟩, h3⟩ := hb
    obtain ⟨a1, a2, a3, a4, a5⟩ := mayM_pos h1
    have key : ∀ i ∈ l, rowM a i ∈ a := fun i hi => by
      have := List.all_eq_true.1 h3 i hi
      simp at this
      unfold rowM
      rw [getD_of (by omega)]
      exact List.getElem_mem _
    have hw : wid (l.map (rowM a)) = wid a := by
      obtain ⟨i, hi⟩ : ∃ i, l[0]? = some i := ⟨_, List.getElem?_eq_getElem (by omega)⟩
      rw [wid_at (r := rowM a i) (by rw [List.getElem?_map, hi]; rfl)]
      exact (a5 _ (key i (List.mem_of_getElem? hi))).1
    refine ⟨mayM_of (by simpa using h2.1) (by simpa using h2.2) (by omega) (by omega) fun r hr => ?_, by simp, hw⟩
    obtain ⟨i, hi, rfl⟩ := List.mem_map.1 hr
    rw [hw]
    exact a5 _ (key i hi)
  · cases hs
/-- Rows picked of a product are those of the first one, times the second one. -/
theorem pick_mul (h : Prm wb p) {a b x : Mtx} {l : List Int} (hx : mulM (some (wb, p)) a b = some x) (hl : 1 ≤ l.length ∧ l.length ≤ 20) (hi : ∀ i ∈ l, 0 ≤ i ∧ i < (a.length : Int)) :
    ∃ s q, pickM (some (wb, p)) x l = some q ∧ pickM (some (wb, p)) a l = some s ∧ mulM (some (wb, p)) s b = some q := by
  obtain ⟨m1, m2, m3⟩ := mulM_may h hx
  obtain ⟨h1, h2, h3, rfl⟩ := mulM_inv hx
  have ha : pickM (some (wb, p)) a l = some (l.map (rowM a)) := pickM_t h1 hl (List.all_eq_true.2 fun i hi' => decide_eq_true (hi i hi'))
  obtain ⟨s1, s2, s3⟩ := pickM_may ha
  refine ⟨_, _, pickM_t m1 hl (List.all_eq_true.2 fun i hi' => decide_eq_true (by rw [m2]; exact hi i hi')), ha, ?_⟩
  rw [mulM_t s1 h2 (by rw [s3, h3]), List.map_map]
  congr 1
  exact List.map_congr_left fun i hi' => (rowM_map (hi i hi')).symm
theorem join_mul (h : Prm wb p) {a b x : Mtx} (hx : mulM (some (wb, p)) a b = some x) (ha : a.length ≤ 10) : ∃ y, joinM (some (wb, p)) a a = some (a ++ a) ∧ mulM (some (wb, p)) (a ++ a) b = some y ∧ joinM (some (wb, p)) x x = some y := by
  obtain ⟨m1, m2, m3⟩ := mulM_may h hx
  obtain ⟨h1, h2, h3, rfl⟩ := mulM_inv hx
  obtain ⟨a1, a2, a3, a4, a5⟩ := mayM_pos h1
  have hw : wid (a ++ a) = wid a := by
    obtain ⟨r, hr⟩ : ∃ r, a[0]? = some r := ⟨_, List.getElem?_eq_getElem (by omega)⟩
    rw [wid_at hr, wid_at (r := r) (by rw [List.getElem?_append_left (by omega), hr])]
  have hm : mayM (some (wb, p)) (a ++ a) = true := mayM_of (by simp; omega) (by simp; omega) (by omega) (by omega) fun r hr => by
    rw [hw]; exact a5 r (by simpa using hr)
  refine ⟨_, joinM_t h1 h1 rfl (by omega), mulM_t hm h2 (by rw [hw, h3]), ?_⟩
  rw [joinM_t m1 m1 rfl (by rw [m2]; omega), List.map_append]

/-! ### columns -/
theorem Mx.col {w : Nat} {l : List Int} (h : ∀ x ∈ l, 0 ≤ x ∧ x < ((2 ^ w : Nat) : Int)) : Mx w l.length 1 (colM l) := by
  refine ⟨colM_length l, fun r hr => ?_⟩
  obtain ⟨x, hx, rfl⟩ := List.mem_map.1 hr
  exact ⟨rfl, fun y hy => by obtain rfl : y = x := by simpa using hy
                             exact h _ hx⟩
theorem Mx.col_inv {w n : Nat} {l : List Int} (h : Mx w n 1 (colM l)) : ∀ x ∈ l, 0 ≤ x ∧ x < ((2 ^ w : Nat) : Int) := fun x hx => (h.2 [x] (List.mem_map.2 ⟨x, hx, rfl⟩)).2 x (by simp)
theorem en_col {l : List Int} {i : Nat} : en (colM l) i 0 = (l.getD i 0).toNat := by
  unfold en colM
  rw [List.getD_eq_getElem?_getD, List.getD_eq_getElem?_getD, List.getElem?_map, List.getD_eq_getElem?_getD]
  cases l[i]? <;> rfl
theorem colM_heads {m : Mtx} (h : ∀ r ∈ m, r.length = 1) : colM (m.map fun r => r.getD 0 0) = m := by
  unfold colM
  rw [List.map_map]
  conv => rhs; rw [← List.map_id m]
  refine List.map_congr_left fun r hr => ?_
  match r, h r hr with | [x], _ => rfl
/-- A column applied, as a product. -/
theorem applyM_mul {o : Fq} {a : Mtx} {x m : List Int} : applyM o a x = some m ↔ mulM o a (colM x) = some (colM m) := by
  rw [applyM_eq]
  constructor
  · intro h
    cases hm : mulM o a (colM x) with
    | none => rw [hm] at h; cases h
    | some M =>
      rw [hm] at h
      obtain rfl := Option.some.inj h
      rw [colM_heads (mulM_one hm).2]
  · intro h
    rw [h]
    show some _ = some _
    congr 1
    show List.map (fun r => r.getD 0 0) (List.map (fun x => [x]) m) = m
    rw [List.map_map]
    conv => rhs; rw [← List.map_id m]
    rfl
/-- A column times a product is so one behind the other. -/
theorem apply_apply (h : Prm wb p) {a b q : Mtx} {x m : List Int} (hq : mulM (some (wb, p)) a b = some q) (hm : applyM (some (wb, p)) b x = some m) :
    ∃ n, applyM (some (wb, p)) a m = some n ∧ applyM (some (wb, p)) q x = some n := by
  obtain ⟨z, h1, h2⟩ := mulM_assoc h hq (applyM_mul.1 hm)
  have hz := (mulM_one h1).2
  refine ⟨z.map fun r => r.getD 0 0, applyM_mul.2 ?_, applyM_mul.2 ?_⟩
  · rw [colM_heads hz]; exact h2
  · rw [colM_heads hz]; exact h1
theorem xorI {x y : Int} {k : Nat} (hx : 0 ≤ x ∧ x < ((2 ^ k : Nat) : Int)) (hy : 0 ≤ y ∧ y < ((2 ^ k : Nat) : Int)) : (x.toNat ^^^ y.toNat) < 2 ^ k := Px.xor_lt (by omega) (by omega)
/-- A sum of columns has the sum of what both have. -/
theorem apply_sum (h : Prm wb p) {b : Mtx} {x y s m : List Int} (hm : applyM (some (wb, p)) b x = some m) (hl : y.length = x.length) (hs : s.length = x.length) (hy : ∀ z ∈ y, 0 ≤ z ∧ z < ((2 ^ wb : Nat) : Int))
    (hsx : ∀ i, i < x.length → s[i]? = some ((((x.getD i 0).toNat ^^^ (y.getD i 0).toNat : Nat)) : Int)) :
    ∃ q t, applyM (some (wb, p)) b y = some q ∧ applyM (some (wb, p)) b s = some t ∧ q.length = m.length ∧ t.length = m.length ∧ ∀ i, i < m.length → ∃ u v : Nat, m[i]? = some (u : Int) ∧ q[i]? = some (v : Int) ∧ t[i]? = some ((u ^^^ v : Nat) : Int) ∧ u < 2 ^ wb ∧ v < 2 ^ wb := by
  have hmm := applyM_mul.1 hm
  obtain ⟨n, k, j, hb, hx, hn, hk, hj, hM⟩ := mulM_some h hmm
  obtain rfl : j = 1 := by rw [← hx.wid (by omega)]; cases x with | nil => have := hx.1; simp [colM] at this; omega | cons z x => rfl
  have hkx : x.length = k := by rw [← hx.1, colM_length]
  subst hkx
  have hxb := hx.col_inv
  have hY : Mx wb x.length 1 (colM y) := by rw [← hl]; exact Mx.col hy
  have hsb : ∀ z ∈ s, 0 ≤ z ∧ z < ((2 ^ wb : Nat) : Int) := by
    intro z hz
    obtain ⟨i, hi⟩ := List.getElem?_of_mem hz
    have hil := (List.getElem?_eq_some_iff.1 hi).1
    rw [hsx i (by omega)] at hi
    obtain rfl := Option.some.inj hi
    have := xorI (hxb (x.getD i 0) (by rw [getD_of (by omega)]; exact List.getElem_mem _)) (hy (y.getD i 0) (by rw [getD_of (by omega)]; exact List.getElem_mem _))
    exact ⟨by omega, by omega⟩
  have hS : Mx wb x.length 1 (colM s) := by rw [← hs]; exact Mx.col hsb
  have e1 := mulM_tab h hb hY hn hk ⟨by omega, by omega⟩
  have e2 := mulM_tab h hb hS hn hk ⟨by omega, by omega⟩
  have hd : ∀ (f : Nat → Nat → Nat), colM ((tab n 1 f).map fun r => r.getD 0 0) = tab n 1 f := fun f => colM_heads fun r hr => by
    obtain ⟨i, _, rfl⟩ := List.mem_map.1 hr; simp
  have hat : ∀ (f : Nat → Nat → Nat) i, i < n → ((tab n 1 f).map fun r => r.getD 0 0)[i]? = some (f i 0 : Int) := fun f i hi => by
    rw [List.getElem?_map, tab_at hi]; rfl
  have hmi : m = (tab n 1 fun i j => xsum x.length fun l => h.fld.mul (en b i l) (en (colM x) l j)).map fun r => r.getD 0 0 := by
    rw [← hM]; unfold colM; rw [List.map_map]; conv => lhs; rw [← List.map_id m]
    rfl
  refine ⟨_, _, applyM_mul.2 (by rw [hd]; exact e1), applyM_mul.2 (by rw [hd]; exact e2), by rw [hmi]; simp [tab_length], by rw [hmi]; simp [tab_length], fun i hi => ?_⟩
  have hin : i < n := by rw [hmi] at hi; simpa [tab_length] using hi
  refine ⟨_, _, by rw [hmi]; exact hat _ i hin, hat _ i hin, ?_, ?_, ?_⟩
  · rw [hat _ i hin, ← xsum_xor]
    congr 2
    refine xsum_congr fun l hlx => ?_
    have e := hsx l hlx
    have es : en (colM s) l 0 = en (colM x) l 0 ^^^ en (colM y) l 0 := by
      rw [en_col, en_col, en_col, List.getD_eq_getElem?_getD, e]; simp
    rw [es, h.fld.dist]
  · exact xsum_lt fun l _ => by have := h.fld.lt (en b i l) (en (colM x) l 0); rw [h.fld_w] at this; exact this
  · exact xsum_lt fun l _ => by have := h.fld.lt (en b i l) (en (colM y) l 0); rw [h.fld_w] at this; exact this

/-! ### no matrix -/
theorem mayM_none (a : Mtx) : mayM none a = false := by
  rw [Bool.eq_false_iff]
  intro h
  obtain ⟨h1, h2, h3, h4, h5⟩ := mayM_pos h
  obtain ⟨r, hr⟩ : ∃ r, a[0]? = some r := ⟨_, List.getElem?_eq_getElem (by omega)⟩
  have hw := wid_at hr
  have := (h5 r (List.mem_of_getElem? hr)).2 (r[0]'(by omega)) (List.getElem_mem _)
  rw [inF_none] at this
  cases this
theorem mayM_odd {o : Fq} {a : Mtx} (ha : fewM a = true) (h0 : a ≠ []) : mayM o (a ++ [List.replicate 11 0]) = false := by
  rw [Bool.eq_false_iff]
  intro h
  obtain ⟨h1, h2, h3, h4, h5⟩ := mayM_pos h
  have hp := List.length_pos_iff.2 h0
  obtain ⟨r, hr⟩ : ∃ r, a[0]? = some r := ⟨_, List.getElem?_eq_getElem hp⟩
  have hw := wid_at (a := a ++ [List.replicate 11 0]) (r := r) (by rw [List.getElem?_append_left hp, hr])
  have := (h5 (List.replicate 11 0) (by simp)).1
  have h6 := (fewM_iff.1 ha).2 r (List.mem_of_getElem? hr)
  rw [List.length_replicate, hw] at this
  omega
theorem mayM_lens {o : Fq} {a : Mtx} (h : mayM o a = true) : a.length ≤ 20 ∧ ∀ r ∈ a, r.length ≤ 20 := by
  obtain ⟨h1, h2, h3, h4, h5⟩ := mayM_pos h
  exact ⟨h2, fun r hr => by have := (h5 r hr).1; omega⟩
theorem mulM_lens (o : Fq) (a b : Mtx) : ((mulM o a b).getD []).length ≤ 20 ∧ ∀ r ∈ (mulM o a b).getD [], r.length ≤ 20 := by
  cases h : mulM o a b with
  | none => simp
  | some x =>
    obtain ⟨h1, h2, h3, rfl⟩ := mulM_inv h
    obtain ⟨a1, a2, a3, a4, a5⟩ := mayM_pos h1
    obtain ⟨b1, b2, b3, b4, b5⟩ := mayM_pos h2
    refine ⟨by simpa using a2, fun r hr => ?_⟩
    obtain ⟨s, hs, rfl⟩ := List.mem_map.1 hr
    rw [mulRow_length]; exact b4
theorem pickM_lens (o : Fq) (a : Mtx) (l : List Int) : ((pickM o a l).getD []).length ≤ 20 ∧ ∀ r ∈ (pickM o a l).getD [], r.length ≤ 20 := by
  cases h : pickM o a l with
  | none => simp
  | some x => exact mayM_lens (pickM_may h).1
theorem joinM_lens (o : Fq) (a b : Mtx) : ((joinM o a b).getD []).length ≤ 20 ∧ ∀ r ∈ (joinM o a b).getD [], r.length ≤ 20 := by
  cases h : joinM o a b with
  | none => simp
  | some x =>
    unfold joinM at h
    split at h
    · rename_i hb
      obtain rfl := Option.some.inj h
      simp only [joinB, Bool.and_eq_true, decide_eq_true_eq] at hb
      obtain ⟨⟨⟨h1, h2⟩, h3⟩, h4⟩ := hb
      refine ⟨by simpa using h4, fun r hr => ?_⟩
      rcases List.mem_append.1 hr with hr | hr
      · exact (mayM_lens h1).2 r hr
      · exact (mayM_lens h2).2 r hr
    · cases h
theorem idM_lens (n : Int) : (identM n).length ≤ 20 ∧ ∀ r ∈ identM n, r.length ≤ 20 := by
  unfold identM
  split
  · rename_i h
    refine ⟨by rw [idM_len]; omega, fun r hr => ?_⟩
    obtain ⟨i, _, rfl⟩ := List.mem_map.1 hr
    simp; omega
  · simp
theorem len20 {a : Mtx} (h : a.length ≤ 20 ∧ ∀ r ∈ a, r.length ≤ 20) : a.length ≤ maxLen ∧ ∀ r ∈ a, r.length ≤ maxLen := ⟨Nat.le_trans h.1 (by decide), fun r hr => Nat.le_trans (h.2 r hr) (by decide)⟩
theorem len1k {a : Mtx} (h : a.length ≤ 20 ∧ ∀ r ∈ a, r.length ≤ 20) : a.length ≤ 1000 ∧ ∀ r ∈ a, r.length ≤ 1000 := ⟨Nat.le_trans h.1 (by decide), fun r hr => Nat.le_trans (h.2 r hr) (by decide)⟩
theorem few20 {a : Mtx} (h : fewM a = true) : a.length ≤ 20 ∧ ∀ r ∈ a, r.length ≤ 20 := by
  obtain ⟨h1, h2⟩ := fewM_iff.1 h
  exact ⟨by omega, fun r hr => by have := h2 r hr; omega⟩
theorem Mat.one {D : FD} {B N cap : Nat} {w : World} {E2 : TypeId} {sa : Option Addr} {b : Option Nat} {u : Value} {r : List Int} (h : Own D B N w E2 (.slice sa 1 cap) b [u]) (hE : E2 ≠ D.T) (hr : Row D B w.heap.size w u (zints r)) : Mat D B w.heap.size w sa cap [r] :=
  ⟨[u], rfl, h.row hE, fun j v r' hv hr' => by
    match j with
    | 0 => simp at hv hr'; subst hv; subst hr'; exact hr
    | j + 1 => simp at hv⟩
theorem Mat.two {D : FD} {B N cap : Nat} {w : World} {E2 : TypeId} {sa : Option Addr} {b : Option Nat} {u v : Value} {r s : List Int} (h : Own D B N w E2 (.slice sa 2 cap) b [u, v]) (hE : E2 ≠ D.T) (hr : Row D B w.heap.size w u (zints r)) (hs : Row D B w.heap.size w v (zints s)) : Mat D B w.heap.size w sa cap [r, s] :=
  ⟨[u, v], rfl, h.row hE, fun j v' r' hv hr' => by
    match j with
    | 0 => simp at hv hr'; subst hv; subst hr'; exact hr
    | 1 => simp at hv hr'; subst hv; subst hr'; exact hs
    | j + 2 => simp at hv⟩
theorem errV_some {α : Type} (x : α) : errV (some x) = 0 := rfl
theorem errV_none {α : Type} : errV (none : Option α) = 1 := rfl
/-- Two rows that have no block in common. -/
def Dj (b c : Option Nat) : Prop := ∀ k, b = some k → c ≠ some k
theorem Dj.nil (c : Option Nat) : Dj none c := fun k h => by cases h
theorem Dj.symm {b c : Option Nat} (h : Dj b c) : Dj c b := fun k h1 h2 => h k h2 h1
theorem Dj.app {b b' c : Option Nat} {n m : Nat} (hb : b' = b ∨ b' = some n) (h : Dj b c) (hl : ∀ k, c = some k → m ≤ k ∧ k < n) : Dj b' c := by
  intro k h1 h2
  rcases hb with rfl | rfl
  · exact h k h1 h2
  · obtain rfl := Option.some.inj h1
    have := (hl n h2).2
    omega
/-- Bytes as numbers: from place h on, i of them; the sums of two halves. -/
def zpart (v : List Nat) (h i : Nat) : List Int := (List.range i).map fun j => ((v.getD (h + j) 0 : Nat) : Int)
def zsum (v : List Nat) (h i : Nat) : List Int := (List.range i).map fun j => ((v.getD j 0 ^^^ v.getD (h + j) 0 : Nat) : Int)
theorem zpart_snoc {v : List Nat} {h i x : Nat} (hx : v[h + i]? = some x) : zpart v h (i + 1) = zpart v h i ++ [(x : Int)] := by
  unfold zpart; rw [List.range_succ, List.map_append]; simp [List.getD_eq_getElem?_getD, hx]
theorem zsum_snoc {v : List Nat} {h i x y : Nat} (hx : v[i]? = some x) (hy : v[h + i]? = some y) : zsum v h (i + 1) = zsum v h i ++ [((x ^^^ y : Nat) : Int)] := by
  unfold zsum; rw [List.range_succ, List.map_append]; simp [List.getD_eq_getElem?_getD, hx, hy]
theorem zpart_length (v : List Nat) (h i : Nat) : (zpart v h i).length = i := by simp [zpart]
theorem zsum_length (v : List Nat) (h i : Nat) : (zsum v h i).length = i := by simp [zsum]
theorem zpart_lt {v : List Nat} (hv : ∀ x ∈ v, x < 256) (h i : Nat) : ∀ z ∈ zpart v h i, 0 ≤ z ∧ z < ((2 ^ 8 : Nat) : Int) := by
  intro z hz
  obtain ⟨j, _, rfl⟩ := List.mem_map.1 hz
  have : v.getD (h + j) 0 < 256 := by
    rw [List.getD_eq_getElem?_getD]
    cases hx : v[h + j]? with
    | none => simp
    | some x => exact hv x (List.mem_of_getElem? hx)
  exact ⟨by omega, by omega⟩
theorem zsum_at {v : List Nat} {h i n : Nat} (hi : i < n) : (zsum v h n)[i]? = some ((((zpart v 0 n).getD i 0).toNat ^^^ ((zpart v h n).getD i 0).toNat : Nat) : Int) := by
  unfold zsum zpart
  simp [hi, List.getD_eq_getElem?_getD]
/-- Rows that are picked by bytes. -/
def zmods (v : List Nat) (n i : Nat) : List Int := ((v.take i).map fun x => ((x % n : Nat) : Int))
theorem zmods_snoc {v : List Nat} {n i x : Nat} (hx : v[i]? = some x) : zmods v n (i + 1) = zmods v n i ++ [((x % n : Nat) : Int)] := map_snoc hx
theorem zmods_lt {v : List Nat} {n i : Nat} (hn : 1 ≤ n) : ∀ z ∈ zmods v n i, 0 ≤ z ∧ z < (n : Int) := by
  intro z hz
  obtain ⟨x, _, rfl⟩ := List.mem_map.1 hz
  have := Nat.mod_lt x hn
  exact ⟨by omega, by omega⟩
theorem apply_len {o : Fq} {a : Mtx} {x m : List Int} (h : applyM o a x = some m) : m.length = a.length := by
  have h2 := (mulM_one (applyM_mul.1 h)).1
  rw [colM_length] at h2; exact h2
theorem pick_odd {o : Fq} {a : Mtx} (h : fewM a = true) (h0 : a ≠ []) (l : List Int) : pickM o (a ++ [List.replicate 11 0]) l = none := pickM_f (.inl (mayM_odd h h0))
theorem join_odd {o : Fq} {a : Mtx} (h : fewM a = true) : joinM o a (a ++ [List.replicate 11 0]) = none := by
  by_cases h0 : a = []
  · subst h0; exact joinM_f (.inl rfl)
  · exact joinM_f (.inr (.inl (mayM_odd h h0)))
theorem odd_lens {a : Mtx} (h : fewM a = true) : (a ++ [List.replicate 11 0]).length ≤ maxLen ∧ ∀ r ∈ a ++ [List.replicate 11 0], r.length ≤ maxLen := by
  have h1 := few20 h
  refine ⟨Nat.le_trans (show _ ≤ 1000 by simp; omega) (by decide), fun r hr => Nat.le_trans (show _ ≤ 1000 from ?_) (by decide)⟩
  rcases List.mem_append.1 hr with hr | hr
  · have := h1.2 r hr; omega
  · obtain rfl : r = List.replicate 11 0 := by simpa using hr
    simp
theorem identM_zero {n : Int} : (identM n).length = 0 ↔ n < 1 ∨ 20 < n := by
  unfold identM
  split
  · rw [idM_len]; omega
  · simp; omega
end
end Go.Gam
