/- What the statements of layer 5 ask of inverses, ranks, what is solved. No program in sight. -/
import Derived.Test.YtkoiolamnnmokaaDoorGWm
set_option linter.unusedVariables false
set_option linter.unusedSimpArgs false
namespace Go.Gam
open Px

namespace Fld
variable (F : Fld)
theorem piv_congr {n c : Nat} {f g : Tb} (h : ∀ i, i < n → f i c = g i c) : ∀ {d t : Nat}, t + d ≤ n → piv f n c t d = piv g n c t d
  | 0, _, _ => rfl
  | d + 1, t, hd => by
    unfold piv
    rw [h t (by omega), piv_congr h (by omega)]
/-- The reduction looks at the first columns alone. -/
theorem red_cols {n C : Nat} {f g : Tb} (h : ∀ i, i < n → ∀ j, j < C → f i j = g i j) : ∀ c, c ≤ C → (F.red n f c).2 = (F.red n g c).2 ∧ (∀ i, i < n → ∀ j, j < C → (F.red n f c).1 i j = (F.red n g c).1 i j) ∧ (F.red n f c).2 ≤ n
  | 0, _ => ⟨rfl, h, Nat.zero_le _⟩
  | c + 1, hc => by
    obtain ⟨h1, h2, h3⟩ := red_cols h c (by omega)
    rw [red, red, ← h1]
    clear h1
    generalize (F.red n f c).1 = f1 at *
    generalize (F.red n g c).1 = g1 at *
    generalize (F.red n f c).2 = t at *
    have hp : piv f1 n c t (n - t) = piv g1 n c t (n - t) := piv_congr (fun i hi => h2 i hi c (by omega)) (by omega)
    unfold stp
    rw [← hp]
    cases hk : piv f1 n c t (n - t) with
    | none => exact ⟨rfl, h2, h3⟩
    | some k =>
      obtain ⟨k1, k2, -, -⟩ := piv_some hk
      refine ⟨rfl, fun i hi j hj => ?_, by show t + 1 ≤ n; omega⟩
      dsimp only
      unfold op
      rw [h2 k (by omega) j hj, h2 k (by omega) c (by omega), h2 _ (sw_lt (by omega) (by omega) hi) j hj]
      dsimp only
      rw [h2 _ (sw_lt (by omega) (by omega) hi) c (by omega)]
theorem rk_congr {n c : Nat} {f g : Tb} (h : ∀ i, i < n → ∀ j, j < c → f i j = g i j) : F.rk n f c = F.rk n g c := (F.red_cols h c (Nat.le_refl _)).1
theorem Iv.congr {n : Nat} {E E' G : Tb} (h : F.Iv n E E') (hb : F.Bd G) (he : ∀ i j, i < n → j < n → G i j = E i j) : F.Iv n G E' :=
  ⟨hb, h.bd', fun i j hi hj => by rw [← h.r i j hi hj]; exact F.mm_congr (fun l hl => he i l hi hl) (fun _ _ => rfl), fun i j hi hj => by rw [← h.l i j hi hj]; exact F.mm_congr (fun _ _ => rfl) (fun l hl => he l j hl hj)⟩
theorem rk_iv {n : Nat} {f : Tb} (h : (F.iv n f).isSome = true) : F.rk n f n = n := by
  have e : F.rk n f n = F.rk n (bes n f I1) n := F.rk_congr fun i _ j hj => by unfold bes; rw [if_pos hj]
  unfold iv at h
  split at h
  · cases h
  · rename_i hn
    have h2 : ¬ F.rk n (bes n f I1) n < n := hn
    have h3 := (F.red_cols (n := n) (C := n) (f := f) (g := f) (fun _ _ _ _ => rfl) n (Nat.le_refl _)).2.2
    have h4 : F.rk n f n ≤ n := h3
    omega
theorem rk_sing {n : Nat} {f : Tb} (h : F.iv n f = none) : F.rk n f n < n := by
  have e : F.rk n f n = F.rk n (bes n f I1) n := F.rk_congr fun i _ j hj => by unfold bes; rw [if_pos hj]
  unfold iv at h
  split at h
  · rename_i hn
    have h2 : F.rk n (bes n f I1) n < n := hn
    omega
  · cases h
/-- The rows twice. -/
theorem rk_twice {n c : Nat} {f g : Tb} (hf : F.Bd f) (hg : F.Bd g) (h1 : ∀ i, i < n → ∀ j, j < c → g i j = f i j) (h2 : ∀ i, i < n → ∀ j, j < c → g (n + i) j = f i j) : F.rk (n + n) g c = F.rk n f c := by
  refine Nat.le_antisymm (F.rk_mono hg hf (Sp.sub F hf (fun i => if i < n then i else i - n) fun i hi => ?_)) (F.rk_mono hf hg (Sp.sub F hg (fun i => i) fun i hi => ⟨by omega, fun j hj => (h1 i hi j hj).symm⟩))
  by_cases e : i < n
  · rw [if_pos e]; exact ⟨e, fun j hj => h1 i e j hj⟩
  · rw [if_neg e]
    refine ⟨by omega, fun j hj => ?_⟩
    have := h2 (i - n) (by omega) j hj
    rw [show n + (i - n) = i by omega] at this
    exact this
theorem rk_pos {n c i j : Nat} {f : Tb} (hf : F.Bd f) (hi : i < n) (hj : j < c) (h : f i j ≠ 0) : 0 < F.rk n f c := by
  obtain ⟨g, -, -, ⟨C, -, hC⟩, -⟩ := F.rk_rows (n := n) (c := c) hf
  refine Nat.pos_of_ne_zero fun e => h ?_
  rw [hC i j hi hj, e]; rfl
end Fld

section
variable {wb p : Nat} (hp : Prm wb p)
theorem fld_bd16 {f : Tb} (h : hp.fld.Bd f) : ∀ i j, f i j < 2 ^ wb := fun i j => by have := h i j; rw [hp.fld_w] at this; exact this
theorem inv_reg {a : Mtx} (hsq : sqM (some (wb, p)) a = true) (h : (invR hp a).1 = 0) : ∃ g, hp.fld.iv a.length (en a) = some g ∧ hp.fld.Iv a.length (en a) g ∧ invR hp a = (0, tab a.length a.length g) := by
  obtain ⟨hm, -⟩ := sqM_Mx hsq
  cases hi : hp.fld.iv a.length (en a) with
  | none => rw [invR_none hp hsq hi] at h; cases h
  | some g => exact ⟨g, rfl, hp.fld.iv_some (hm.bd hp) hi, invR_some hp hsq hi⟩
theorem inv_no {a : Mtx} (hsq : sqM (some (wb, p)) a = true) (h : (invR hp a).1 ≠ 0) : hp.fld.iv a.length (en a) = none ∧ invR hp a = (2, []) := by
  cases hi : hp.fld.iv a.length (en a) with
  | none => exact ⟨rfl, invR_none hp hsq hi⟩
  | some g => rw [invR_some hp hsq hi] at h; exact absurd rfl h
theorem rankR_sq {a : Mtx} (hsq : sqM (some (wb, p)) a = true) : rankR hp a = (((hp.fld.rk a.length (en a) a.length : Nat) : Int), 0) := by
  have h := hsq
  simp only [sqM, Bool.and_eq_true, decide_eq_true_eq] at h
  unfold rankR
  rw [if_pos h.1, ← h.2]
theorem inv_sing {a : Mtx} (hsq : sqM (some (wb, p)) a = true) (h : (invR hp a).1 ≠ 0) : invR hp a = (2, []) ∧ (rankR hp a).2 = 0 ∧ (rankR hp a).1 < (a.length : Int) := by
  obtain ⟨h1, h2⟩ := inv_no hp hsq h
  have := hp.fld.rk_sing h1
  rw [rankR_sq hp hsq]
  exact ⟨h2, rfl, by show ((hp.fld.rk a.length (en a) a.length : Nat) : Int) < _; omega⟩
theorem tab_en {n m : Nat} {g : Tb} {i j : Nat} (hi : i < n) (hj : j < m) : en (tab n m g) i j = g i j := en_tab hi hj
theorem mx_tab {n m : Nat} {g : Tb} (h : hp.fld.Bd g) : Mx wb n m (tab n m g) := Mx.tab fun i j _ _ => fld_bd16 hp h i j
theorem mulM_Iv {n : Nat} {a b : Mtx} (ha : Mx wb n n a) (hb : Mx wb n n b) (hn : 1 ≤ n ∧ n ≤ 20) (h : ∀ i j, i < n → j < n → hp.fld.mm n (en a) (en b) i j = I1 i j) : mulM (some (wb, p)) a b = some (idM n) := by
  rw [mulM_tab hp ha hb hn hn hn, idM_tab]
  congr 1
  exact tab_congr fun i j hi hj => h i j hi hj
theorem inv_back {a : Mtx} (hsq : sqM (some (wb, p)) a = true) (h : (invR hp a).1 = 0) :
    ∃ x, invR hp a = (0, x) ∧ mulM (some (wb, p)) a x = some (idM a.length) ∧ mulM (some (wb, p)) x a = some (idM a.length) ∧ invR hp x = (0, a) ∧ rankR hp a = ((a.length : Int), 0) := by
  obtain ⟨hm, h1, h2, -⟩ := sqM_Mx hsq
  obtain ⟨g, hg, hI, he⟩ := inv_reg hp hsq h
  have hx := mx_tab hp (n := a.length) (m := a.length) hI.bd'
  have hI2 : hp.fld.Iv a.length (en (tab a.length a.length g)) (en a) := (hI.symm).congr hp.fld (hx.bd hp) fun i j hi hj => en_tab hi hj
  refine ⟨_, he, mulM_Iv hp hm hx ⟨h1, h2⟩ fun i j hi hj => hI2.l i j hi hj, mulM_Iv hp hx hm ⟨h1, h2⟩ fun i j hi hj => hI2.r i j hi hj, ?_, ?_⟩
  · have hsx := hx.sq (p := p) h1 h2
    obtain ⟨k, hk⟩ := hp.fld.iv_of_Iv hI2
    have hl : (tab a.length a.length g).length = a.length := tab_length _ _ _
    have hk' : hp.fld.iv (tab a.length a.length g).length (en (tab a.length a.length g)) = some k := by rw [hl]; exact hk
    rw [invR_some hp hsx hk', hl]
    congr 1
    have hu := (hp.fld.iv_some (hx.bd hp) hk).uniq hp.fld (hm.bd hp) fun i j hi hj => hI2.r i j hi hj
    conv => rhs; rw [hm.eq_tab]
    exact tab_congr fun i j hi hj => (hu i j hi hj).symm
  · rw [rankR_sq hp hsq, hp.fld.rk_iv (by rw [hg]; rfl)]
theorem prod_inv {a b c : Mtx} (ha : sqM (some (wb, p)) a = true) (hb : sqM (some (wb, p)) b = true) (hc : mulM (some (wb, p)) a b = some c) :
    sqM (some (wb, p)) c = true ∧ (((invR hp a).1 ≠ 0 ∨ (invR hp b).1 ≠ 0) → (invR hp c).1 = 2) ∧ ((invR hp a).1 = 0 → (invR hp b).1 = 0 → ∃ z, invR hp c = (0, z) ∧ mulM (some (wb, p)) (invR hp b).2 (invR hp a).2 = some z) := by
  obtain ⟨hma, a1, a2, a3⟩ := sqM_Mx ha
  obtain ⟨hmb, b1, b2, b3⟩ := sqM_Mx hb
  obtain ⟨-, -, hw, -⟩ := mulM_inv hc
  have hl : b.length = a.length := by omega
  rw [hl] at hmb b1 b2
  rw [mulM_tab hp hma hmb ⟨a1, a2⟩ ⟨a1, a2⟩ ⟨a1, a2⟩] at hc
  obtain rfl := Option.some.inj hc
  have hbd := hp.fld.mm_bd a.length (en a) (en b)
  have hmc := mx_tab hp (n := a.length) (m := a.length) hbd
  have hlc : (tab a.length a.length (hp.fld.mm a.length (en a) (en b))).length = a.length := tab_length _ _ _
  have hsc := hmc.sq (p := p) a1 a2
  have hen : ∀ i j, i < a.length → j < a.length → en (tab a.length a.length (hp.fld.mm a.length (en a) (en b))) i j = hp.fld.mm a.length (en a) (en b) i j := fun i j hi hj => en_tab hi hj
  refine ⟨hsc, fun hno => ?_, fun h0 h0' => ?_⟩
  · refine Classical.byContradiction fun hc2 => ?_
    have hc0 : (invR hp (tab a.length a.length (hp.fld.mm a.length (en a) (en b)))).1 = 0 := Classical.byContradiction fun h => hc2 (by have := (inv_no hp hsc h).2; rw [show (tab a.length a.length fun i j => xsum a.length fun l => hp.fld.mul (en a i l) (en b l j)) = tab a.length a.length (hp.fld.mm a.length (en a) (en b)) from rfl, this])
    obtain ⟨g, -, hI, -⟩ := inv_reg hp hsc hc0
    rw [hlc] at hI
    obtain ⟨⟨x, hx⟩, ⟨y, hy⟩⟩ := Fld.Iv.of_mul hp.fld (hma.bd hp) (hmb.bd hp) (hI.congr hp.fld hbd fun i j hi hj => (hen i j hi hj).symm)
    rcases hno with h | h
    · rw [(inv_no hp ha h).1] at hx; cases hx
    · have := (inv_no hp hb h).1
      rw [hl, hy] at this; cases this
  · obtain ⟨x, -, hx, ex⟩ := inv_reg hp ha h0
    obtain ⟨y, -, hy, ey⟩ := inv_reg hp hb h0'
    rw [hl] at hy ey
    have hI := (hx.mul hp.fld hy).congr hp.fld (hmc.bd hp) hen
    obtain ⟨k, hk⟩ := hp.fld.iv_of_Iv hI
    have hu := (hp.fld.iv_some (hmc.bd hp) hk).uniq hp.fld hI.bd' fun i j hi hj => hI.r i j hi hj
    have hk' : hp.fld.iv (tab a.length a.length (hp.fld.mm a.length (en a) (en b))).length (en (tab a.length a.length (hp.fld.mm a.length (en a) (en b)))) = some k := by rw [hlc]; exact hk
    refine ⟨_, invR_some hp hsc hk', ?_⟩
    rw [ex, ey, tab_length]
    show mulM _ (tab a.length a.length y) (tab a.length a.length x) = _
    rw [mulM_tab hp (mx_tab hp hy.bd') (mx_tab hp hx.bd') ⟨a1, a2⟩ ⟨a1, a2⟩ ⟨a1, a2⟩]
    congr 1
    refine tab_congr fun i j hi hj => ?_
    rw [← hu i j hi hj]
    exact xsum_congr fun l hl => by rw [en_tab hi hl, en_tab hl hj]
theorem sol_back {a : Mtx} {x y : List Int} (ha : sqM (some (wb, p)) a = true) (hy : applyM (some (wb, p)) a x = some y) :
    ((invR hp a).1 ≠ 0 → solR hp a y = (2, []) ∧ invR hp a = (2, [])) ∧ ((invR hp a).1 = 0 → solR hp a y = (0, x) ∧ x.length = a.length) := by
  obtain ⟨hma, a1, a2, a3⟩ := sqM_Mx ha
  have hmul := applyM_mul.1 hy
  obtain ⟨n, m, k, h1, h2, hn, hm, hk, hM⟩ := mulM_some hp hmul
  have e1 : n = a.length := h1.1.symm
  subst e1
  have e2 : m = a.length := by rw [← h1.wid (by omega), a3]
  subst e2
  have hkx : x.length = a.length := by rw [← h2.1, colM_length]
  have hk1 : k = 1 := by
    rw [← h2.wid (by omega)]
    cases x with
    | nil => have := h2.1; simp [colM] at this; omega
    | cons z x => rfl
  subst hk1
  have hcy : Mx wb a.length 1 (colM y) := by rw [hM]; exact Mx.mul hp _ _
  have hyl : y.length = a.length := by rw [← hcy.1, colM_length]
  have hok : sqM (some (wb, p)) a = true ∧ y.length = a.length ∧ (∀ z ∈ y, inF (some (wb, p)) z = true) := ⟨ha, hyl, fun z hz => inF_some.2 ((hyl ▸ hcy).col_inv z hz)⟩
  refine ⟨fun h => ?_, fun h => ?_⟩
  · obtain ⟨-, he⟩ := inv_no hp ha h
    rw [solR_none hp hok h, he]; exact ⟨rfl, rfl⟩
  · refine ⟨?_, hkx⟩
    obtain ⟨u, e, -, hua, -, -⟩ := inv_back hp ha h
    rw [solR_some hp hok h, e]
    show (0, (applyM (some (wb, p)) u y).getD []) = _
    obtain ⟨z, z1, z2⟩ := apply_apply hp hua hy
    rw [z1]
    have hid : applyM (some (wb, p)) (idM a.length) x = some x := applyM_mul.2 (mulM_idl hp h2 ⟨a1, a2⟩ ⟨by omega, by omega⟩)
    rw [hid] at z2
    obtain rfl := Option.some.inj z2
    rfl
theorem en_take {a : Mtx} {k i j : Nat} (h : i < k) : en (a.take k) i j = en a i j := by
  unfold en
  simp [List.getD_eq_getElem?_getD, List.getElem?_take, h]
theorem en_app {a b : Mtx} {i j : Nat} (h : i < a.length) : en (a ++ b) i j = en a i j := by
  unfold en
  simp [List.getD_eq_getElem?_getD, List.getElem?_append_left h]
theorem en_app2 {a b : Mtx} {i j : Nat} : en (a ++ b) (a.length + i) j = en b i j := by
  unfold en
  simp [List.getD_eq_getElem?_getD, List.getElem?_append_right]
theorem rank_bd {a : Mtx} (h : mayM (some (wb, p)) a = true) : ∃ r : Nat, rankR hp a = ((r : Int), 0) ∧ r ≤ a.length ∧ r ≤ wid a := by
  obtain ⟨hm, -⟩ := mayM_Mx h
  have := hp.fld.rk_le (n := a.length) (c := wid a) (hm.bd hp)
  exact ⟨_, if_pos h, this.1, this.2⟩
theorem rank_twice {a : Mtx} (h : mayM (some (wb, p)) a = true) (h10 : a.length ≤ 10) : joinM (some (wb, p)) a a = some (a ++ a) ∧ rankR hp (a ++ a) = rankR hp a := by
  obtain ⟨hm, h1, h2, h3, h4⟩ := mayM_Mx h
  obtain ⟨b1, b2, b3, b4, b5⟩ := mayM_pos h
  have hw : wid (a ++ a) = wid a := by
    obtain ⟨r, hr⟩ : ∃ r, a[0]? = some r := ⟨_, List.getElem?_eq_getElem (by omega)⟩
    rw [wid_at hr, wid_at (r := r) (by rw [List.getElem?_append_left (by omega), hr])]
  have hmm : mayM (some (wb, p)) (a ++ a) = true := mayM_of (by simp; omega) (by simp; omega) (by omega) (by omega) fun r hr => by
    rw [hw]; exact b5 r (by simpa using hr)
  refine ⟨joinM_t h h rfl (by omega), ?_⟩
  unfold rankR
  rw [if_pos h, if_pos hmm, hw, List.length_append]
  have hm2 := (mayM_Mx hmm).1
  rw [hp.fld.rk_twice (f := en a) (hm.bd hp) (hm2.bd hp) (fun i hi j _ => en_app hi) (fun i hi j _ => en_app2)]
theorem rank_less {a : Mtx} (h : mayM (some (wb, p)) a = true) (h2 : 2 ≤ a.length) : ∃ r l : Nat, rankR hp a = ((r : Int), 0) ∧ rankR hp (a.take (a.length - 1)) = ((l : Int), 0) ∧ l ≤ r ∧ r ≤ l + 1 := by
  obtain ⟨hm, h1, h20, h3, h4⟩ := mayM_Mx h
  obtain ⟨b1, b2, b3, b4, b5⟩ := mayM_pos h
  have hl : (a.take (a.length - 1)).length = a.length - 1 := by simp
  have hw : wid (a.take (a.length - 1)) = wid a := by
    obtain ⟨r, hr⟩ : ∃ r, a[0]? = some r := ⟨_, List.getElem?_eq_getElem (by omega)⟩
    rw [wid_at hr, wid_at (r := r) (by rw [List.getElem?_take, if_pos (by omega), hr])]
  have hmm : mayM (some (wb, p)) (a.take (a.length - 1)) = true := mayM_of (by omega) (by omega) (by omega) (by omega) fun r hr => by
    rw [hw]; exact b5 r (List.mem_of_mem_take hr)
  have hr := hp.fld.rk_more (c := wid a) (n := a.length - 1) (hm.bd hp)
  rw [show a.length - 1 + 1 = a.length by omega] at hr
  refine ⟨_, _, if_pos h, ?_, hr⟩
  unfold rankR
  rw [if_pos hmm, hw, hl, hp.fld.rk_congr (g := en a) (fun i hi j _ => en_take hi)]
theorem sqM_of {a : Mtx} (h : mayM (some (wb, p)) a = true) (h2 : a.length = wid a) : sqM (some (wb, p)) a = true := by unfold sqM; rw [h, decide_eq_true h2]; rfl
end
/-- Are numbers all different, and below a bound? -/
def unl (l : List Int) (b : Int) : Bool := decide (l.Nodup ∧ ∀ x ∈ l, 0 ≤ x ∧ x < b)
theorem unl_no {l : List Int} {b : Int} (h : ¬ (l.Nodup ∧ ∀ x ∈ l, 0 ≤ x ∧ x < b)) : unl l b = false := decide_eq_false h
theorem nodup_no {l : List Int} {i k : Nat} {x : Int} (h : k < i) (hi : l[i]? = some x) (hk : l[k]? = some x) : ¬ l.Nodup := fun hn => by
  obtain ⟨h1, h2⟩ := List.getElem?_eq_some_iff.1 hi
  obtain ⟨h3, h4⟩ := List.getElem?_eq_some_iff.1 hk
  exact List.pairwise_iff_getElem.1 hn k i h3 h1 h (h4.trans h2.symm)
theorem nodup_snoc {l : List Int} {i : Nat} {x : Int} (h : (l.take i).Nodup) (hi : l[i]? = some x) (hx : ∀ y ∈ l.take i, y ≠ x) : (l.take (i + 1)).Nodup := by
  rw [take_snoc hi]
  refine List.pairwise_append.2 ⟨h, List.pairwise_singleton _ _, fun a ha b hb => ?_⟩
  obtain rfl : b = x := by simpa using hb
  exact hx a ha
theorem gpow_fld {wb p x n : Nat} (hp : Prm wb p) (hx : x < 2 ^ wb) : gpow (some (wb, p)) (x : Int) (n : Int) = (hp.fld.pow x n : Int) := by
  rw [gpow_in hx]; exact congrArg _ (fld_pow p hp.irrP x n).symm
/-- The rows of powers of some numbers. -/
def vtab {wb p : Nat} (hp : Prm wb p) (l : List Nat) : Tb := fun i k => hp.fld.pow (l.getD i 0) k
def vrows {wb p : Nat} (hp : Prm wb p) (l : List Nat) : Mtx := tab l.length l.length (vtab hp l)
theorem vrows_inv {wb p : Nat} (hp : Prm wb p) {l : List Nat} (h1 : 1 ≤ l.length) (h2 : l.length ≤ 20) (hl : ∀ x ∈ l, x < 256) : ((invR hp (vrows hp l)).1 = 0 ↔ unl (l.map fun (x : Nat) => (x : Int)) 256 = true) ∧ ((invR hp (vrows hp l)).1 = 0 ∨ (invR hp (vrows hp l)).1 = 2) := by
  have h16 := hp.size.1
  have hx : ∀ i, l.getD i 0 < 2 ^ hp.fld.w := fun i => by
    rw [hp.fld_w, List.getD_eq_getElem?_getD]
    cases hi : l[i]? with
    | none => simp; omega
    | some x => have := hl x (List.mem_of_getElem? hi); simp; omega
  have et : vrows hp l = tab l.length l.length fun i k => hp.fld.pow (l.getD i 0) k := rfl
  have hb : hp.fld.Bd fun i k => hp.fld.pow (l.getD i 0) k := fun i k => hp.fld.pow_lt _ _
  have hm : Mx wb l.length l.length (vrows hp l) := by rw [et]; exact mx_tab hp hb
  have hsq := hm.sq (p := p) h1 h2
  have hlen := hm.1
  have hen : ∀ i j, i < l.length → j < l.length → en (vrows hp l) i j = hp.fld.pow (l.getD i 0) j := fun i j hi hj => by rw [et]; exact en_tab hi hj
  have hiff := hp.fld.iv_congr (n := l.length) (hm.bd hp) hb hen
  have hcase : (invR hp (vrows hp l)).1 = 0 ∨ (invR hp (vrows hp l)).1 = 2 := by
    by_cases h : (invR hp (vrows hp l)).1 = 0
    · exact .inl h
    · rw [(inv_no hp hsq h).2]; exact .inr rfl
  refine ⟨⟨fun h => ?_, fun h => ?_⟩, hcase⟩
  · obtain ⟨g, hg, -⟩ := inv_reg hp hsq h
    rw [hlen] at hg
    rw [hg] at hiff
    refine decide_eq_true ⟨?_, fun x hx => ?_⟩
    · refine List.pairwise_iff_getElem.2 fun i j hi hj hij e => ?_
      have hjl : j < l.length := by simpa using hj
      simp only [List.getElem_map] at e
      have hn := hp.fld.iv_twice (n := l.length) hb (a := i) (b := j) (by omega) hjl (by omega) fun k _ => by
        rw [getD_of (show i < l.length by omega), getD_of hjl, show l[i] = l[j] by omega]
      rw [hn] at hiff
      cases hiff
    · obtain ⟨y, hy, rfl⟩ := List.mem_map.1 hx
      have := hl y hy
      exact ⟨by omega, by omega⟩
  · obtain ⟨hnd, -⟩ := of_decide_eq_true h
    obtain ⟨g, hg⟩ := hp.fld.vander (n := l.length) hx fun i j hi hj e => by
      refine Classical.byContradiction fun hne => ?_
      have key : ∀ a b, a < b → b < l.length → l.getD a 0 = l.getD b 0 → False := fun a b hab hb e => by
        refine List.pairwise_iff_getElem.1 hnd a b (by simp; omega) (by simpa using hb) hab ?_
        rw [getD_of (show a < l.length by omega), getD_of hb] at e
        simp [e]
      rcases Nat.lt_or_gt_of_ne hne with h' | h'
      · exact key i j h' hj e
      · exact key j i h' hi e.symm
    rw [hg] at hiff
    refine Classical.byContradiction fun h0 => ?_
    rw [← hlen, (inv_no hp hsq h0).1] at hiff
    cases hiff
/-! ### the smallest ones -/
theorem aw5_len (a b c d : Int) : ([[a, b], [c, d]] : Mtx).length ≤ maxLen ∧ ∀ r ∈ ([[a, b], [c, d]] : Mtx), r.length ≤ maxLen := by
  refine ⟨(by decide : (2 : Nat) ≤ maxLen), fun r hr => ?_⟩
  simp only [List.mem_cons, List.mem_nil_iff, or_false] at hr
  rcases hr with rfl | rfl <;> exact (by decide : (2 : Nat) ≤ maxLen)
theorem aw5_sq {a b c d : Int} (h : ∀ x ∈ [a, b, c, d], inF (some (8, 285)) x = true) : sqM (some (8, 285)) [[a, b], [c, d]] = true := by
  have hm : Mx 8 2 2 [[a, b], [c, d]] := ⟨rfl, fun r hr => by
    simp only [List.mem_cons, List.mem_nil_iff, or_false] at hr
    have h2 := fun x hx => inF_some.1 (h x hx)
    rcases hr with rfl | rfl
    · exact ⟨rfl, fun x hx => h2 x (by simp at hx ⊢; rcases hx with rfl | rfl <;> simp)⟩
    · exact ⟨rfl, fun x hx => h2 x (by simp at hx ⊢; rcases hx with rfl | rfl <;> simp)⟩⟩
  exact hm.sq (by decide) (by decide)
theorem aw5_no : invR prm_285 [[1, 1], [1, 1]] = (2, []) := by
  have hsq := aw5_sq (a := 1) (b := 1) (c := 1) (d := 1) (by decide)
  obtain ⟨hm, -⟩ := sqM_Mx hsq
  exact invR_none prm_285 hsq (prm_285.fld.iv_twice (n := 2) (hm.bd prm_285) (a := 0) (b := 1) (by decide) (by decide) (by decide) fun j hj => by
    match j, hj with
    | 0, _ => rfl
    | 1, _ => rfl)
theorem aw5_rank : rankR prm_285 [[1, 1], [1, 1]] = (1, 0) := by
  have hsq := aw5_sq (a := 1) (b := 1) (c := 1) (d := 1) (by decide)
  obtain ⟨hm, -⟩ := sqM_Mx hsq
  rw [rankR_sq prm_285 hsq]
  show (((prm_285.fld.rk 2 (en [[1, 1], [1, 1]]) 2 : Nat) : Int), (0 : Int)) = _
  have h1 : prm_285.fld.rk 2 (en [[1, 1], [1, 1]]) 2 < 2 := prm_285.fld.rk_sing (prm_285.fld.iv_twice (n := 2) (hm.bd prm_285) (a := 0) (b := 1) (by decide) (by decide) (by decide) fun j hj => by
    match j, hj with
    | 0, _ => rfl
    | 1, _ => rfl)
  have h2 := prm_285.fld.rk_pos (n := 2) (c := 2) (hm.bd prm_285) (i := 0) (j := 0) (by decide) (by decide) (show (1 : Nat) ≠ 0 by decide)
  rw [show prm_285.fld.rk 2 (en [[1, 1], [1, 1]]) 2 = 1 by omega]
  rfl
theorem aw5_inv : ∃ x, invR prm_285 [[1, 1], [1, 2]] = (0, x) ∧ x.length = 2 := by
  have hsq := aw5_sq (a := 1) (b := 1) (c := 1) (d := 2) (by decide)
  obtain ⟨hm, -⟩ := sqM_Mx hsq
  have e : ([[1, 1], [1, 2]] : Mtx) = vrows prm_285 [1, 2] := by
    have hv : ∀ i k : Nat, vtab prm_285 [1, 2] i k = prm_285.fld.pow ([1, 2].getD i 0) k := fun _ _ => rfl
    show _ = tab 2 2 (vtab prm_285 [1, 2])
    have h0 : ∀ x, prm_285.fld.pow x 0 = 1 := fun _ => rfl
    have h1 : prm_285.fld.pow 1 1 = 1 := prm_285.fld.pow_one 1 (by rw [prm_285.fld_w]; decide)
    have h2 : prm_285.fld.pow 2 1 = 2 := prm_285.fld.pow_one 2 (by rw [prm_285.fld_w]; decide)
    show _ = [[((prm_285.fld.pow 1 0 : Nat) : Int), ((prm_285.fld.pow 1 1 : Nat) : Int)], [((prm_285.fld.pow 2 0 : Nat) : Int), ((prm_285.fld.pow 2 1 : Nat) : Int)]]
    rw [h0, h1, h0, h2]
    rfl
  have h0 : (invR prm_285 [[1, 1], [1, 2]]).1 = 0 := by
    rw [e]
    exact (vrows_inv prm_285 (l := [1, 2]) (by decide) (by decide) (by decide)).1.2 (by decide)
  obtain ⟨g, -, -, h⟩ := inv_reg prm_285 hsq h0
  exact ⟨_, h, tab_length _ _ _⟩
end Go.Gam
