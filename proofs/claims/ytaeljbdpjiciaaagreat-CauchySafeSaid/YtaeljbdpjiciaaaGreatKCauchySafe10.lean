/- Texts of the claim CauchySafe (part 10), put together in the order of their imports. -/
import Derived.Test.YtaeljbdpjiciaaaGreatKCauchySafe9
/- Rows that are gathered, one of them changed for another; what gambrelref05 reduces. No program in sight. -/
set_option linter.unusedVariables false
set_option linter.unusedSimpArgs false
set_option linter.unusedSectionVars false
namespace Go.Gam
open Px

section
variable {P : Program} {ops : Array Oper} {K' : Kont} {rest : List Oper} {n : NN} {F : Fs} {T : TypeId} {pp : String} {af : Array Edge} {v : Value} {d : Nat} {a : Act} {w : World} {x y : Operand} {D : FD} {B : Nat}
/-- A row of rows that are gathered is changed for another. -/
theorem s_setM {t e N M0 K g o : Nat} {u : Value} {a0 : Mtx} {r : List Int} (hF : Fr n F a) (ht : One P t) (hx : ev F x = some (.pointer (some ⟨g, o, none⟩))) (ho : o < a0.length) (hy : ev F y = some u) (hu : u.oneCell' = true)
    (hM : MOwn D B N M0 K w e v (some g) a0) (hr : RowO D B M0 K w u r) (he : e ≠ D.T) (hE : D.E ≠ e) (hI : Inv D B w)
    (k : ∀ w', Mb D B (some g) w w' → Inv D B w' → MOwn D B N M0 K w' e v (some g) (a0.set o r) → WL P ops K' rest a w') :
    WL P ops K' (⟨none, .store t x y, T, pp, af, none⟩ :: rest) a w := by
  obtain ⟨vals, h2, h3, h4⟩ := hM.ex
  refine s_set (D := D) (B := B) hF ht hx (by omega) hy hu h3 he hI ?_
  intro w' hm hI' ho'
  refine k w' hm hI' ⟨⟨vals.set o u, by simp [h2], ho', fun j z s hz hs => ?_⟩, hM.mn⟩
  by_cases hj : o = j
  · subst hj
    rw [List.getElem?_set_self (by omega)] at hz
    rw [List.getElem?_set_self ho] at hs
    obtain rfl := Option.some.inj hz
    obtain rfl := Option.some.inj hs
    exact hr.mb2 hm h3 hE hM.mn
  · rw [List.getElem?_set_ne hj] at hz hs
    exact (h4 j z s hz hs).mb2 hm h3 hE hM.mn
end
/-- A row of rows that are gathered, as a row that may be gathered again. -/
theorem MOwn.rowO {D : FD} {B N M0 K g cap i : Nat} {w : World} {E2 : TypeId} {b : Option Nat} {a : Mtx} {r : List Int} (h : MOwn D B N M0 K w E2 (.slice (some ⟨g, 0, none⟩) a.length cap) b a) (hE : E2 ≠ D.T) (hi : a[i]? = some r) :
    ∃ pr cr, KC D B w ⟨g, 0 + i, none⟩ (.slice pr r.length cr) ∧ RowO D B M0 K w (.slice pr r.length cr) r := by
  obtain ⟨vals, h1, h2, h3⟩ := h.ex
  have hl := (List.getElem?_eq_some_iff.1 hi).1
  obtain ⟨u, hu⟩ : ∃ u, vals[i]? = some u := ⟨_, List.getElem?_eq_getElem (by omega)⟩
  have hr := h3 i u r hu hi
  have hs : ∃ pr cr, u = .slice pr r.length cr := by
    rcases hr with ⟨b, ho, _⟩ | hr
    · obtain ⟨p, c, e⟩ := ho.shape; rw [zints_length] at e; exact ⟨p, c, e⟩
    · obtain ⟨p, c, e⟩ := hr.sl; rw [zints_length] at e; exact ⟨p, c, e⟩
  obtain ⟨pr, cr, rfl⟩ := hs
  exact ⟨pr, cr, Own.kc h2 hE hu, hr⟩
theorem tab_set {n m i : Nat} {f g : Tb} {r : List Int} (hr : r = trow m g i) (h : ∀ a, a < n → a ≠ i → ∀ j, j < m → g a j = f a j) : (tab n m f).set i r = tab n m g := by
  subst hr
  apply List.ext_getElem?
  intro l
  by_cases hl : l < n
  · by_cases e : i = l
    · subst e; rw [List.getElem?_set_self (by rw [tab_length]; exact hl), tab_at hl]; rfl
    · rw [List.getElem?_set_ne e, tab_at hl, tab_at hl]
      exact congrArg some (trow_congr (m := m) (f := f) (g := g) (i := l) (k := l) fun j hj => (h l hl (Ne.symm e) j hj).symm)
  · rw [List.getElem?_eq_none (by rw [List.length_set, tab_length]; omega), List.getElem?_eq_none (by rw [tab_length]; omega)]
def pivI (f : Tb) (n c t : Nat) : Int := match Fld.piv f n c t (n - t) with | none => -1 | some k => (k : Int)
namespace Fld
variable (F : Fld)
/-- Row k changed for row t, then row t for row k times s. -/
theorem swap_scl {n m t k s : Nat} {f : Tb} (ht : t < n) (hk : k < n) :
    ((tab n m f).set k (trow m f t)).set t (trow m (fun _ j => F.mul (f k j) s) 0) = tab n m (F.sclF t s m (fun i j => f (sw t k i) j)) := by
  have h1 : (tab n m f).set k (trow m f t) = tab n m (fun i j => if i = k then f t j else f i j) :=
    tab_set (trow_congr fun j _ => by rw [if_pos rfl]) fun a _ hne j _ => by rw [if_neg hne]
  rw [h1]
  refine tab_set (trow_congr fun j hj => ?_) fun a _ hne j _ => ?_
  · unfold sclF; rw [if_pos ⟨rfl, hj⟩]; show _ = F.mul (f (sw t k t) j) s; unfold sw; rw [if_pos rfl]
  · unfold sclF
    rw [if_neg (by omega)]
    show f (sw t k a) j = _
    unfold sw
    rw [if_neg hne]
    by_cases e : a = k
    · subst e; rw [if_pos rfl, if_pos rfl]
    · rw [if_neg e, if_neg e]
theorem cleF_zero {t c i : Nat} {f : Tb} (h : f i c = 0) : ∀ a j, F.cleF t c i f a j = F.cleF t c (i + 1) f a j := by
  intro a j
  unfold cleF
  by_cases h1 : a < i ∧ a ≠ t
  · rw [if_pos h1, if_pos ⟨by omega, h1.2⟩]
  · rw [if_neg h1]
    by_cases h2 : a < i + 1 ∧ a ≠ t
    · rw [if_pos h2]
      obtain rfl : a = i := by omega
      rw [h, F.zero_mul, Nat.xor_zero]
    · rw [if_neg h2]
theorem cleF_set {n m t c i : Nat} {f : Tb} (hi : i ≠ t) : (tab n m (F.cleF t c i f)).set i (trow m (fun a j => f i j ^^^ F.mul (f i c) (f t j)) 0) = tab n m (F.cleF t c (i + 1) f) := by
  refine tab_set (trow_congr fun j hj => ?_) fun a _ hne j _ => ?_
  · unfold cleF; rw [if_pos ⟨by omega, hi⟩]
  · unfold cleF
    by_cases h1 : a < i ∧ a ≠ t
    · rw [if_pos h1, if_pos ⟨by omega, h1.2⟩]
    · rw [if_neg h1, if_neg (by omega)]
end Fld
def xorZ (a b : List Int) : List Int := List.zipWith (fun x y => ((x.toNat ^^^ y.toNat : Nat) : Int)) a b
theorem MOwn.ptr {D : FD} {B N M0 K : Nat} {w : World} {E2 : TypeId} {v : Value} {b : Option Nat} {a : Mtx} (h : MOwn D B N M0 K w E2 v b a) (h0 : 0 < a.length) : ∃ g cap, v = .slice (some ⟨g, 0, none⟩) a.length cap ∧ b = some g := by
  obtain ⟨vals, h1, h2, h3⟩ := h.ex
  obtain ⟨g, cap, e1, e2⟩ := h2.ptr (by omega)
  exact ⟨g, cap, by rw [← h1]; exact e1, e2⟩
theorem MOwn.matS {D : FD} {B N M0 K n cap : Nat} {w : World} {E2 : TypeId} {sa : Option Addr} {b : Option Nat} {a : Mtx} (h : MOwn D B N M0 K w E2 (.slice sa n cap) b a) (hE : E2 ≠ D.T) (hN : M0 ≤ w.heap.size) : Mat D B w.heap.size w sa cap a := by
  obtain ⟨sa', cap', e, hm⟩ := h.mat hE hN
  obtain ⟨rfl, -, rfl⟩ := Value.slice.inj e
  exact hm
theorem pivI_neg {f : Tb} {n c t : Nat} (h : pivI f n c t < 0) : Fld.piv f n c t (n - t) = none := by
  unfold pivI at h
  cases hk : Fld.piv f n c t (n - t) with
  | none => rfl
  | some k => rw [hk] at h; dsimp only at h; omega
theorem pivI_nn {f : Tb} {n c t : Nat} (h : ¬ pivI f n c t < 0) : ∃ k, Fld.piv f n c t (n - t) = some k ∧ pivI f n c t = (k : Int) := by
  unfold pivI at *
  cases hk : Fld.piv f n c t (n - t) with
  | none => rw [hk] at h; exact absurd (by decide) h
  | some k => exact ⟨k, rfl, rfl⟩
theorem cle_row {wb p m t c k s i : Nat} (hp : Prm wb p) {f : Tb} (h : i ≠ t) (hc : c < m) (hsw : Fld.sw t k t = k) {g : Tb} (hg : g = hp.fld.sclF t s m (fun i j => f (Fld.sw t k i) j)) :
    trow m (fun _ j => hp.fld.cleF t c i g i j ^^^ hp.fld.mul (hp.fld.mul (f k j) s) (hp.fld.cleF t c i g i c)) 0 = trow m (fun _ j => g i j ^^^ hp.fld.mul (g i c) (g t j)) 0 := by
  refine trow_congr fun j hj => ?_
  have e1 : ∀ j, hp.fld.cleF t c i g i j = g i j := fun j => by unfold Fld.cleF; rw [if_neg (by omega)]
  have e2 : g t j = hp.fld.mul (f k j) s := by subst hg; unfold Fld.sclF; rw [if_pos ⟨rfl, hj⟩]; show hp.fld.mul (f (Fld.sw t k t) j) s = _; rw [hsw]
  rw [e1, e1, e2, hp.fld.comm (hp.fld.mul (f k j) s)]
end Go.Gam

/- The walks of gambrelref05: rows times a number, two rows together, pivots, rows reduced. -/
set_option linter.unusedVariables false
set_option linter.unusedSimpArgs false
namespace Go.Proofs.YtaeljbdpjiciaaaGreat
open Go Go.Gam


namespace FxFRef05
theorem en55 : Ent Tryz.prog 55 := ent Tryz.func55 (by kernel_rfl) (by kernel_rfl)
theorem en56 : Ent Tryz.prog 56 := ent Tryz.func56 (by kernel_rfl) (by kernel_rfl)
theorem en57 : Ent Tryz.prog 57 := ent Tryz.func57 (by kernel_rfl) (by kernel_rfl)
theorem en58 : Ent Tryz.prog 58 := ent Tryz.func58 (by kernel_rfl) (by kernel_rfl)
theorem en66 : Ent Tryz.prog 66 := ent Tryz.func66 (by kernel_rfl) (by kernel_rfl)
theorem hmix : Tryz.prog.follows .mixedOrders = true := by kernel_rfl
theorem on39 : Gam.One Tryz.prog 39 := by unfold Gam.One; kernel_rfl
theorem sc3 : Scalar Tryz.prog 3 := ⟨_, Tryz.underlying3, by simp, by simp⟩
theorem sc39 : Scalar Tryz.prog 39 := ⟨_, Tryz.underlying39, by simp, by simp⟩
theorem sl22 : Sl Tryz.prog 22 39 (.slice none 0 0) 24 := sl_of Tryz.underlying22 rfl (by kernel_rfl)
theorem sl39 : Sl Tryz.prog 39 3 (.int .i64 0) 8 := sl_of Tryz.underlying39 rfl (by kernel_rfl)
end FxFRef05
open FxFRef05

set_option maxRecDepth 100000 in
set_option maxHeartbeats 1000000 in
theorem scaled_ok (B M wb p : Nat) (hp : Prm wb p) (pr : Option Addr) (cr m k s : Nat) (f : Tb) (w : World) (hI : Inv FDx B w) (hx : Row FDx B M w (.slice pr m cr) (zints (trow m f k))) (hf : hp.fld.Bd f) (hs : s < 2 ^ wb) (hM : M ≤ w.heap.size) (hm : m ≤ 100) : Ret Tryz.prog 57 [.int .i64 (wb : Int), .int .u32 (p : Int), .slice pr m cr, .int .i64 (s : Int)] w fun v w' => ∃ ob, Gam.Own FDx B w.heap.size w' FDx.E v ob (zints (trow m (fun _ j => hp.fld.mul (f k j) s) 0)) ∧ St FDx B w w' := by
 refine enter 29 [(0, .int .i64 (wb : Int)), (1, .int .u32 (p : Int)), (2, .slice pr m cr), (3, .int .i64 (s : Int))] 8 Tryz.func57 rfl rfl rfl rfl rfl ?_; intro a hF
 have hS := St.refl hI
 have hfw := hp.fld_w
 have h16 : 2 ^ wb ≤ 65536 := by rcases hp.w with h | h <;> rw [h] <;> decide
 refine W_sr rfl (fun K hK => ?_)
 refine sv hF (v_assign rfl) rfl ?_; clear hF a; intro a hF
 refine WL_nil (hK _ _ ?_)
 clear hK K
 refine W_sr rfl (fun K hK => ?_)
 refine sv hF (v_assign rfl) rfl ?_; clear hF a; intro a hF
 refine WL_nil (hK _ _ ?_)
 clear hK K
 refine W_seq ?_
 refine W_sr rfl (fun K hK => ?_)
 refine sv hF (v_assign rfl) rfl ?_; clear hF a; intro a hF
 refine WL_nil (hK _ _ ?_)
 clear hK K
 refine W_block ?_
 refine W_loop (fun q a w1 => ∃ (i : Nat) (v9 : Value) (b9 : Option Nat), Fr 29 [(0, .int .i64 (wb : Int)), (1, .int .u32 (p : Int)), (2, .slice pr m cr), (3, .int .i64 (s : Int)), (9, v9), (10, .int .i64 (i : Int))] a ∧ (St FDx B w w1) ∧ (Row FDx B M w1 (.slice pr m cr) (zints (trow m f k))) ∧ (Gam.Own FDx B w.heap.size w1 FDx.E v9 b9 (zints ((List.range i).map fun j => ((hp.fld.mul (f k j) s : Nat) : Int)))) ∧ (i ≤ m) ∧ (q + i = m)) (m) ?_ ?_
 ·
  skip
  exact ⟨0, _, none, hF.sub _ (c_ 0 rfl (c_ 1 rfl (c_ 2 rfl (c_ 3 rfl (c_ 9 rfl (c_ 10 rfl (n_))))))), hS, hx, Gam.Own.nil _ _ _ _ _, by omega, by omega⟩
 ·
  skip
  clear hF
  clear hS hx
  rintro q a w1 ⟨i, v9, b9, hF, hS, hx, hO, hi, hq⟩
  refine W_seq ?_
  refine W_sr rfl (fun K hK => ?_)
  refine sv2 hF (v_move rfl) (v_move rfl) rfl rfl ?_; clear hF a; intro a hF
  refine sv hF (v_lenS rfl sl39 rfl) rfl ?_; clear hF a; intro a hF
  refine sv hF (v_lss rfl rfl) rfl ?_; clear hF a; intro a hF
  refine WL_nil (hK _ _ ?_)
  clear hK K
  replace hF := hF.sub _ (c_ 14 rfl (c_ 0 rfl (c_ 1 rfl (c_ 2 rfl (c_ 3 rfl (c_ 9 rfl (c_ 10 rfl (n_))))))))
  refine W_if hF rfl (fun hc1 => ?_) (fun hc1 => ?_)
  ·
   skip
   try simp only [dcl] at hc1
   have hlt : i < m := by omega
   obtain ⟨gx, ox, hgx, hkx, -⟩ := hx.kat (zints_at (trow_at (m := m) (f := f) (i := k) hlt))
   subst hgx
   have hb := hf k i
   rw [hfw] at hb
   refine W_skip ?_
   refine W_seq ?_
   refine W_block ?_
   refine W_reg rfl (fun K hK => ?_)
   refine sv5 hF (v_move rfl) (v_move rfl) (v_move rfl) (v_move rfl) (v_move rfl) rfl rfl rfl rfl rfl ?_; clear hF a; intro a hF
   refine sv hF (v_ixS sl39 rfl rfl (by omega) (by omega)) rfl ?_; clear hF a; intro a hF
   refine sv hF (v_load sc3 rfl (by rw [toNat_c]; exact hkx.c)) rfl ?_; clear hF a; intro a hF
   refine sv hF (v_move rfl) rfl ?_; clear hF a; intro a hF
   refine sc hF rfl rfl rfl en66 rfl (rMul_gf B wb p ((f k i : Nat) : Int) (s : Int) _ hS.inv hp) ?_; clear hF a; intro v w' a hv hF
   obtain ⟨rfl, hS'⟩ := hv
   replace hx := hx.st hS'
   replace hO := hO.st (by decide) hS'
   replace hS := hS.trans hS'
   clear hS'
   rw [gmul_num hp hb hs] at hF
   refine s_bs (D := FDx) (B := B) hF sl39 rfl rfl (by decide) (by simp [Value.cells]) (by decide) hS.inv rfl ?_; clear hF a; intro w' a hm hI' hL hF
   replace hx := hx.mb hm (fun _ h => by cases h)
   replace hO := hO.mb hm (fun _ _ => by simp)
   replace hS := hS.mb0 hm
   clear hm hI'
   refine s_app (D := FDx) (B := B) hF rfl sl39 rfl rfl hO (hL.row (by decide)) (by simp [Value.oneCell']) (by simp; omega) (by simp [maxLen]; omega) (hS.ext.size) (by decide) hS.inv rfl ?_; clear hF a; intro v' b' w' a ho' hm hI' hb' hF
   replace hx := hx.mb hm (fun k h => Nat.le_trans (hM) (hO.lt k h).1)
   replace hS := hS.mb hm (fun k h => Nat.le_trans (Nat.le_refl _) (hO.lt k h).1)
   replace hO := ho'
   clear hm hI' ho'
   refine sv hF (v_assign rfl) rfl ?_; clear hF a; intro a hF
   refine WL_nil (hK _ _ ?_)
   clear hK K
   replace hF := hF.sub _ (c_ 9 rfl (c_ 0 rfl (c_ 1 rfl (c_ 2 rfl (c_ 3 rfl (c_ 10 rfl (n_)))))))
   refine W_reg rfl (fun K hK => ?_)
   refine sv hF (v_move rfl) rfl ?_; clear hF a; intro a hF
   refine sv hF (v_addI rfl rfl (by omega)) rfl ?_; clear hF a; intro a hF
   refine sv hF (v_assign rfl) rfl ?_; clear hF a; intro a hF
   refine WL_nil (hK _ _ ?_)
   clear hK K
   exact ⟨q - 1, by omega, i + 1, _, _, hF.sub _ (c_ 0 rfl (c_ 1 rfl (c_ 2 rfl (c_ 3 rfl (c_ 9 rfl (c_ 10 rfl (n_))))))), hS, hx, hO.cast (by rw [List.range_succ, List.map_append]; simp [zints]), by omega, by omega⟩
  ·
   skip
   try simp only [dcl] at hc1
   refine W_exit rfl ?_
   refine W_sr rfl (fun K hK => ?_)
   refine sv2 hF (v_move rfl) (v_assign rfl) rfl rfl ?_; clear hF a; intro a hF
   refine WL_nil (hK _ _ ?_)
   clear hK K
   replace hF := hF.sub _ (c_ 8 rfl (c_ 28 rfl (c_ 0 rfl (c_ 1 rfl (c_ 2 rfl (c_ 3 rfl (c_ 9 rfl (c_ 10 rfl (n_)))))))))
   refine W_ret ?_
   refine ⟨_, _, hF, rfl, ?_⟩
   obtain rfl : i = m := by omega
   exact ⟨_, hO, hS⟩

set_option maxRecDepth 100000 in
set_option maxHeartbeats 1000000 in
theorem added_ok (B M : Nat) (pa pb : Option Addr) (ca cb m i k : Nat) (f g : Tb) (w : World) (hI : Inv FDx B w) (hA : Row FDx B M w (.slice pa m ca) (zints (trow m f i))) (hB : Row FDx B M w (.slice pb m cb) (zints (trow m g k))) (hf : ∀ j, f i j < 65536) (hg : ∀ j, g k j < 65536) (hM : M ≤ w.heap.size) (hm : m ≤ 100) : Ret Tryz.prog 58 [.slice pa m ca, .slice pb m cb] w fun v w' => ∃ ob, Gam.Own FDx B w.heap.size w' FDx.E v ob (zints (trow m (fun _ j => f i j ^^^ g k j) 0)) ∧ St FDx B w w' := by
 refine enter 26 [(0, .slice pa m ca), (1, .slice pb m cb)] 4 Tryz.func58 rfl rfl rfl rfl rfl ?_; intro a hF
 have hS := St.refl hI
 refine W_sr rfl (fun K hK => ?_)
 refine sv hF (v_assign rfl) rfl ?_; clear hF a; intro a hF
 refine WL_nil (hK _ _ ?_)
 clear hK K
 refine W_sr rfl (fun K hK => ?_)
 refine sv hF (v_assign rfl) rfl ?_; clear hF a; intro a hF
 refine WL_nil (hK _ _ ?_)
 clear hK K
 refine W_seq ?_
 refine W_sr rfl (fun K hK => ?_)
 refine sv hF (v_assign rfl) rfl ?_; clear hF a; intro a hF
 refine WL_nil (hK _ _ ?_)
 clear hK K
 refine W_block ?_
 refine W_loop (fun q a w1 => ∃ (j : Nat) (v5 : Value) (b5 : Option Nat), Fr 26 [(0, .slice pa m ca), (1, .slice pb m cb), (5, v5), (6, .int .i64 (j : Int))] a ∧ (St FDx B w w1) ∧ (Row FDx B M w1 (.slice pa m ca) (zints (trow m f i))) ∧ (Row FDx B M w1 (.slice pb m cb) (zints (trow m g k))) ∧ (Gam.Own FDx B w.heap.size w1 FDx.E v5 b5 (zints ((List.range j).map fun j => ((f i j ^^^ g k j : Nat) : Int)))) ∧ (j ≤ m) ∧ (q + j = m)) (m) ?_ ?_
 ·
  skip
  exact ⟨0, _, none, hF.sub _ (c_ 0 rfl (c_ 1 rfl (c_ 5 rfl (c_ 6 rfl (n_))))), hS, hA, hB, Gam.Own.nil _ _ _ _ _, by omega, by omega⟩
 ·
  skip
  clear hF
  clear hS hA hB
  rintro q a w1 ⟨j, v5, b5, hF, hS, hA, hB, hO, hj, hq⟩
  refine W_seq ?_
  refine W_sr rfl (fun K hK => ?_)
  refine sv2 hF (v_move rfl) (v_move rfl) rfl rfl ?_; clear hF a; intro a hF
  refine sv hF (v_lenS rfl sl39 rfl) rfl ?_; clear hF a; intro a hF
  refine sv hF (v_lss rfl rfl) rfl ?_; clear hF a; intro a hF
  refine WL_nil (hK _ _ ?_)
  clear hK K
  replace hF := hF.sub _ (c_ 10 rfl (c_ 0 rfl (c_ 1 rfl (c_ 5 rfl (c_ 6 rfl (n_))))))
  refine W_if hF rfl (fun hc1 => ?_) (fun hc1 => ?_)
  ·
   skip
   try simp only [dcl] at hc1
   have hlt : j < m := by omega
   obtain ⟨ga, oa, hga, -⟩ := hA.kat (zints_at (trow_at (m := m) (f := f) (i := i) hlt))
   subst hga
   obtain ⟨gb, ob_, hgb, -⟩ := hB.kat (zints_at (trow_at (m := m) (f := g) (i := k) hlt))
   subst hgb
   have hb1 := hf j
   have hb2 := hg j
   refine W_skip ?_
   refine W_seq ?_
   refine W_block ?_
   refine W_dS (fun (w2 : World) => w2.cell? ⟨ga, oa + j, none⟩ = some (.int .i64 ((f i j : Nat) : Int)) ∧ w2.cell? ⟨gb, ob_ + j, none⟩ = some (.int .i64 ((g k j : Nat) : Int))) (m := 13) rfl hmix (fun K hK => ?_)
   have hS' := St.drew hS.inv
   replace hA := hA.st hS'
   replace hB := hB.st hS'
   replace hO := hO.st (by decide) hS'
   replace hS := hS.trans hS'
   clear hS'
   have hSS : (fun (w2 : World) => w2.cell? ⟨ga, oa + j, none⟩ = some (.int .i64 ((f i j : Nat) : Int)) ∧ w2.cell? ⟨gb, ob_ + j, none⟩ = some (.int .i64 ((g k j : Nat) : Int))) _ := And.intro (hA.ldx (Ext.refl _ _ _) (zints_at (trow_at (f := f) (m := m) hlt))) (hB.ldx (Ext.refl _ _ _) (zints_at (trow_at (f := g) (m := m) hlt)))
   refine b_v (i := 0) rfl (by kernel_rfl) hF (fun w2 hx => v_move rfl) rfl hSS ?_; clear hF a; intro a hF
   refine b_v (i := 1) rfl (by kernel_rfl) hF (fun w2 hx => v_move rfl) rfl hSS ?_; clear hF a; intro a hF
   refine b_v (i := 2) rfl (by kernel_rfl) hF (fun w2 hx => v_move rfl) rfl hSS ?_; clear hF a; intro a hF
   refine b_v (i := 3) rfl (by kernel_rfl) hF (fun w2 hx => v_ixS sl39 rfl rfl (by omega) (by omega)) rfl hSS ?_; clear hF a; intro a hF
   refine b_v (i := 4) rfl (by kernel_rfl) hF (fun w2 hx => v_load sc3 rfl (by rw [toNat_c]; exact hx.1)) rfl hSS ?_; clear hF a; intro a hF
   refine b_v (i := 5) rfl (by kernel_rfl) hF (fun w2 hx => v_move rfl) rfl hSS ?_; clear hF a; intro a hF
   refine b_v (i := 6) rfl (by kernel_rfl) hF (fun w2 hx => v_move rfl) rfl hSS ?_; clear hF a; intro a hF
   refine b_v (i := 7) rfl (by kernel_rfl) hF (fun w2 hx => v_ixS sl39 rfl rfl (by omega) (by omega)) rfl hSS ?_; clear hF a; intro a hF
   refine b_v (i := 8) rfl (by kernel_rfl) hF (fun w2 hx => v_load sc3 rfl (by rw [toNat_c]; exact hx.2)) rfl hSS ?_; clear hF a; intro a hF
   refine b_v (i := 9) rfl (by kernel_rfl) hF (fun w2 hx => v_xorN rfl rfl (fits_i64 (by omega)) (fits_i64 (by omega))) rfl hSS ?_; clear hF a; intro a hF
   refine b_e (i := 10) (by kernel_rfl) rfl ?_
   refine s_bs (D := FDx) (B := B) hF sl39 rfl rfl (by decide) (by simp [Value.cells]) (by decide) hS.inv rfl ?_; clear hF a; intro w' a hm hI' hb hF
   replace hA := hA.mb hm (fun _ h => by cases h)
   replace hB := hB.mb hm (fun _ h => by cases h)
   replace hO := hO.mb hm (fun _ _ => by simp)
   replace hS := hS.mb0 hm
   clear hm hI'
   clear hSS
   have hSS : (fun (w2 : World) => w2.cell? ⟨ga, oa + j, none⟩ = some (.int .i64 ((f i j : Nat) : Int)) ∧ w2.cell? ⟨gb, ob_ + j, none⟩ = some (.int .i64 ((g k j : Nat) : Int))) _ := And.intro (hA.ldx (Ext.refl _ _ _) (zints_at (trow_at (f := f) (m := m) hlt))) (hB.ldx (Ext.refl _ _ _) (zints_at (trow_at (f := g) (m := m) hlt)))
   refine WL_nil ⟨hSS, ?_⟩
   refine b_e (i := 11) (by kernel_rfl) rfl ?_
   refine s_app (D := FDx) (B := B) hF rfl sl39 rfl rfl hO (hb.row (by decide)) (by simp [Value.oneCell']) (by simp; omega) (by simp [maxLen]; omega) (hS.ext.size) (by decide) hS.inv rfl ?_; clear hF a; intro v' b' w' a ho' hm hI' hb' hF
   replace hA := hA.mb hm (fun k h => Nat.le_trans (hM) (hO.lt k h).1)
   replace hB := hB.mb hm (fun k h => Nat.le_trans (hM) (hO.lt k h).1)
   replace hS := hS.mb hm (fun k h => Nat.le_trans (Nat.le_refl _) (hO.lt k h).1)
   replace hO := ho'
   clear hm hI' ho' hb
   clear hSS
   have hSS : (fun (w2 : World) => w2.cell? ⟨ga, oa + j, none⟩ = some (.int .i64 ((f i j : Nat) : Int)) ∧ w2.cell? ⟨gb, ob_ + j, none⟩ = some (.int .i64 ((g k j : Nat) : Int))) _ := And.intro (hA.ldx (Ext.refl _ _ _) (zints_at (trow_at (f := f) (m := m) hlt))) (hB.ldx (Ext.refl _ _ _) (zints_at (trow_at (f := g) (m := m) hlt)))
   refine WL_nil ⟨hSS, ?_⟩
   refine b_v (i := 12) rfl (by kernel_rfl) hF (fun w2 hx => v_assign rfl) rfl hSS ?_; clear hF a; intro a hF
   refine b_done (by kernel_rfl) (hK _ _ ?_)
   clear hK K
   replace hF := hF.sub _ (c_ 5 rfl (c_ 0 rfl (c_ 1 rfl (c_ 6 rfl (n_)))))
   refine W_reg rfl (fun K hK => ?_)
   refine sv hF (v_move rfl) rfl ?_; clear hF a; intro a hF
   refine sv hF (v_addI rfl rfl (by omega)) rfl ?_; clear hF a; intro a hF
   refine sv hF (v_assign rfl) rfl ?_; clear hF a; intro a hF
   refine WL_nil (hK _ _ ?_)
   clear hK K
   exact ⟨q - 1, by omega, j + 1, _, _, hF.sub _ (c_ 0 rfl (c_ 1 rfl (c_ 5 rfl (c_ 6 rfl (n_))))), hS, hA, hB, hO.cast (by rw [List.range_succ, List.map_append]; simp [zints]), by omega, by omega⟩
  ·
   skip
   try simp only [dcl] at hc1
   refine W_exit rfl ?_
   refine W_sr rfl (fun K hK => ?_)
   refine sv2 hF (v_move rfl) (v_assign rfl) rfl rfl ?_; clear hF a; intro a hF
   refine WL_nil (hK _ _ ?_)
   clear hK K
   replace hF := hF.sub _ (c_ 4 rfl (c_ 25 rfl (c_ 0 rfl (c_ 1 rfl (c_ 5 rfl (c_ 6 rfl (n_)))))))
   refine W_ret ?_
   refine ⟨_, _, hF, rfl, ?_⟩
   obtain rfl : j = m := by omega
   exact ⟨_, hO, hS⟩

set_option maxRecDepth 100000 in
set_option maxHeartbeats 1000000 in
theorem pivot_ok (B M n m t c : Nat) (f : Tb) (pmt : Option Addr) (cmt : Nat) (w : World) (hI : Inv FDx B w) (hA : Mat FDx B M w pmt cmt (tab n m f)) (ht : t ≤ n) (hc : c < m) (hnm : n ≤ 100 ∧ m ≤ 100) : Ret Tryz.prog 55 [.slice pmt n cmt, .int .i64 (t : Int), .int .i64 (c : Int)] w fun v w' => v = .int .i64 (pivI f n c t) ∧ St FDx B w w' := by
 refine enter 24 [(0, .slice pmt n cmt), (1, .int .i64 (t : Int)), (2, .int .i64 (c : Int))] 6 Tryz.func55 rfl rfl rfl rfl rfl ?_; intro a hF
 have hS := St.refl hI
 have htl := tab_length n m f
 refine W_sr rfl (fun K hK => ?_)
 refine sv hF (v_assign rfl) rfl ?_; clear hF a; intro a hF
 refine WL_nil (hK _ _ ?_)
 clear hK K
 refine W_seq ?_
 refine W_sr rfl (fun K hK => ?_)
 refine sv2 hF (v_move rfl) (v_assign rfl) rfl rfl ?_; clear hF a; intro a hF
 refine WL_nil (hK _ _ ?_)
 clear hK K
 replace hF := hF.sub _ (c_ 7 rfl (c_ 6 rfl (c_ 0 rfl (c_ 2 rfl (n_)))))
 refine W_block ?_
 refine W_loop (fun q a w1 => ∃ (i : Nat), Fr 24 [(0, .slice pmt n cmt), (2, .int .i64 (c : Int)), (7, .int .i64 (i : Int))] a ∧ (St FDx B w w1) ∧ (Mat FDx B M w1 pmt cmt (tab n m f)) ∧ (∀ a, t ≤ a → a < i → f a c = 0) ∧ (t ≤ i ∧ i ≤ n) ∧ (q + i = n)) (n - t) ?_ ?_
 ·
  skip
  exact ⟨t, hF.sub _ (c_ 0 rfl (c_ 2 rfl (c_ 7 rfl (n_)))), hS, hA, fun a h1 h2 => by omega, by omega, by omega⟩
 ·
  skip
  clear hF
  clear hS hA
  rintro q a w1 ⟨i, hF, hS, hA, hz, hi, hq⟩
  refine W_seq ?_
  refine W_sr rfl (fun K hK => ?_)
  refine sv2 hF (v_move rfl) (v_move rfl) rfl rfl ?_; clear hF a; intro a hF
  refine sv hF (v_lenS rfl sl22 rfl) rfl ?_; clear hF a; intro a hF
  refine sv hF (v_lss rfl rfl) rfl ?_; clear hF a; intro a hF
  refine WL_nil (hK _ _ ?_)
  clear hK K
  replace hF := hF.sub _ (c_ 12 rfl (c_ 0 rfl (c_ 2 rfl (c_ 7 rfl (n_)))))
  refine W_if hF rfl (fun hc1 => ?_) (fun hc1 => ?_)
  ·
   skip
   try simp only [dcl] at hc1
   have hlt : i < n := by omega
   obtain ⟨gm, om, pr, cr, hgm, hkr, hrow, -⟩ := hA.row (tab_at (f := f) (m := m) hlt)
   cases hgm
   have hrl : ((List.range m).map fun j => ((f i j : Nat) : Int)).length = m := by simp
   rw [hrl] at hkr hrow
   obtain ⟨gx, ox, hgx, hkx, -⟩ := hrow.kat (zints_at (trow_at (m := m) (f := f) (i := i) hc))
   cases hgx
   refine W_skip ?_
   refine W_seq ?_
   refine W_block ?_
   refine W_sr rfl (fun K hK => ?_)
   refine sv2 hF (v_move rfl) (v_move rfl) rfl rfl ?_; clear hF a; intro a hF
   refine sv hF (v_ixS sl22 rfl rfl (by omega) (by omega)) rfl ?_; clear hF a; intro a hF
   refine sv hF (v_load sc39 rfl (by rw [toNat_c]; exact hkr.c)) rfl ?_; clear hF a; intro a hF
   refine sv hF (v_move rfl) rfl ?_; clear hF a; intro a hF
   refine sv hF (v_ixS sl39 rfl rfl (by omega) (by omega)) rfl ?_; clear hF a; intro a hF
   refine sv hF (v_load sc3 rfl (by rw [toNat_c]; exact hkx.c)) rfl ?_; clear hF a; intro a hF
   refine sv hF (v_neq rfl rfl) rfl ?_; clear hF a; intro a hF
   refine WL_nil (hK _ _ ?_)
   clear hK K
   replace hF := hF.sub _ (c_ 22 rfl (c_ 0 rfl (c_ 2 rfl (c_ 7 rfl (n_)))))
   refine W_if hF rfl (fun hc2 => ?_) (fun hc2 => ?_)
   ·
    skip
    try simp only [dcl] at hc2
    refine W_sr rfl (fun K hK => ?_)
    refine sv2 hF (v_move rfl) (v_assign rfl) rfl rfl ?_; clear hF a; intro a hF
    refine WL_nil (hK _ _ ?_)
    clear hK K
    replace hF := hF.sub _ (c_ 6 rfl (c_ 0 rfl (c_ 2 rfl (c_ 7 rfl (n_)))))
    refine W_ret ?_
    refine ⟨_, _, hF, rfl, ?_⟩
    exact ⟨congrArg _ (by unfold pivI; rw [Fld.piv_is (k := i) (by omega) (by omega) (by omega) hz]), hS⟩
   ·
    skip
    try simp only [dcl] at hc2
    refine W_skip ?_
    refine W_reg rfl (fun K hK => ?_)
    refine sv hF (v_move rfl) rfl ?_; clear hF a; intro a hF
    refine sv hF (v_addI rfl rfl (by omega)) rfl ?_; clear hF a; intro a hF
    refine sv hF (v_assign rfl) rfl ?_; clear hF a; intro a hF
    refine WL_nil (hK _ _ ?_)
    clear hK K
    replace hF := hF.sub _ (c_ 7 rfl (c_ 14 rfl (c_ 13 rfl (c_ 0 rfl (c_ 2 rfl (n_))))))
    exact ⟨q - 1, by omega, i + 1, hF.sub _ (c_ 0 rfl (c_ 2 rfl (c_ 7 rfl (n_)))), hS, hA, fun a h1 h2 => by by_cases h : a = i; (subst h; omega); exact hz a h1 (by omega), by omega, by omega⟩
  ·
   skip
   try simp only [dcl] at hc1
   refine W_exit rfl ?_
   refine W_sr rfl (fun K hK => ?_)
   refine sv hF (v_assign rfl) rfl ?_; clear hF a; intro a hF
   refine WL_nil (hK _ _ ?_)
   clear hK K
   replace hF := hF.sub _ (c_ 6 rfl (c_ 0 rfl (c_ 2 rfl (c_ 7 rfl (n_)))))
   refine W_ret ?_
   refine ⟨_, _, hF, rfl, ?_⟩
   exact ⟨congrArg _ (by unfold pivI; rw [Fld.piv_no fun a h1 h2 => hz a h1 (by omega)]), hS⟩

set_option maxRecDepth 100000 in
set_option maxHeartbeats 1000000 in
theorem reduced_ok (B M wb p n m cols : Nat) (hp : Prm wb p) (pmt : Option Addr) (cmt : Nat) (f : Tb) (w : World) (hI : Inv FDx B w) (hA : Mat FDx B M w pmt cmt (tab n m f)) (hM : M ≤ w.heap.size) (hfb : hp.fld.Bd f) (hcm : cols ≤ m) (hnm : 1 ≤ n ∧ n ≤ 40 ∧ m ≤ 40) : Ret Tryz.prog 38 [.int .i64 (wb : Int), .int .u32 (p : Int), .slice pmt n cmt, .int .i64 (cols : Int)] w fun v w' => ∃ go cap, v = .tuple #[.slice (some ⟨go, 0, none⟩) n cap, .int .i64 ((hp.fld.rk n f cols : Nat) : Int)] ∧ MOwn FDx B w.heap.size M w'.heap.size w' 39 (.slice (some ⟨go, 0, none⟩) n cap) (some go) (tab n m ((hp.fld.red n f cols).1)) ∧ St FDx B w w' := by
 refine enter2 112 [(0, .int .i64 (wb : Int)), (1, .int .u32 (p : Int)), (2, .slice pmt n cmt), (3, .int .i64 (cols : Int))] 8 9 Tryz.func38 rfl rfl rfl rfl rfl ?_; intro a hF
 have hS := St.refl hI
 have hfw := hp.fld_w
 have h16 : 2 ^ wb ≤ 65536 := by rcases hp.w with h | h <;> rw [h] <;> decide
 have htl := tab_length n m f
 refine W_sr rfl (fun K hK => ?_)
 refine sv2 hF (v_assign rfl) (v_assign rfl) rfl rfl ?_; clear hF a; intro a hF
 refine WL_nil (hK _ _ ?_)
 clear hK K
 refine W_sr rfl (fun K hK => ?_)
 have hs0 := hS.ext.size
 refine s_bs (D := FDx) (B := B) hF sl22 rfl rfl (by decide) (by simp [Value.cells]) (by decide) hS.inv rfl ?_; clear hF a; intro w' a hm hI' hL hF
 replace hA := hA.mb hm (fun _ h => by cases h)
 replace hS := hS.mb0 hm
 clear hm hI'
 have hMO : MOwn FDx B w.heap.size M w.heap.size w' 39 _ _ [] := ⟨⟨[], rfl, hL.le hs0, fun j v r x => by simp at x⟩, hM⟩
 clear hL
 refine sv hF (v_move rfl) rfl ?_; clear hF a; intro a hF
 refine s_appMM (D := FDx) (B := B) hF rfl sl22 rfl rfl hMO (by have h := hA.rowsO (N := M) (K := w.heap.size) (Nat.le_refl _); rw [htl] at h; exact h) rfl (by rw [htl]; simp; omega) (hS.ext.size) (by decide) (by decide) hS.inv rfl ?_; clear hF a; intro v' b' w' a ho' hm hI' hF
 replace hS := hS.mb hm (fun k h => (hMO.lt k h).1)
 have hKm := hm.size
 replace hMO := ho'
 clear hm hI' ho'
 refine sv hF (v_assign rfl) rfl ?_; clear hF a; intro a hF
 refine WL_nil (hK _ _ ?_)
 clear hK K
 replace hF := hF.sub _ (c_ 10 rfl (c_ 9 rfl (c_ 8 rfl (c_ 0 rfl (c_ 1 rfl (c_ 3 rfl (n_)))))))
 have hl0 : ([] ++ tab n m f).length = n := by rw [List.nil_append, htl]
 obtain ⟨go, cap, rfl, rfl⟩ := hMO.ptr (by rw [hl0]; omega)
 rw [hl0] at hMO hF
 replace hMO := (hMO.cast (List.nil_append _)).up hS.ext.size
 clear hA hKm
 refine W_sr rfl (fun K hK => ?_)
 refine sv hF (v_assign rfl) rfl ?_; clear hF a; intro a hF
 refine WL_nil (hK _ _ ?_)
 clear hK K
 refine W_seq ?_
 refine W_sr rfl (fun K hK => ?_)
 refine sv hF (v_assign rfl) rfl ?_; clear hF a; intro a hF
 refine WL_nil (hK _ _ ?_)
 clear hK K
 refine W_block ?_
 refine W_loop (fun q a w1 => ∃ (c : Nat), Fr 112 [(0, .int .i64 (wb : Int)), (1, .int .u32 (p : Int)), (3, .int .i64 (cols : Int)), (10, .slice (some ⟨go, 0, none⟩) n cap), (11, .int .i64 (((hp.fld.red n f c).2 : Nat) : Int)), (12, .int .i64 (c : Int))] a ∧ (St FDx B w w1) ∧ (MOwn FDx B w.heap.size M w1.heap.size w1 39 (.slice (some ⟨go, 0, none⟩) n cap) (some go) (tab n m ((hp.fld.red n f c).1))) ∧ (c ≤ cols) ∧ (q + c = cols)) (cols) ?_ ?_
 ·
  skip
  exact ⟨0, hF.sub _ (c_ 0 rfl (c_ 1 rfl (c_ 3 rfl (c_ 10 rfl (c_ 11 rfl (c_ 12 rfl (n_))))))), hS, hMO, by omega, by omega⟩
 ·
  skip
  clear hF
  clear hS
  rintro q a w1 ⟨c, hF, hS, hMO, hc, hq⟩
  refine W_seq ?_
  obtain ⟨KM, hKe⟩ : ∃ KM, KM = w1.heap.size := ⟨_, rfl⟩
  rw [← hKe] at hMO
  have hKs : KM ≤ w1.heap.size := by omega
  have hNK : w.heap.size ≤ KM := by have := hS.ext.size; omega
  clear hKe
  have hRd := hp.fld.red_ok (n := n) hfb c
  have htn := hRd.tn
  refine W_sr rfl (fun K hK => ?_)
  refine sv2 hF (v_move rfl) (v_move rfl) rfl rfl ?_; clear hF a; intro a hF
  refine sb hF (v_lss rfl rfl) rfl ?_ ?_
  ·
   clear hF a; intro hc1 a hF
   try simp only [dcl] at hc1
   refine sv hF (v_move rfl) rfl ?_; clear hF a; intro a hF
   refine svg hF rfl ?_
   refine sv hF (v_move rfl) rfl ?_; clear hF a; intro a hF
   refine svg hF rfl ?_
   refine sv hF (v_move rfl) rfl ?_; clear hF a; intro a hF
   refine svg hF rfl ?_
   refine sv hF (v_lenS rfl sl22 rfl) rfl ?_; clear hF a; intro a hF
   refine svg hF rfl ?_
   refine sv hF (v_lss rfl rfl) rfl ?_; clear hF a; intro a hF
   refine sv hF (v_pickT rfl rfl) rfl ?_; clear hF a; intro a hF
   refine WL_nil (hK _ _ ?_)
   clear hK K
   replace hF := hF.sub _ (c_ 29 rfl (c_ 0 rfl (c_ 1 rfl (c_ 3 rfl (c_ 10 rfl (c_ 11 rfl (c_ 12 rfl (n_))))))))
   refine W_if hF rfl (fun hc2 => ?_) (fun hc2 => ?_)
   ·
    skip
    try simp only [dcl] at hc2
    obtain ⟨f1, hf1⟩ : ∃ x, x = (hp.fld.red n f c).1 := ⟨_, rfl⟩
    obtain ⟨t, ht1⟩ : ∃ x, x = (hp.fld.red n f c).2 := ⟨_, rfl⟩
    rw [← hf1, ← ht1] at hRd
    rw [← hf1] at hMO
    rw [← ht1] at hF htn hc2
    have hb1 := hRd.bd
    clear hRd
    have hcl : c < m := by omega
    have ht : t < n := by omega
    refine W_skip ?_
    refine W_seq ?_
    refine W_block ?_
    refine W_sr rfl (fun K hK => ?_)
    refine sv3 hF (v_move rfl) (v_move rfl) (v_move rfl) rfl rfl rfl ?_; clear hF a; intro a hF
    have hMt := hMO.matS (by decide) (Nat.le_trans hM hS.ext.size)
    refine sc hF rfl rfl rfl en55 rfl (pivot_ok B _ n m t c f1 _ _ _ hS.inv hMt (by omega) hcl (by omega)) ?_; clear hF a; intro v w' a hv hF
    obtain ⟨rfl, hS'⟩ := hv
    replace hMO := hMO.st (by decide) hS'
    replace hKs := Nat.le_trans hKs hS'.ext.size
    replace hS := hS.trans hS'
    clear hS'
    clear hMt
    refine sv hF (v_assign rfl) rfl ?_; clear hF a; intro a hF
    refine WL_nil (hK _ _ ?_)
    clear hK K
    replace hF := hF.sub _ (c_ 13 rfl (c_ 0 rfl (c_ 1 rfl (c_ 3 rfl (c_ 10 rfl (c_ 11 rfl (c_ 12 rfl (n_))))))))
    refine W_seq ?_
    refine W_sr rfl (fun K hK => ?_)
    refine sv hF (v_move rfl) rfl ?_; clear hF a; intro a hF
    refine sv hF (v_lss rfl rfl) rfl ?_; clear hF a; intro a hF
    refine WL_nil (hK _ _ ?_)
    clear hK K
    replace hF := hF.sub _ (c_ 37 rfl (c_ 13 rfl (c_ 0 rfl (c_ 1 rfl (c_ 3 rfl (c_ 10 rfl (c_ 11 rfl (c_ 12 rfl (n_)))))))))
    refine W_if hF rfl (fun hc3 => ?_) (fun hc3 => ?_)
    ·
     skip
     try simp only [dcl] at hc3
     have hrd := hp.fld.red_none hf1.symm ht1.symm (pivI_neg (by assumption))
     have hrd1 : (hp.fld.red n f (c + 1)).1 = f1 := by rw [hrd]
     have hrd2 : (hp.fld.red n f (c + 1)).2 = t := by rw [hrd]
     rw [← hrd1] at hMO
     rw [show (t : Int) = (((hp.fld.red n f (c + 1)).2 : Nat) : Int) by rw [hrd2]] at hF
     refine W_exit rfl ?_
     refine W_reg rfl (fun K hK => ?_)
     refine sv hF (v_move rfl) rfl ?_; clear hF a; intro a hF
     refine sv hF (v_addI rfl rfl (by omega)) rfl ?_; clear hF a; intro a hF
     refine sv hF (v_assign rfl) rfl ?_; clear hF a; intro a hF
     refine WL_nil (hK _ _ ?_)
     clear hK K
     replace hF := hF.sub _ (c_ 12 rfl (c_ 31 rfl (c_ 30 rfl (c_ 0 rfl (c_ 1 rfl (c_ 3 rfl (c_ 10 rfl (c_ 11 rfl (n_)))))))))
     exact ⟨q - 1, by omega, c + 1, hF.sub _ (c_ 0 rfl (c_ 1 rfl (c_ 3 rfl (c_ 10 rfl (c_ 11 rfl (c_ 12 rfl (n_))))))), hS, hMO.up (by first | exact hKs | exact hKz | exact Nat.le_refl _), by omega, by omega⟩
    ·
     skip
     try simp only [dcl] at hc3
     obtain ⟨k, hpk, hpi⟩ := pivI_nn (f := f1) (n := n) (c := c) (t := t) (by assumption)
     rw [hpi] at hF
     obtain ⟨htk, hkn0, hk0, -⟩ := Fld.piv_some hpk
     have hkn : k < n := by omega
     have hsw : Fld.sw t k t = k := by unfold Fld.sw; rw [if_pos rfl]
     have hMt := hMO.matS (by decide) (Nat.le_trans hM hS.ext.size)
     obtain ⟨gm, om, pr, cr, hgm, hkr, hrow, -⟩ := hMt.row (tab_at (f := f1) (m := m) hkn)
     cases hgm
     have hrl : ((List.range m).map fun j => ((f1 k j : Nat) : Int)).length = m := by simp
     rw [hrl] at hkr hrow
     obtain ⟨gx, ox, hgx, hkx, -⟩ := hrow.kat (zints_at (trow_at (m := m) (f := f1) (i := k) hcl))
     cases hgx
     have hkb := hb1 k c
     rw [hfw] at hkb
     clear hMt
     refine W_skip ?_
     refine W_sr rfl (fun K hK => ?_)
     refine sv4 hF (v_move rfl) (v_move rfl) (v_move rfl) (v_move rfl) rfl rfl rfl rfl ?_; clear hF a; intro a hF
     refine sv hF (v_ixS sl22 rfl rfl (by omega) (by omega)) rfl ?_; clear hF a; intro a hF
     refine sv hF (v_load sc39 rfl (by rw [toNat_c]; exact hkr.c)) rfl ?_; clear hF a; intro a hF
     refine sv hF (v_move rfl) rfl ?_; clear hF a; intro a hF
     refine sv hF (v_ixS sl39 rfl rfl (by omega) (by omega)) rfl ?_; clear hF a; intro a hF
     refine sv hF (v_load sc3 rfl (by rw [toNat_c]; exact hkx.c)) rfl ?_; clear hF a; intro a hF
     refine sc hF rfl rfl rfl en56 rfl (rInv_gf B wb p ((f1 k c : Nat) : Int) _ hS.inv hp) ?_; clear hF a; intro v w' a hv hF
     obtain ⟨rfl, hS'⟩ := hv
     replace hMO := hMO.st (by decide) hS'
     replace hKs := Nat.le_trans hKs hS'.ext.size
     replace hkr := hkr.st hS'
     replace hrow := (hrow.st hS').mono hS'.ext.size
     replace hS := hS.trans hS'
     clear hS'
     clear hkx
     rw [ginv_fld hp hkb hk0] at hF
     have hib := hp.fld.inv_lt (f1 k c)
     rw [hfw] at hib
     refine sv5 hF (v_move rfl) (v_ext rfl rfl) (v_ext rfl rfl) (v_assign rfl) (v_assign rfl) rfl rfl rfl rfl rfl ?_; clear hF a; intro a hF
     refine WL_nil (hK _ _ ?_)
     clear hK K
     replace hF := hF.sub _ (c_ 14 rfl (c_ 13 rfl (c_ 0 rfl (c_ 1 rfl (c_ 3 rfl (c_ 10 rfl (c_ 11 rfl (c_ 12 rfl (n_)))))))))
     refine W_sr rfl (fun K hK => ?_)
     refine sv4 hF (v_move rfl) (v_move rfl) (v_move rfl) (v_move rfl) rfl rfl rfl rfl ?_; clear hF a; intro a hF
     refine sv hF (v_ixS sl22 rfl rfl (by omega) (by omega)) rfl ?_; clear hF a; intro a hF
     refine sv hF (v_load sc39 rfl (by rw [toNat_c]; exact hkr.c)) rfl ?_; clear hF a; intro a hF
     refine sv hF (v_move rfl) rfl ?_; clear hF a; intro a hF
     refine sc hF rfl rfl rfl en57 rfl (scaled_ok B _ wb p hp _ _ m k (hp.fld.inv (f1 k c)) f1 _ hS.inv hrow hb1 hib (Nat.le_refl _) (by omega)) ?_; clear hF a; intro v w' a hv hF
     obtain ⟨ob, hR, hS'⟩ := hv
     replace hR := hR.le hKs
     obtain ⟨gR, cR, rfl, rfl⟩ := hR.ptr (by simp; omega)
     rw [zints_length, trow_length] at hR hF
     clear hkr hrow
     replace hMO := hMO.st (by decide) hS'
     replace hKs := Nat.le_trans hKs hS'.ext.size
     replace hS := hS.trans hS'
     clear hS'
     refine sv hF (v_assign rfl) rfl ?_; clear hF a; intro a hF
     refine WL_nil (hK _ _ ?_)
     clear hK K
     replace hF := hF.sub _ (c_ 16 rfl (c_ 13 rfl (c_ 0 rfl (c_ 1 rfl (c_ 3 rfl (c_ 10 rfl (c_ 11 rfl (c_ 12 rfl (n_)))))))))
     have hMO2 := hMO
     rw [show MOwn FDx B w.heap.size M KM w' 39 (.slice (some ⟨go, 0, none⟩) n cap) (some go) (tab n m f1) = MOwn FDx B w.heap.size M KM w' 39 (.slice (some ⟨go, 0, none⟩) (tab n m f1).length cap) (some go) (tab n m f1) by rw [tab_length]] at hMO2
     obtain ⟨p_t, c_t, hkt, hrt⟩ := hMO2.rowO (by decide) (i := t) (r := trow m f1 t) (tab_at ht)
     rw [trow_length] at hkt hrt
     clear hMO2
     refine W_sr rfl (fun K hK => ?_)
     refine sv4 hF (v_move rfl) (v_move rfl) (v_move rfl) (v_move rfl) rfl rfl rfl rfl ?_; clear hF a; intro a hF
     refine sv hF (v_ixS sl22 rfl rfl (by omega) (by omega)) rfl ?_; clear hF a; intro a hF
     refine sv hF (v_load sc39 rfl (by rw [toNat_c]; exact hkt.c)) rfl ?_; clear hF a; intro a hF
     refine sv hF (v_ixS sl22 rfl rfl (by omega) (by omega)) rfl ?_; clear hF a; intro a hF
     refine s_setM (D := FDx) (B := B) hF on39 rfl (by rw [toNat_c, tab_length]; omega) rfl rfl hMO hrt (by decide) (by decide) hS.inv ?_; intro w' hm hI' ho'
     replace hR := hR.mb hm (hR.ne_mown hMO (by decide))
     replace hS := hS.mb hm (fun k h => (hMO.lt k h).1)
     replace hKs := Nat.le_trans hKs hm.size
     have hKm0 := hm.size
     replace hMO := ho'
     rw [toNat_c, Nat.zero_add] at hMO
     clear hm hI' ho'
     clear hkt hrt
     refine WL_nil (hK _ _ ?_)
     clear hK K
     replace hF := hF.sub _ (c_ 16 rfl (c_ 0 rfl (c_ 1 rfl (c_ 3 rfl (c_ 10 rfl (c_ 11 rfl (c_ 12 rfl (n_))))))))
     refine W_sr rfl (fun K hK => ?_)
     refine sv3 hF (v_move rfl) (v_move rfl) (v_move rfl) rfl rfl rfl ?_; clear hF a; intro a hF
     refine sv hF (v_ixS sl22 rfl rfl (by omega) (by omega)) rfl ?_; clear hF a; intro a hF
     replace hMO := hMO.up hKs
     refine s_setM (D := FDx) (B := B) hF on39 rfl (by rw [toNat_c, List.length_set, tab_length]; omega) rfl rfl hMO (.of (r := trow m (fun _ j => hp.fld.mul (f1 k j) (hp.fld.inv (f1 k c))) 0) hR (Nat.le_trans hM hNK)) (by decide) (by decide) hS.inv ?_; intro w' hm hI' ho'
     replace hR := hR.mb hm (hR.ne_mown hMO (by decide))
     replace hS := hS.mb hm (fun k h => (hMO.lt k h).1)
     replace hKs := Nat.le_trans hKs hm.size
     have hKm0 := hm.size
     replace hMO := ho'
     rw [toNat_c, Nat.zero_add] at hMO
     clear hm hI' ho'
     replace hMO := hMO.cast (hp.fld.swap_scl (m := m) (s := hp.fld.inv (f1 k c)) ht hkn)
     refine WL_nil (hK _ _ ?_)
     clear hK K
     replace hF := hF.sub _ (c_ 16 rfl (c_ 0 rfl (c_ 1 rfl (c_ 3 rfl (c_ 10 rfl (c_ 11 rfl (c_ 12 rfl (n_))))))))
     refine W_seq ?_
     refine W_sr rfl (fun K hK => ?_)
     refine sv hF (v_assign rfl) rfl ?_; clear hF a; intro a hF
     refine WL_nil (hK _ _ ?_)
     clear hK K
     refine W_block ?_
     refine W_loop (fun q3 a w3 => ∃ (i : Nat), Fr 112 [(0, .int .i64 (wb : Int)), (1, .int .u32 (p : Int)), (3, .int .i64 (cols : Int)), (10, .slice (some ⟨go, 0, none⟩) n cap), (11, .int .i64 (t : Int)), (12, .int .i64 (c : Int)), (16, .slice (some ⟨gR, 0, none⟩) m cR), (17, .int .i64 (i : Int))] a ∧ (St FDx B w w3) ∧ (MOwn FDx B w.heap.size M w3.heap.size w3 39 (.slice (some ⟨go, 0, none⟩) n cap) (some go) (tab n m (hp.fld.cleF t c i (hp.fld.sclF t (hp.fld.inv (f1 k c)) m (fun i j => f1 (Fld.sw t k i) j))))) ∧ (Gam.Own FDx B KM w3 FDx.E (.slice (some ⟨gR, 0, none⟩) m cR) (some gR) (zints (trow m (fun _ j => hp.fld.mul (f1 k j) (hp.fld.inv (f1 k c))) 0))) ∧ (KM ≤ w3.heap.size) ∧ (i ≤ n) ∧ (q3 + i = n)) (n) ?_ ?_
     ·
      skip
      exact ⟨0, hF.sub _ (c_ 0 rfl (c_ 1 rfl (c_ 3 rfl (c_ 10 rfl (c_ 11 rfl (c_ 12 rfl (c_ 16 rfl (c_ 17 rfl (n_))))))))), hS, (hMO.up hKm0).cast (tab_congr fun a j _ _ => by unfold Fld.cleF; rw [if_neg (by omega)]), hR, hKs, by omega, by omega⟩
     ·
      skip
      clear hF
      clear hS hR hKs
      rintro q3 a w3 ⟨i, hF, hS, hMO, hR, hKw, hi, hq3⟩
      refine W_seq ?_
      obtain ⟨KN, hKe⟩ : ∃ K, K = w3.heap.size := ⟨_, rfl⟩
      rw [← hKe] at hMO
      have hKz : KN ≤ w3.heap.size := by omega
      clear hKe
      refine W_sr rfl (fun K hK => ?_)
      refine sv2 hF (v_move rfl) (v_move rfl) rfl rfl ?_; clear hF a; intro a hF
      refine sv hF (v_lenS rfl sl22 rfl) rfl ?_; clear hF a; intro a hF
      refine sv hF (v_lss rfl rfl) rfl ?_; clear hF a; intro a hF
      refine WL_nil (hK _ _ ?_)
      clear hK K
      replace hF := hF.sub _ (c_ 73 rfl (c_ 0 rfl (c_ 1 rfl (c_ 3 rfl (c_ 10 rfl (c_ 11 rfl (c_ 12 rfl (c_ 16 rfl (c_ 17 rfl (n_))))))))))
      refine W_if hF rfl (fun hc4 => ?_) (fun hc4 => ?_)
      ·
       skip
       try simp only [dcl] at hc4
       have hin : i < n := by omega
       have hfib : hp.fld.Bd (hp.fld.cleF t c i (hp.fld.sclF t (hp.fld.inv (f1 k c)) m (fun i j => f1 (Fld.sw t k i) j))) := hp.fld.cleF_bd (hp.fld.sclF_bd (fun a b => hb1 _ b))
       have hxb := hfib i c
       rw [hfw] at hxb
       have hMt := hMO.matS (by decide) (Nat.le_trans hM hS.ext.size)
       obtain ⟨gm, om, pr, cr, hgm, hkr, hrow, -⟩ := hMt.row (tab_at (f := (hp.fld.cleF t c i (hp.fld.sclF t (hp.fld.inv (f1 k c)) m (fun i j => f1 (Fld.sw t k i) j)))) (m := m) hin)
       cases hgm
       have hrl : ((List.range m).map fun j => (((hp.fld.cleF t c i (hp.fld.sclF t (hp.fld.inv (f1 k c)) m (fun i j => f1 (Fld.sw t k i) j))) i j : Nat) : Int)).length = m := by simp
       rw [hrl] at hkr hrow
       obtain ⟨gx, ox, hgx, hkx, -⟩ := hrow.kat (zints_at (trow_at (m := m) (f := hp.fld.cleF t c i (hp.fld.sclF t (hp.fld.inv (f1 k c)) m (fun i j => f1 (Fld.sw t k i) j))) (i := i) hcl))
       cases hgx
       clear hMt
       have hei : (hp.fld.cleF t c i (hp.fld.sclF t (hp.fld.inv (f1 k c)) m (fun i j => f1 (Fld.sw t k i) j))) i c = (hp.fld.sclF t (hp.fld.inv (f1 k c)) m (fun i j => f1 (Fld.sw t k i) j)) i c := by unfold Fld.cleF; rw [if_neg (by omega)]
       refine W_skip ?_
       refine W_seq ?_
       refine W_block ?_
       refine W_sr rfl (fun K hK => ?_)
       refine sv2 hF (v_move rfl) (v_move rfl) rfl rfl ?_; clear hF a; intro a hF
       refine sb hF (v_neq rfl rfl) rfl ?_ ?_
       ·
        clear hF a; intro hc5 a hF
        try simp only [dcl] at hc5
        refine sv hF (v_move rfl) rfl ?_; clear hF a; intro a hF
        refine svg hF rfl ?_
        refine sv hF (v_move rfl) rfl ?_; clear hF a; intro a hF
        refine svg hF rfl ?_
        refine sv hF (v_move rfl) rfl ?_; clear hF a; intro a hF
        refine svg hF rfl ?_
        refine sv hF (v_ixS sl22 rfl rfl (by omega) (by omega)) rfl ?_; clear hF a; intro a hF
        refine svg hF rfl ?_
        refine sv hF (v_load sc39 rfl (by rw [toNat_c]; exact hkr.c)) rfl ?_; clear hF a; intro a hF
        refine svg hF rfl ?_
        refine sv hF (v_move rfl) rfl ?_; clear hF a; intro a hF
        refine svg hF rfl ?_
        refine sv hF (v_ixS sl39 rfl rfl (by omega) (by omega)) rfl ?_; clear hF a; intro a hF
        refine svg hF rfl ?_
        refine sv hF (v_load sc3 rfl (by rw [toNat_c]; exact hkx.c)) rfl ?_; clear hF a; intro a hF
        refine svg hF rfl ?_
        refine sv hF (v_neq rfl rfl) rfl ?_; clear hF a; intro a hF
        refine sv hF (v_pickT rfl rfl) rfl ?_; clear hF a; intro a hF
        refine WL_nil (hK _ _ ?_)
        clear hK K
        replace hF := hF.sub _ (c_ 88 rfl (c_ 0 rfl (c_ 1 rfl (c_ 3 rfl (c_ 10 rfl (c_ 11 rfl (c_ 12 rfl (c_ 16 rfl (c_ 17 rfl (n_))))))))))
        refine W_if hF rfl (fun hc6 => ?_) (fun hc6 => ?_)
        ·
         skip
         try simp only [dcl] at hc6
         have hit : i ≠ t := by omega
         have hrfb : hp.fld.Bd (fun _ j => hp.fld.mul (f1 k j) (hp.fld.inv (f1 k c))) := fun _ j => hp.fld.lt _ _
         refine W_dS (fun (w2 : World) => St FDx B w w2) (m := 20) rfl hmix (fun K hK => ?_)
         have hS' := St.drew hS.inv
         replace hMO := hMO.st (by decide) hS'
         replace hR := hR.st (by decide) hS'
         replace hKw := Nat.le_trans hKw hS'.ext.size
         replace hKz := Nat.le_trans hKz hS'.ext.size
         replace hkr := hkr.st hS'
         replace hkx := hkx.st hS'
         replace hrow := (hrow.st hS').mono hS'.ext.size
         replace hS := hS.trans hS'
         clear hS'
         have hSS : (fun (w2 : World) => St FDx B w w2) _ := hS
         refine b_v (i := 0) rfl (by kernel_rfl) hF (fun w2 hx => v_move rfl) rfl hSS ?_; clear hF a; intro a hF
         refine b_v (i := 1) rfl (by kernel_rfl) hF (fun w2 hx => v_move rfl) rfl hSS ?_; clear hF a; intro a hF
         refine b_v (i := 2) rfl (by kernel_rfl) hF (fun w2 hx => v_move rfl) rfl hSS ?_; clear hF a; intro a hF
         refine b_v (i := 3) rfl (by kernel_rfl) hF (fun w2 hx => v_move rfl) rfl hSS ?_; clear hF a; intro a hF
         refine b_v (i := 4) rfl (by kernel_rfl) hF (fun w2 hx => v_ixS sl22 rfl rfl (by omega) (by omega)) rfl hSS ?_; clear hF a; intro a hF
         refine b_v (i := 6) rfl (by kernel_rfl) hF (fun w2 hx => v_move rfl) rfl hSS ?_; clear hF a; intro a hF
         refine b_v (i := 7) rfl (by kernel_rfl) hF (fun w2 hx => v_move rfl) rfl hSS ?_; clear hF a; intro a hF
         refine b_v (i := 8) rfl (by kernel_rfl) hF (fun w2 hx => v_move rfl) rfl hSS ?_; clear hF a; intro a hF
         refine b_v (i := 9) rfl (by kernel_rfl) hF (fun w2 hx => v_move rfl) rfl hSS ?_; clear hF a; intro a hF
         refine b_v (i := 10) rfl (by kernel_rfl) hF (fun w2 hx => v_move rfl) rfl hSS ?_; clear hF a; intro a hF
         refine b_v (i := 11) rfl (by kernel_rfl) hF (fun w2 hx => v_ixS sl22 rfl rfl (by omega) (by omega)) rfl hSS ?_; clear hF a; intro a hF
         refine b_v (i := 13) rfl (by kernel_rfl) hF (fun w2 hx => v_move rfl) rfl hSS ?_; clear hF a; intro a hF
         refine b_e2 (i := 5) (i' := 12) (by kernel_rfl) rfl rfl ?_ ?_
         ·
          skip
          refine sv hF (v_load sc39 rfl (by rw [toNat_c]; exact hkr.c)) rfl ?_; clear hF a; intro a hF
          refine WL_nil ⟨hSS, ?_⟩
          refine b_e (i := 12) (by kernel_rfl) rfl ?_
          refine sv hF (v_load sc39 rfl (by rw [toNat_c]; exact hkr.c)) rfl ?_; clear hF a; intro a hF
          refine WL_nil ⟨hSS, ?_⟩
          refine b_v (i := 14) rfl (by kernel_rfl) hF (fun w2 hx => v_ixS sl39 rfl rfl (by omega) (by omega)) rfl hSS ?_; clear hF a; intro a hF
          refine b_e (i := 15) (by kernel_rfl) rfl ?_
          refine sv hF (v_load sc3 rfl (by rw [toNat_c]; exact hkx.c)) rfl ?_; clear hF a; intro a hF
          refine WL_nil ⟨hSS, ?_⟩
          refine b_e (i := 16) (by kernel_rfl) rfl ?_
          refine sc hF rfl rfl rfl en57 rfl (scaled_ok B _ wb p hp (some ⟨gR, 0, none⟩) cR m 0 ((hp.fld.cleF t c i (hp.fld.sclF t (hp.fld.inv (f1 k c)) m (fun i j => f1 (Fld.sw t k i) j))) i c) (fun _ j => hp.fld.mul (f1 k j) (hp.fld.inv (f1 k c))) _ hS.inv (hR.row (by decide)) hrfb hxb (Nat.le_refl _) (by omega)) ?_; clear hF a; intro v w' a hv hF
          obtain ⟨obU, hU, hS'⟩ := hv
          replace hU := hU.le hKw
          obtain ⟨gU, cU, rfl, rfl⟩ := hU.ptr (by simp; omega)
          rw [zints_length, trow_length] at hU hF
          replace hMO := hMO.st (by decide) hS'
          replace hR := hR.st (by decide) hS'
          replace hKw := Nat.le_trans hKw hS'.ext.size
          replace hKz := Nat.le_trans hKz hS'.ext.size
          replace hkr := hkr.st hS'
          replace hkx := hkx.st hS'
          replace hrow := (hrow.st hS').mono hS'.ext.size
          replace hS := hS.trans hS'
          clear hS'
          clear hSS
          have hSS : (fun (w2 : World) => St FDx B w w2) _ := hS
          refine WL_nil ⟨hSS, ?_⟩
          refine b_e (i := 17) (by kernel_rfl) rfl ?_
          refine sc hF rfl rfl rfl en58 rfl (added_ok B _ _ _ _ _ m i 0 (hp.fld.cleF t c i (hp.fld.sclF t (hp.fld.inv (f1 k c)) m (fun i j => f1 (Fld.sw t k i) j))) (fun _ j => hp.fld.mul ((fun _ j => hp.fld.mul (f1 k j) (hp.fld.inv (f1 k c))) 0 j) ((hp.fld.cleF t c i (hp.fld.sclF t (hp.fld.inv (f1 k c)) m (fun i j => f1 (Fld.sw t k i) j))) i c)) _ hS.inv hrow (hU.row (by decide)) (fun j => Nat.lt_of_lt_of_le (by have := hfib i j; rw [hfw] at this; exact this) h16) (fun j => Nat.lt_of_lt_of_le (by have := hp.fld.lt ((fun _ j => hp.fld.mul (f1 k j) (hp.fld.inv (f1 k c))) 0 j) ((hp.fld.cleF t c i (hp.fld.sclF t (hp.fld.inv (f1 k c)) m (fun i j => f1 (Fld.sw t k i) j))) i c); rw [hfw] at this; exact this) h16) (Nat.le_refl _) (by omega)) ?_; clear hF a; intro v w' a hv hF
          obtain ⟨obV, hV, hS'⟩ := hv
          replace hV := hV.le hKw
          replace hMO := hMO.st (by decide) hS'
          replace hR := hR.st (by decide) hS'
          replace hKw := Nat.le_trans hKw hS'.ext.size
          replace hKz := Nat.le_trans hKz hS'.ext.size
          replace hS := hS.trans hS'
          clear hS'
          clear hSS
          have hSS : (fun (w2 : World) => St FDx B w w2) _ := hS
          refine WL_nil ⟨hSS, ?_⟩
          refine b_v (i := 18) rfl (by kernel_rfl) hF (fun w2 hx => v_ixS sl22 rfl rfl (by omega) (by omega)) rfl hSS ?_; clear hF a; intro a hF
          refine b_e (i := 19) (by kernel_rfl) rfl ?_
          replace hMO := hMO.up hKz
          obtain ⟨aV, cV, rfl⟩ := hV.shape
          refine s_setM (D := FDx) (B := B) hF on39 rfl (by rw [toNat_c, tab_length]; omega) rfl rfl hMO (.of (r := trow m (fun _ j => (hp.fld.cleF t c i (hp.fld.sclF t (hp.fld.inv (f1 k c)) m (fun i j => f1 (Fld.sw t k i) j))) i j ^^^ hp.fld.mul ((fun _ j => hp.fld.mul (f1 k j) (hp.fld.inv (f1 k c))) 0 j) ((hp.fld.cleF t c i (hp.fld.sclF t (hp.fld.inv (f1 k c)) m (fun i j => f1 (Fld.sw t k i) j))) i c)) 0) hV (Nat.le_trans hM hNK)) (by decide) (by decide) hS.inv ?_; intro w' hm hI' ho'
          replace hS := hS.mb hm (fun k h => (hMO.lt k h).1)
          replace hR := hR.mb hm (hR.ne_mown hMO (by decide))
          replace hKw := Nat.le_trans hKw hm.size
          have hKz := hm.size
          replace hMO := ho'
          rw [toNat_c, Nat.zero_add] at hMO
          replace hMO := hMO.cast ((congrArg (List.set _ i) (cle_row (m := m) hp hit hcl hsw rfl)).trans (hp.fld.cleF_set hit))
          clear hm hI' ho' hV
          have hSS : (fun (w2 : World) => St FDx B w w2) _ := hS
          refine WL_nil ⟨hSS, ?_⟩
          refine b_done (by kernel_rfl) (hK _ _ ?_)
          clear hK K
          replace hF := hF.sub _ (c_ 0 rfl (c_ 1 rfl (c_ 3 rfl (c_ 10 rfl (c_ 11 rfl (c_ 12 rfl (c_ 16 rfl (c_ 17 rfl (n_)))))))))
          refine W_reg rfl (fun K hK => ?_)
          refine sv hF (v_move rfl) rfl ?_; clear hF a; intro a hF
          refine sv hF (v_addI rfl rfl (by omega)) rfl ?_; clear hF a; intro a hF
          refine sv hF (v_assign rfl) rfl ?_; clear hF a; intro a hF
          refine WL_nil (hK _ _ ?_)
          clear hK K
          exact ⟨q3 - 1, by omega, i + 1, hF.sub _ (c_ 0 rfl (c_ 1 rfl (c_ 3 rfl (c_ 10 rfl (c_ 11 rfl (c_ 12 rfl (c_ 16 rfl (c_ 17 rfl (n_))))))))), hS, hMO.up (by first | exact hKz | exact Nat.le_refl _), hR, hKw, by omega, by omega⟩
         ·
          skip
          refine sv hF (v_load sc39 rfl (by rw [toNat_c]; exact hkr.c)) rfl ?_; clear hF a; intro a hF
          refine WL_nil ⟨hSS, ?_⟩
          refine b_v (i := 14) rfl (by kernel_rfl) hF (fun w2 hx => v_ixS sl39 rfl rfl (by omega) (by omega)) rfl hSS ?_; clear hF a; intro a hF
          refine b_e2 (i := 5) (i' := 15) (by kernel_rfl) rfl rfl ?_ ?_
          ·
           skip
           refine sv hF (v_load sc39 rfl (by rw [toNat_c]; exact hkr.c)) rfl ?_; clear hF a; intro a hF
           refine WL_nil ⟨hSS, ?_⟩
           refine b_e (i := 15) (by kernel_rfl) rfl ?_
           refine sv hF (v_load sc3 rfl (by rw [toNat_c]; exact hkx.c)) rfl ?_; clear hF a; intro a hF
           refine WL_nil ⟨hSS, ?_⟩
           refine b_e (i := 16) (by kernel_rfl) rfl ?_
           refine sc hF rfl rfl rfl en57 rfl (scaled_ok B _ wb p hp (some ⟨gR, 0, none⟩) cR m 0 ((hp.fld.cleF t c i (hp.fld.sclF t (hp.fld.inv (f1 k c)) m (fun i j => f1 (Fld.sw t k i) j))) i c) (fun _ j => hp.fld.mul (f1 k j) (hp.fld.inv (f1 k c))) _ hS.inv (hR.row (by decide)) hrfb hxb (Nat.le_refl _) (by omega)) ?_; clear hF a; intro v w' a hv hF
           obtain ⟨obU, hU, hS'⟩ := hv
           replace hU := hU.le hKw
           obtain ⟨gU, cU, rfl, rfl⟩ := hU.ptr (by simp; omega)
           rw [zints_length, trow_length] at hU hF
           replace hMO := hMO.st (by decide) hS'
           replace hR := hR.st (by decide) hS'
           replace hKw := Nat.le_trans hKw hS'.ext.size
           replace hKz := Nat.le_trans hKz hS'.ext.size
           replace hkr := hkr.st hS'
           replace hkx := hkx.st hS'
           replace hrow := (hrow.st hS').mono hS'.ext.size
           replace hS := hS.trans hS'
           clear hS'
           clear hSS
           have hSS : (fun (w2 : World) => St FDx B w w2) _ := hS
           refine WL_nil ⟨hSS, ?_⟩
           refine b_e (i := 17) (by kernel_rfl) rfl ?_
           refine sc hF rfl rfl rfl en58 rfl (added_ok B _ _ _ _ _ m i 0 (hp.fld.cleF t c i (hp.fld.sclF t (hp.fld.inv (f1 k c)) m (fun i j => f1 (Fld.sw t k i) j))) (fun _ j => hp.fld.mul ((fun _ j => hp.fld.mul (f1 k j) (hp.fld.inv (f1 k c))) 0 j) ((hp.fld.cleF t c i (hp.fld.sclF t (hp.fld.inv (f1 k c)) m (fun i j => f1 (Fld.sw t k i) j))) i c)) _ hS.inv hrow (hU.row (by decide)) (fun j => Nat.lt_of_lt_of_le (by have := hfib i j; rw [hfw] at this; exact this) h16) (fun j => Nat.lt_of_lt_of_le (by have := hp.fld.lt ((fun _ j => hp.fld.mul (f1 k j) (hp.fld.inv (f1 k c))) 0 j) ((hp.fld.cleF t c i (hp.fld.sclF t (hp.fld.inv (f1 k c)) m (fun i j => f1 (Fld.sw t k i) j))) i c); rw [hfw] at this; exact this) h16) (Nat.le_refl _) (by omega)) ?_; clear hF a; intro v w' a hv hF
           obtain ⟨obV, hV, hS'⟩ := hv
           replace hV := hV.le hKw
           replace hMO := hMO.st (by decide) hS'
           replace hR := hR.st (by decide) hS'
           replace hKw := Nat.le_trans hKw hS'.ext.size
           replace hKz := Nat.le_trans hKz hS'.ext.size
           replace hS := hS.trans hS'
           clear hS'
           clear hSS
           have hSS : (fun (w2 : World) => St FDx B w w2) _ := hS
           refine WL_nil ⟨hSS, ?_⟩
           refine b_v (i := 18) rfl (by kernel_rfl) hF (fun w2 hx => v_ixS sl22 rfl rfl (by omega) (by omega)) rfl hSS ?_; clear hF a; intro a hF
           refine b_e (i := 19) (by kernel_rfl) rfl ?_
           replace hMO := hMO.up hKz
           obtain ⟨aV, cV, rfl⟩ := hV.shape
           refine s_setM (D := FDx) (B := B) hF on39 rfl (by rw [toNat_c, tab_length]; omega) rfl rfl hMO (.of (r := trow m (fun _ j => (hp.fld.cleF t c i (hp.fld.sclF t (hp.fld.inv (f1 k c)) m (fun i j => f1 (Fld.sw t k i) j))) i j ^^^ hp.fld.mul ((fun _ j => hp.fld.mul (f1 k j) (hp.fld.inv (f1 k c))) 0 j) ((hp.fld.cleF t c i (hp.fld.sclF t (hp.fld.inv (f1 k c)) m (fun i j => f1 (Fld.sw t k i) j))) i c)) 0) hV (Nat.le_trans hM hNK)) (by decide) (by decide) hS.inv ?_; intro w' hm hI' ho'
           replace hS := hS.mb hm (fun k h => (hMO.lt k h).1)
           replace hR := hR.mb hm (hR.ne_mown hMO (by decide))
           replace hKw := Nat.le_trans hKw hm.size
           have hKz := hm.size
           replace hMO := ho'
           rw [toNat_c, Nat.zero_add] at hMO
           replace hMO := hMO.cast ((congrArg (List.set _ i) (cle_row (m := m) hp hit hcl hsw rfl)).trans (hp.fld.cleF_set hit))
           clear hm hI' ho' hV
           have hSS : (fun (w2 : World) => St FDx B w w2) _ := hS
           refine WL_nil ⟨hSS, ?_⟩
           refine b_done (by kernel_rfl) (hK _ _ ?_)
           clear hK K
           replace hF := hF.sub _ (c_ 0 rfl (c_ 1 rfl (c_ 3 rfl (c_ 10 rfl (c_ 11 rfl (c_ 12 rfl (c_ 16 rfl (c_ 17 rfl (n_)))))))))
           refine W_reg rfl (fun K hK => ?_)
           refine sv hF (v_move rfl) rfl ?_; clear hF a; intro a hF
           refine sv hF (v_addI rfl rfl (by omega)) rfl ?_; clear hF a; intro a hF
           refine sv hF (v_assign rfl) rfl ?_; clear hF a; intro a hF
           refine WL_nil (hK _ _ ?_)
           clear hK K
           exact ⟨q3 - 1, by omega, i + 1, hF.sub _ (c_ 0 rfl (c_ 1 rfl (c_ 3 rfl (c_ 10 rfl (c_ 11 rfl (c_ 12 rfl (c_ 16 rfl (c_ 17 rfl (n_))))))))), hS, hMO.up (by first | exact hKz | exact Nat.le_refl _), hR, hKw, by omega, by omega⟩
          ·
           skip
           refine sv hF (v_load sc3 rfl (by rw [toNat_c]; exact hkx.c)) rfl ?_; clear hF a; intro a hF
           refine WL_nil ⟨hSS, ?_⟩
           refine b_e2 (i := 5) (i' := 16) (by kernel_rfl) rfl rfl ?_ ?_
           ·
            skip
            refine sv hF (v_load sc39 rfl (by rw [toNat_c]; exact hkr.c)) rfl ?_; clear hF a; intro a hF
            refine WL_nil ⟨hSS, ?_⟩
            refine b_e (i := 16) (by kernel_rfl) rfl ?_
            refine sc hF rfl rfl rfl en57 rfl (scaled_ok B _ wb p hp (some ⟨gR, 0, none⟩) cR m 0 ((hp.fld.cleF t c i (hp.fld.sclF t (hp.fld.inv (f1 k c)) m (fun i j => f1 (Fld.sw t k i) j))) i c) (fun _ j => hp.fld.mul (f1 k j) (hp.fld.inv (f1 k c))) _ hS.inv (hR.row (by decide)) hrfb hxb (Nat.le_refl _) (by omega)) ?_; clear hF a; intro v w' a hv hF
            obtain ⟨obU, hU, hS'⟩ := hv
            replace hU := hU.le hKw
            obtain ⟨gU, cU, rfl, rfl⟩ := hU.ptr (by simp; omega)
            rw [zints_length, trow_length] at hU hF
            replace hMO := hMO.st (by decide) hS'
            replace hR := hR.st (by decide) hS'
            replace hKw := Nat.le_trans hKw hS'.ext.size
            replace hKz := Nat.le_trans hKz hS'.ext.size
            replace hkr := hkr.st hS'
            replace hkx := hkx.st hS'
            replace hrow := (hrow.st hS').mono hS'.ext.size
            replace hS := hS.trans hS'
            clear hS'
            clear hSS
            have hSS : (fun (w2 : World) => St FDx B w w2) _ := hS
            refine WL_nil ⟨hSS, ?_⟩
            refine b_e (i := 17) (by kernel_rfl) rfl ?_
            refine sc hF rfl rfl rfl en58 rfl (added_ok B _ _ _ _ _ m i 0 (hp.fld.cleF t c i (hp.fld.sclF t (hp.fld.inv (f1 k c)) m (fun i j => f1 (Fld.sw t k i) j))) (fun _ j => hp.fld.mul ((fun _ j => hp.fld.mul (f1 k j) (hp.fld.inv (f1 k c))) 0 j) ((hp.fld.cleF t c i (hp.fld.sclF t (hp.fld.inv (f1 k c)) m (fun i j => f1 (Fld.sw t k i) j))) i c)) _ hS.inv hrow (hU.row (by decide)) (fun j => Nat.lt_of_lt_of_le (by have := hfib i j; rw [hfw] at this; exact this) h16) (fun j => Nat.lt_of_lt_of_le (by have := hp.fld.lt ((fun _ j => hp.fld.mul (f1 k j) (hp.fld.inv (f1 k c))) 0 j) ((hp.fld.cleF t c i (hp.fld.sclF t (hp.fld.inv (f1 k c)) m (fun i j => f1 (Fld.sw t k i) j))) i c); rw [hfw] at this; exact this) h16) (Nat.le_refl _) (by omega)) ?_; clear hF a; intro v w' a hv hF
            obtain ⟨obV, hV, hS'⟩ := hv
            replace hV := hV.le hKw
            replace hMO := hMO.st (by decide) hS'
            replace hR := hR.st (by decide) hS'
            replace hKw := Nat.le_trans hKw hS'.ext.size
            replace hKz := Nat.le_trans hKz hS'.ext.size
            replace hS := hS.trans hS'
            clear hS'
            clear hSS
            have hSS : (fun (w2 : World) => St FDx B w w2) _ := hS
            refine WL_nil ⟨hSS, ?_⟩
            refine b_v (i := 18) rfl (by kernel_rfl) hF (fun w2 hx => v_ixS sl22 rfl rfl (by omega) (by omega)) rfl hSS ?_; clear hF a; intro a hF
            refine b_e (i := 19) (by kernel_rfl) rfl ?_
            replace hMO := hMO.up hKz
            obtain ⟨aV, cV, rfl⟩ := hV.shape
            refine s_setM (D := FDx) (B := B) hF on39 rfl (by rw [toNat_c, tab_length]; omega) rfl rfl hMO (.of (r := trow m (fun _ j => (hp.fld.cleF t c i (hp.fld.sclF t (hp.fld.inv (f1 k c)) m (fun i j => f1 (Fld.sw t k i) j))) i j ^^^ hp.fld.mul ((fun _ j => hp.fld.mul (f1 k j) (hp.fld.inv (f1 k c))) 0 j) ((hp.fld.cleF t c i (hp.fld.sclF t (hp.fld.inv (f1 k c)) m (fun i j => f1 (Fld.sw t k i) j))) i c)) 0) hV (Nat.le_trans hM hNK)) (by decide) (by decide) hS.inv ?_; intro w' hm hI' ho'
            replace hS := hS.mb hm (fun k h => (hMO.lt k h).1)
            replace hR := hR.mb hm (hR.ne_mown hMO (by decide))
            replace hKw := Nat.le_trans hKw hm.size
            have hKz := hm.size
            replace hMO := ho'
            rw [toNat_c, Nat.zero_add] at hMO
            replace hMO := hMO.cast ((congrArg (List.set _ i) (cle_row (m := m) hp hit hcl hsw rfl)).trans (hp.fld.cleF_set hit))
            clear hm hI' ho' hV
            have hSS : (fun (w2 : World) => St FDx B w w2) _ := hS
            refine WL_nil ⟨hSS, ?_⟩
            refine b_done (by kernel_rfl) (hK _ _ ?_)
            clear hK K
            replace hF := hF.sub _ (c_ 0 rfl (c_ 1 rfl (c_ 3 rfl (c_ 10 rfl (c_ 11 rfl (c_ 12 rfl (c_ 16 rfl (c_ 17 rfl (n_)))))))))
            refine W_reg rfl (fun K hK => ?_)
            refine sv hF (v_move rfl) rfl ?_; clear hF a; intro a hF
            refine sv hF (v_addI rfl rfl (by omega)) rfl ?_; clear hF a; intro a hF
            refine sv hF (v_assign rfl) rfl ?_; clear hF a; intro a hF
            refine WL_nil (hK _ _ ?_)
            clear hK K
            exact ⟨q3 - 1, by omega, i + 1, hF.sub _ (c_ 0 rfl (c_ 1 rfl (c_ 3 rfl (c_ 10 rfl (c_ 11 rfl (c_ 12 rfl (c_ 16 rfl (c_ 17 rfl (n_))))))))), hS, hMO.up (by first | exact hKz | exact Nat.le_refl _), hR, hKw, by omega, by omega⟩
           ·
            skip
            refine sc hF rfl rfl rfl en57 rfl (scaled_ok B _ wb p hp (some ⟨gR, 0, none⟩) cR m 0 ((hp.fld.cleF t c i (hp.fld.sclF t (hp.fld.inv (f1 k c)) m (fun i j => f1 (Fld.sw t k i) j))) i c) (fun _ j => hp.fld.mul (f1 k j) (hp.fld.inv (f1 k c))) _ hS.inv (hR.row (by decide)) hrfb hxb (Nat.le_refl _) (by omega)) ?_; clear hF a; intro v w' a hv hF
            obtain ⟨obU, hU, hS'⟩ := hv
            replace hU := hU.le hKw
            obtain ⟨gU, cU, rfl, rfl⟩ := hU.ptr (by simp; omega)
            rw [zints_length, trow_length] at hU hF
            replace hMO := hMO.st (by decide) hS'
            replace hR := hR.st (by decide) hS'
            replace hKw := Nat.le_trans hKw hS'.ext.size
            replace hKz := Nat.le_trans hKz hS'.ext.size
            replace hkr := hkr.st hS'
            replace hkx := hkx.st hS'
            replace hrow := (hrow.st hS').mono hS'.ext.size
            replace hS := hS.trans hS'
            clear hS'
            clear hSS
            have hSS : (fun (w2 : World) => St FDx B w w2) _ := hS
            refine WL_nil ⟨hSS, ?_⟩
            refine b_e (i := 5) (by kernel_rfl) rfl ?_
            refine sv hF (v_load sc39 rfl (by rw [toNat_c]; exact hkr.c)) rfl ?_; clear hF a; intro a hF
            refine WL_nil ⟨hSS, ?_⟩
            refine b_e (i := 17) (by kernel_rfl) rfl ?_
            refine sc hF rfl rfl rfl en58 rfl (added_ok B _ _ _ _ _ m i 0 (hp.fld.cleF t c i (hp.fld.sclF t (hp.fld.inv (f1 k c)) m (fun i j => f1 (Fld.sw t k i) j))) (fun _ j => hp.fld.mul ((fun _ j => hp.fld.mul (f1 k j) (hp.fld.inv (f1 k c))) 0 j) ((hp.fld.cleF t c i (hp.fld.sclF t (hp.fld.inv (f1 k c)) m (fun i j => f1 (Fld.sw t k i) j))) i c)) _ hS.inv hrow (hU.row (by decide)) (fun j => Nat.lt_of_lt_of_le (by have := hfib i j; rw [hfw] at this; exact this) h16) (fun j => Nat.lt_of_lt_of_le (by have := hp.fld.lt ((fun _ j => hp.fld.mul (f1 k j) (hp.fld.inv (f1 k c))) 0 j) ((hp.fld.cleF t c i (hp.fld.sclF t (hp.fld.inv (f1 k c)) m (fun i j => f1 (Fld.sw t k i) j))) i c); rw [hfw] at this; exact this) h16) (Nat.le_refl _) (by omega)) ?_; clear hF a; intro v w' a hv hF
            obtain ⟨obV, hV, hS'⟩ := hv
            replace hV := hV.le hKw
            replace hMO := hMO.st (by decide) hS'
            replace hR := hR.st (by decide) hS'
            replace hKw := Nat.le_trans hKw hS'.ext.size
            replace hKz := Nat.le_trans hKz hS'.ext.size
            replace hS := hS.trans hS'
            clear hS'
            clear hSS
            have hSS : (fun (w2 : World) => St FDx B w w2) _ := hS
            refine WL_nil ⟨hSS, ?_⟩
            refine b_v (i := 18) rfl (by kernel_rfl) hF (fun w2 hx => v_ixS sl22 rfl rfl (by omega) (by omega)) rfl hSS ?_; clear hF a; intro a hF
            refine b_e (i := 19) (by kernel_rfl) rfl ?_
            replace hMO := hMO.up hKz
            obtain ⟨aV, cV, rfl⟩ := hV.shape
            refine s_setM (D := FDx) (B := B) hF on39 rfl (by rw [toNat_c, tab_length]; omega) rfl rfl hMO (.of (r := trow m (fun _ j => (hp.fld.cleF t c i (hp.fld.sclF t (hp.fld.inv (f1 k c)) m (fun i j => f1 (Fld.sw t k i) j))) i j ^^^ hp.fld.mul ((fun _ j => hp.fld.mul (f1 k j) (hp.fld.inv (f1 k c))) 0 j) ((hp.fld.cleF t c i (hp.fld.sclF t (hp.fld.inv (f1 k c)) m (fun i j => f1 (Fld.sw t k i) j))) i c)) 0) hV (Nat.le_trans hM hNK)) (by decide) (by decide) hS.inv ?_; intro w' hm hI' ho'
            replace hS := hS.mb hm (fun k h => (hMO.lt k h).1)
            replace hR := hR.mb hm (hR.ne_mown hMO (by decide))
            replace hKw := Nat.le_trans hKw hm.size
            have hKz := hm.size
            replace hMO := ho'
            rw [toNat_c, Nat.zero_add] at hMO
            replace hMO := hMO.cast ((congrArg (List.set _ i) (cle_row (m := m) hp hit hcl hsw rfl)).trans (hp.fld.cleF_set hit))
            clear hm hI' ho' hV
            have hSS : (fun (w2 : World) => St FDx B w w2) _ := hS
            refine WL_nil ⟨hSS, ?_⟩
            refine b_done (by kernel_rfl) (hK _ _ ?_)
            clear hK K
            replace hF := hF.sub _ (c_ 0 rfl (c_ 1 rfl (c_ 3 rfl (c_ 10 rfl (c_ 11 rfl (c_ 12 rfl (c_ 16 rfl (c_ 17 rfl (n_)))))))))
            refine W_reg rfl (fun K hK => ?_)
            refine sv hF (v_move rfl) rfl ?_; clear hF a; intro a hF
            refine sv hF (v_addI rfl rfl (by omega)) rfl ?_; clear hF a; intro a hF
            refine sv hF (v_assign rfl) rfl ?_; clear hF a; intro a hF
            refine WL_nil (hK _ _ ?_)
            clear hK K
            exact ⟨q3 - 1, by omega, i + 1, hF.sub _ (c_ 0 rfl (c_ 1 rfl (c_ 3 rfl (c_ 10 rfl (c_ 11 rfl (c_ 12 rfl (c_ 16 rfl (c_ 17 rfl (n_))))))))), hS, hMO.up (by first | exact hKz | exact Nat.le_refl _), hR, hKw, by omega, by omega⟩
        ·
         skip
         try simp only [dcl] at hc6
         replace hMO := hMO.cast (tab_congr (g := hp.fld.cleF t c (i + 1) (hp.fld.sclF t (hp.fld.inv (f1 k c)) m (fun i j => f1 (Fld.sw t k i) j))) fun a j _ _ => hp.fld.cleF_zero (by rw [← hei]; omega) a j)
         clear hkr hkx hrow
         refine W_skip ?_
         refine W_reg rfl (fun K hK => ?_)
         refine sv hF (v_move rfl) rfl ?_; clear hF a; intro a hF
         refine sv hF (v_addI rfl rfl (by omega)) rfl ?_; clear hF a; intro a hF
         refine sv hF (v_assign rfl) rfl ?_; clear hF a; intro a hF
         refine WL_nil (hK _ _ ?_)
         clear hK K
         replace hF := hF.sub _ (c_ 17 rfl (c_ 75 rfl (c_ 74 rfl (c_ 0 rfl (c_ 1 rfl (c_ 3 rfl (c_ 10 rfl (c_ 11 rfl (c_ 12 rfl (c_ 16 rfl (n_)))))))))))
         exact ⟨q3 - 1, by omega, i + 1, hF.sub _ (c_ 0 rfl (c_ 1 rfl (c_ 3 rfl (c_ 10 rfl (c_ 11 rfl (c_ 12 rfl (c_ 16 rfl (c_ 17 rfl (n_))))))))), hS, hMO.up (by first | exact hKz | exact Nat.le_refl _), hR, hKw, by omega, by omega⟩
       ·
        clear hF a; intro hc5 a hF
        try simp only [dcl] at hc5
        refine sv hF (v_move rfl) rfl ?_; clear hF a; intro a hF
        refine svn hF rfl rfl rfl ?_; clear hF a; intro a hF
        refine svn hF rfl rfl rfl ?_; clear hF a; intro a hF
        refine svn hF rfl rfl rfl ?_; clear hF a; intro a hF
        refine svn hF rfl rfl rfl ?_; clear hF a; intro a hF
        refine svn hF rfl rfl rfl ?_; clear hF a; intro a hF
        refine svn hF rfl rfl rfl ?_; clear hF a; intro a hF
        refine svn hF rfl rfl rfl ?_; clear hF a; intro a hF
        refine svn hF rfl rfl rfl ?_; clear hF a; intro a hF
        refine sv hF (v_pickF rfl rfl) rfl ?_; clear hF a; intro a hF
        refine WL_nil (hK _ _ ?_)
        clear hK K
        replace hF := hF.sub _ (c_ 88 rfl (c_ 0 rfl (c_ 1 rfl (c_ 3 rfl (c_ 10 rfl (c_ 11 rfl (c_ 12 rfl (c_ 16 rfl (c_ 17 rfl (n_))))))))))
        have hit : i = t := by omega
        replace hMO := hMO.cast (tab_congr (g := hp.fld.cleF t c (i + 1) (hp.fld.sclF t (hp.fld.inv (f1 k c)) m (fun i j => f1 (Fld.sw t k i) j))) fun a j _ _ => by subst hit; exact hp.fld.cleF_skip a j)
        clear hkr hkx hrow
        refine W_ifF hF rfl ?_
        refine W_skip ?_
        refine W_reg rfl (fun K hK => ?_)
        refine sv hF (v_move rfl) rfl ?_; clear hF a; intro a hF
        refine sv hF (v_addI rfl rfl (by omega)) rfl ?_; clear hF a; intro a hF
        refine sv hF (v_assign rfl) rfl ?_; clear hF a; intro a hF
        refine WL_nil (hK _ _ ?_)
        clear hK K
        replace hF := hF.sub _ (c_ 17 rfl (c_ 75 rfl (c_ 74 rfl (c_ 0 rfl (c_ 1 rfl (c_ 3 rfl (c_ 10 rfl (c_ 11 rfl (c_ 12 rfl (c_ 16 rfl (n_)))))))))))
        exact ⟨q3 - 1, by omega, i + 1, hF.sub _ (c_ 0 rfl (c_ 1 rfl (c_ 3 rfl (c_ 10 rfl (c_ 11 rfl (c_ 12 rfl (c_ 16 rfl (c_ 17 rfl (n_))))))))), hS, hMO.up (by first | exact hKz | exact Nat.le_refl _), hR, hKw, by omega, by omega⟩
      ·
       skip
       try simp only [dcl] at hc4
       have hie : i = n := by omega
       rw [hie] at hMO
       have hrd := hp.fld.red_some hf1.symm ht1.symm hpk
       have hrd2 : (hp.fld.red n f (c + 1)).2 = t + 1 := by rw [hrd]
       replace hMO := hMO.cast (tab_congr (g := (hp.fld.red n f (c + 1)).1) fun a j ha hj => by rw [hrd]; exact hp.fld.op_eq hcl a ha j hj)
       refine W_exit rfl ?_
       refine W_reg rfl (fun K hK => ?_)
       refine sv hF (v_move rfl) rfl ?_; clear hF a; intro a hF
       refine sv hF ((v_addI rfl rfl (by omega)).as (show Value.int .i64 ((t : Int) + 1) = .int .i64 (((hp.fld.red n f (c + 1)).2 : Nat) : Int) by rw [hrd2]; simp)) rfl ?_; clear hF a; intro a hF
       refine sv hF (v_assign rfl) rfl ?_; clear hF a; intro a hF
       refine WL_nil (hK _ _ ?_)
       clear hK K
       replace hF := hF.sub _ (c_ 11 rfl (c_ 109 rfl (c_ 108 rfl (c_ 0 rfl (c_ 1 rfl (c_ 3 rfl (c_ 10 rfl (c_ 12 rfl (c_ 16 rfl (c_ 17 rfl (n_)))))))))))
       refine W_reg rfl (fun K hK => ?_)
       refine sv hF (v_move rfl) rfl ?_; clear hF a; intro a hF
       refine sv hF (v_addI rfl rfl (by omega)) rfl ?_; clear hF a; intro a hF
       refine sv hF (v_assign rfl) rfl ?_; clear hF a; intro a hF
       refine WL_nil (hK _ _ ?_)
       clear hK K
       exact ⟨q - 1, by omega, c + 1, hF.sub _ (c_ 0 rfl (c_ 1 rfl (c_ 3 rfl (c_ 10 rfl (c_ 11 rfl (c_ 12 rfl (n_))))))), hS, hMO.up (by first | exact hKs | exact hKz | exact Nat.le_refl _), by omega, by omega⟩
   ·
    skip
    try simp only [dcl] at hc2
    refine W_exit rfl ?_
    refine W_sr rfl (fun K hK => ?_)
    refine sv4 hF (v_move rfl) (v_move rfl) (v_assign rfl) (v_assign rfl) rfl rfl rfl rfl ?_; clear hF a; intro a hF
    refine WL_nil (hK _ _ ?_)
    clear hK K
    replace hF := hF.sub _ (c_ 9 rfl (c_ 8 rfl (c_ 111 rfl (c_ 110 rfl (c_ 0 rfl (c_ 1 rfl (c_ 3 rfl (c_ 10 rfl (c_ 11 rfl (c_ 12 rfl (n_)))))))))))
    refine W_ret ?_
    refine ⟨_, _, _, hF, rfl, rfl, ?_⟩
    have htn2 : (hp.fld.red n f c).2 = n := by omega
    have hfull := hp.fld.red_full (n := n) (f := f) (c := c) htn2 (cols - c)
    rw [show c + (cols - c) = cols by omega] at hfull
    rw [← hfull] at hMO hF
    exact ⟨_, _, by unfold Fld.rk; rw [hfull], hMO.up hKs, hS⟩
  ·
   clear hF a; intro hc1 a hF
   try simp only [dcl] at hc1
   refine sv hF (v_move rfl) rfl ?_; clear hF a; intro a hF
   refine svn hF rfl rfl rfl ?_; clear hF a; intro a hF
   refine svn hF rfl rfl rfl ?_; clear hF a; intro a hF
   refine svn hF rfl rfl rfl ?_; clear hF a; intro a hF
   refine svn hF rfl rfl rfl ?_; clear hF a; intro a hF
   refine sv hF (v_pickF rfl rfl) rfl ?_; clear hF a; intro a hF
   refine WL_nil (hK _ _ ?_)
   clear hK K
   replace hF := hF.sub _ (c_ 29 rfl (c_ 0 rfl (c_ 1 rfl (c_ 3 rfl (c_ 10 rfl (c_ 11 rfl (c_ 12 rfl (n_))))))))
   refine W_ifF hF rfl ?_
   refine W_exit rfl ?_
   refine W_sr rfl (fun K hK => ?_)
   refine sv4 hF (v_move rfl) (v_move rfl) (v_assign rfl) (v_assign rfl) rfl rfl rfl rfl ?_; clear hF a; intro a hF
   refine WL_nil (hK _ _ ?_)
   clear hK K
   replace hF := hF.sub _ (c_ 9 rfl (c_ 8 rfl (c_ 111 rfl (c_ 110 rfl (c_ 0 rfl (c_ 1 rfl (c_ 3 rfl (c_ 10 rfl (c_ 11 rfl (c_ 12 rfl (n_)))))))))))
   refine W_ret ?_
   refine ⟨_, _, _, hF, rfl, rfl, ?_⟩
   obtain rfl : c = cols := by omega
   exact ⟨_, _, rfl, hMO.up hKs, hS⟩

end Go.Proofs.YtaeljbdpjiciaaaGreat

/- The walks of gambrelref04: products. -/
set_option linter.unusedVariables false
set_option linter.unusedSimpArgs false
namespace Go.Proofs.YtaeljbdpjiciaaaGreat
open Go Go.Gam


namespace FxFRef04c
end FxFRef04c
open FxFRef04c

end Go.Proofs.YtaeljbdpjiciaaaGreat

/- The walk of gambrelref04: Apply. -/
set_option linter.unusedVariables false
set_option linter.unusedSimpArgs false
namespace Go.Proofs.YtaeljbdpjiciaaaGreat
open Go Go.Gam


namespace FxFRef04d
end FxFRef04d
open FxFRef04d

end Go.Proofs.YtaeljbdpjiciaaaGreat

/- The walks of gambrelref05: inverses, ranks, what is solved. -/
set_option linter.unusedVariables false
set_option linter.unusedSimpArgs false
namespace Go.Proofs.YtaeljbdpjiciaaaGreat
open Go Go.Gam


namespace FxFRef05b
theorem en16 : Ent Tryz.prog 16 := ent Tryz.func16 (by kernel_rfl) (by kernel_rfl)
theorem en18 : Ent Tryz.prog 18 := ent Tryz.func18 (by kernel_rfl) (by kernel_rfl)
theorem en38 : Ent Tryz.prog 38 := ent Tryz.func38 (by kernel_rfl) (by kernel_rfl)
theorem sc39 : Scalar Tryz.prog 39 := ⟨_, Tryz.underlying39, by simp, by simp⟩
theorem sl22 : Sl Tryz.prog 22 39 (.slice none 0 0) 24 := sl_of Tryz.underlying22 rfl (by kernel_rfl)
theorem sl39 : Sl Tryz.prog 39 3 (.int .i64 0) 8 := sl_of Tryz.underlying39 rfl (by kernel_rfl)
end FxFRef05b
open FxFRef05b

set_option maxRecDepth 100000 in
set_option maxHeartbeats 1000000 in
theorem rInverse_ok (B M wb p : Nat) (hp : Prm wb p) (pmt : Option Addr) (cmt : Nat) (mt : Mtx) (w : World) (hI : Inv FDx B w) (hM : M ≤ w.heap.size) (hAmt : Mat FDx B M w pmt cmt mt) (hlmt : mt.length ≤ maxLen) (hbmt : ∀ r ∈ mt, r.length ≤ maxLen) : Ret Tryz.prog 21 [.int .i64 (wb : Int), .int .u32 (p : Int), .slice pmt mt.length cmt] w fun v w' => ∃ su cu, v = .tuple #[.slice su (invR hp mt).2.length cu, .int .i64 (invR hp mt).1] ∧ Mat FDx B w'.heap.size w' su cu (invR hp mt).2 ∧ St FDx B w w' := by
 refine enter2 81 [(0, .int .i64 (wb : Int)), (1, .int .u32 (p : Int)), (2, .slice pmt mt.length cmt)] 6 7 Tryz.func21 rfl rfl rfl rfl rfl ?_; intro a hF
 have hS := St.refl hI
 refine W_sr rfl (fun K hK => ?_)
 refine sv2 hF (v_assign rfl) (v_assign rfl) rfl rfl ?_; clear hF a; intro a hF
 refine WL_nil (hK _ _ ?_)
 clear hK K
 refine W_seq ?_
 refine W_sr rfl (fun K hK => ?_)
 refine sv2 hF (v_move rfl) (v_move rfl) rfl rfl ?_; clear hF a; intro a hF
 refine sc hF rfl rfl rfl en16 rfl (rMay_ok B M wb p hp pmt cmt mt _ hS.inv hAmt hlmt hbmt) ?_; clear hF a; intro v w' a hv hF
 obtain ⟨rfl, hS'⟩ := hv
 replace hAmt := hAmt.st hS'
 replace hS := hS.trans hS'
 clear hS'
 obtain hc1 | hc1 : (mayM (some (wb, p)) mt) = true ∨ (mayM (some (wb, p)) mt) = false := by cases (mayM (some (wb, p)) mt) <;> simp
 ·
  rw [hc1] at hF
  have hmay : mayM (some (wb, p)) mt = true := hc1
  have hmp := mayM_pos hmay
  obtain ⟨r0, h0⟩ : ∃ r, mt[0]? = some r := ⟨_, List.getElem?_eq_getElem (by omega)⟩
  obtain ⟨g0, o0, pr0, cr0, hg0, hk0, hrow0, -⟩ := hAmt.row h0
  have hw0 := wid_at h0
  subst hg0
  refine sv hF (v_not rfl) rfl ?_; clear hF a; intro a hF
  refine sv hF (v_move rfl) rfl ?_; clear hF a; intro a hF
  refine svg hF rfl ?_
  refine sv hF (v_move rfl) rfl ?_; clear hF a; intro a hF
  refine svg hF rfl ?_
  refine sv hF (v_lenS rfl sl22 rfl) rfl ?_; clear hF a; intro a hF
  refine svg hF rfl ?_
  refine sv hF (v_move rfl) rfl ?_; clear hF a; intro a hF
  refine svg hF rfl ?_
  refine sv hF (v_ixS sl22 rfl rfl (by decide) (by omega)) rfl ?_; clear hF a; intro a hF
  refine svg hF rfl ?_
  refine sv hF (v_load sc39 rfl hk0.c) rfl ?_; clear hF a; intro a hF
  refine svg hF rfl ?_
  refine sv hF (v_lenS rfl sl39 rfl) rfl ?_; clear hF a; intro a hF
  refine svg hF rfl ?_
  refine sv hF (v_neq rfl rfl) rfl ?_; clear hF a; intro a hF
  refine sv hF (v_pickF rfl rfl) rfl ?_; clear hF a; intro a hF
  refine WL_nil (hK _ _ ?_)
  clear hK K
  replace hF := hF.sub _ (c_ 29 rfl (c_ 7 rfl (c_ 6 rfl (c_ 0 rfl (c_ 1 rfl (c_ 2 rfl (n_)))))))
  refine W_if hF rfl (fun hc2 => ?_) (fun hc2 => ?_)
  ·
   skip
   try simp only [dcl] at hc2
   refine W_sr rfl (fun K hK => ?_)
   refine sv2 hF (v_assign rfl) (v_assign rfl) rfl rfl ?_; clear hF a; intro a hF
   refine WL_nil (hK _ _ ?_)
   clear hK K
   replace hF := hF.sub _ (c_ 7 rfl (c_ 6 rfl (c_ 0 rfl (c_ 1 rfl (c_ 2 rfl (n_))))))
   refine W_ret ?_
   refine ⟨_, _, _, hF, rfl, rfl, ?_⟩
   rw [invR_bad hp (by unfold sqM; rw [hmay, hw0]; simp only [Bool.true_and]; rw [decide_eq_false_iff_not]; omega)]
   exact ⟨_, _, rfl, (MOwn.nil FDx B 0 0 0 _ 39 (Nat.le_refl _)).matS (by decide) (Nat.zero_le _), hS⟩
  ·
   skip
   try simp only [dcl] at hc2
   refine W_skip ?_
   have hsq : sqM (some (wb, p)) mt = true := by unfold sqM; rw [hmay, hw0]; simp only [Bool.true_and]; rw [decide_eq_true_iff]; omega
   obtain ⟨hmx, hn1, hn20, -⟩ := sqM_Mx hsq
   obtain ⟨n, hn⟩ : ∃ n, n = mt.length := ⟨_, rfl⟩
   rw [← hn] at hmx hn1 hn20 hF
   have hbd := hmx.bd hp
   have htab := hmx.eq_tab
   have hid : identM (n : Int) = tab n n I1 := by rw [identM_of ⟨hn1, hn20⟩, idM_tab]; rfl
   clear hk0 hrow0
   refine W_sr rfl (fun K hK => ?_)
   refine sv hF (v_move rfl) rfl ?_; clear hF a; intro a hF
   refine sv hF (v_lenS rfl sl22 rfl) rfl ?_; clear hF a; intro a hF
   refine sv hF (v_assign rfl) rfl ?_; clear hF a; intro a hF
   refine WL_nil (hK _ _ ?_)
   clear hK K
   replace hF := hF.sub _ (c_ 8 rfl (c_ 7 rfl (c_ 6 rfl (c_ 0 rfl (c_ 1 rfl (c_ 2 rfl (n_)))))))
   refine W_sr rfl (fun K hK => ?_)
   refine sv hF (v_move rfl) rfl ?_; clear hF a; intro a hF
   refine sc hF rfl rfl rfl en18 rfl (rIdentity_ok B (n : Int) _ hS.inv (by omega)) ?_; clear hF a; intro v w' a hv hF
   obtain ⟨ob, ho, hS'⟩ := hv
   rw [hid] at ho
   obtain ⟨sI, cI, rfl, hId⟩ := ho.mat (by decide) (Nat.zero_le _)
   rw [tab_length] at hF
   clear ho
   replace hAmt := hAmt.st hS'
   replace hS := hS.trans hS'
   clear hS'
   refine sv hF (v_assign rfl) rfl ?_; clear hF a; intro a hF
   refine WL_nil (hK _ _ ?_)
   clear hK K
   replace hF := hF.sub _ (c_ 9 rfl (c_ 8 rfl (c_ 7 rfl (c_ 6 rfl (c_ 0 rfl (c_ 1 rfl (c_ 2 rfl (n_))))))))
   obtain ⟨K1, hK1⟩ : ∃ k, k = w'.heap.size := ⟨_, rfl⟩
   rw [← hK1] at hId
   have hwK : w.heap.size ≤ K1 := by have := hS.ext.size; omega
   have hKz : K1 ≤ w'.heap.size := by omega
   rw [htab] at hAmt
   clear hK1
   refine W_sr rfl (fun K hK => ?_)
   refine sv hF (v_assign rfl) rfl ?_; clear hF a; intro a hF
   refine WL_nil (hK _ _ ?_)
   clear hK K
   refine W_seq ?_
   refine W_sr rfl (fun K hK => ?_)
   refine sv hF (v_assign rfl) rfl ?_; clear hF a; intro a hF
   refine WL_nil (hK _ _ ?_)
   clear hK K
   refine W_block ?_
   refine W_loop (fun q a w1 => ∃ (i : Nat) (v10 : Value) (b10 : Option Nat), Fr 81 [(0, .int .i64 (wb : Int)), (1, .int .u32 (p : Int)), (2, .slice (some ⟨g0, o0, none⟩) n cmt), (8, .int .i64 (n : Int)), (9, .slice sI n cI), (10, v10), (11, .int .i64 (i : Int))] a ∧ (St FDx B w w1) ∧ (Mat FDx B M w1 (some ⟨g0, o0, none⟩) cmt (tab n n (en mt))) ∧ (Mat FDx B K1 w1 sI cI (tab n n I1)) ∧ (MOwn FDx B K1 0 w1.heap.size w1 39 v10 b10 ((List.range i).map (trow (n + n) (Fld.bes n (en mt) I1)))) ∧ (K1 ≤ w1.heap.size) ∧ (i ≤ n) ∧ (q + i = n)) (n) ?_ ?_
   ·
    skip
    exact ⟨0, _, none, hF.sub _ (c_ 0 rfl (c_ 1 rfl (c_ 2 rfl (c_ 8 rfl (c_ 9 rfl (c_ 10 rfl (c_ 11 rfl (n_)))))))), hS, hAmt, hId, MOwn.nil _ _ _ _ _ _ _ (Nat.zero_le _), hKz, by omega, by omega⟩
   ·
    skip
    clear hF
    clear hS hAmt hId hKz
    rintro q a w1 ⟨i, v10, b10, hF, hS, hAmt, hId, hMO, hKz, hi, hq⟩
    refine W_seq ?_
    obtain ⟨KM, hKe⟩ : ∃ K, K = w1.heap.size := ⟨_, rfl⟩
    rw [← hKe] at hMO
    have hKs : KM ≤ w1.heap.size := by omega
    have hKK : K1 ≤ KM := by omega
    clear hKe
    refine W_sr rfl (fun K hK => ?_)
    refine sv2 hF (v_move rfl) (v_move rfl) rfl rfl ?_; clear hF a; intro a hF
    refine sv hF (v_lss rfl rfl) rfl ?_; clear hF a; intro a hF
    refine WL_nil (hK _ _ ?_)
    clear hK K
    replace hF := hF.sub _ (c_ 36 rfl (c_ 0 rfl (c_ 1 rfl (c_ 2 rfl (c_ 8 rfl (c_ 9 rfl (c_ 10 rfl (c_ 11 rfl (n_)))))))))
    refine W_if hF rfl (fun hc3 => ?_) (fun hc3 => ?_)
    ·
     skip
     try simp only [dcl] at hc3
     have hlt : i < n := by omega
     obtain ⟨ga, oa, pra, cra, hga, hka, hra, -⟩ := hAmt.row (show (tab n n (en mt))[i]? = some (trow n (en mt) i) from tab_at hlt)
     cases hga
     rw [trow_length] at hka hra
     refine W_skip ?_
     refine W_seq ?_
     refine W_block ?_
     refine W_sr rfl (fun K hK => ?_)
     have hKs0 := hKs
     refine s_bs (D := FDx) (B := B) hF sl39 rfl rfl (by decide) (by simp [Value.cells]) (by decide) hS.inv rfl ?_; clear hF a; intro w' a hm hI' hC hF
     replace hAmt := hAmt.mb hm (fun _ h => by cases h)
     replace hId := hId.mb hm (fun _ h => by cases h)
     replace hMO := hMO.mb0 hm
     replace hKz := Nat.le_trans hKz hm.size
     replace hKs := Nat.le_trans hKs hm.size
     replace hka := hka.mb hm (by simp)
     replace hra := hra.mb hm (fun _ h => by cases h)
     replace hS := hS.mb0 hm
     clear hm hI'
     replace hC := hC.le hKs0
     clear hKs0
     refine sv2 hF (v_move rfl) (v_move rfl) rfl rfl ?_; clear hF a; intro a hF
     refine sv hF (v_ixS sl22 rfl rfl (by omega) (by omega)) rfl ?_; clear hF a; intro a hF
     refine sv hF (v_load sc39 rfl (by rw [toNat_c]; exact hka.c)) rfl ?_; clear hF a; intro a hF
     refine s_app (D := FDx) (B := B) hF rfl sl39 rfl rfl hC (hra) (by intro u hu; obtain ⟨_, _, rfl⟩ := List.mem_map.1 hu; rfl) (by simp; omega) (by simp [maxLen]; omega) (hKs) (by decide) hS.inv rfl ?_; clear hF a; intro v' b' w' a ho' hm hI' hb' hF
     replace hAmt := hAmt.mb hm (fun k h => Nat.le_trans (by omega) (hC.lt k h).1)
     replace hId := hId.mb hm (fun k h => Nat.le_trans (by omega) (hC.lt k h).1)
     replace hMO := hMO.mbo hm hC (by decide) (Nat.le_refl _) (Nat.zero_le _)
     replace hKz := Nat.le_trans hKz hm.size
     replace hKs := Nat.le_trans hKs hm.size
     replace hra := hra.mb hm (fun k h => Nat.le_trans (by omega) (hC.lt k h).1)
     replace hS := hS.mb hm (fun k h => Nat.le_trans ((Nat.le_trans hwK hKK)) (hC.lt k h).1)
     replace hC := ho'
     clear hm hI' ho'
     clear hka hra
     refine sv hF (v_assign rfl) rfl ?_; clear hF a; intro a hF
     refine WL_nil (hK _ _ ?_)
     clear hK K
     replace hF := hF.sub _ (c_ 12 rfl (c_ 0 rfl (c_ 1 rfl (c_ 2 rfl (c_ 8 rfl (c_ 9 rfl (c_ 10 rfl (c_ 11 rfl (n_)))))))))
     refine W_sr rfl (fun K hK => ?_)
     refine sv3 hF (v_move rfl) (v_move rfl) (v_move rfl) rfl rfl rfl ?_; clear hF a; intro a hF
     obtain ⟨gb, ob_, prb, crb, hgb, hkb, hrb, -⟩ := hId.row (show (tab n n I1)[i]? = some (trow n I1 i) from tab_at hlt)
     cases hgb
     rw [trow_length] at hkb hrb
     refine sv hF (v_ixS sl22 rfl rfl (by omega) (by omega)) rfl ?_; clear hF a; intro a hF
     refine sv hF (v_load sc39 rfl (by rw [toNat_c]; exact hkb.c)) rfl ?_; clear hF a; intro a hF
     refine s_app (D := FDx) (B := B) hF rfl sl39 rfl rfl hC (hrb) (by intro u hu; obtain ⟨_, _, rfl⟩ := List.mem_map.1 hu; rfl) (by simp; omega) (by simp [maxLen]; omega) (hKs) (by decide) hS.inv rfl ?_; clear hF a; intro v' b' w' a ho' hm hI' hb' hF
     replace hAmt := hAmt.mb hm (fun k h => Nat.le_trans (by omega) (hC.lt k h).1)
     replace hId := hId.mb hm (fun k h => Nat.le_trans (by omega) (hC.lt k h).1)
     replace hMO := hMO.mbo hm hC (by decide) (Nat.le_refl _) (Nat.zero_le _)
     replace hKz := Nat.le_trans hKz hm.size
     replace hKs := Nat.le_trans hKs hm.size
     replace hS := hS.mb hm (fun k h => Nat.le_trans ((Nat.le_trans hwK hKK)) (hC.lt k h).1)
     replace hC := ho'
     clear hm hI' ho'
     clear hkb hrb
     replace hC := hC.cast (ys := zints (trow (n + n) (Fld.bes n (en mt) I1) i)) (by rw [← bes_row]; simp [zints])
     refine sv hF (v_assign rfl) rfl ?_; clear hF a; intro a hF
     refine WL_nil (hK _ _ ?_)
     clear hK K
     replace hF := hF.sub _ (c_ 12 rfl (c_ 0 rfl (c_ 1 rfl (c_ 2 rfl (c_ 8 rfl (c_ 9 rfl (c_ 10 rfl (c_ 11 rfl (n_)))))))))
     refine W_reg rfl (fun K hK => ?_)
     refine sv2 hF (v_move rfl) (v_move rfl) rfl rfl ?_; clear hF a; intro a hF
     obtain ⟨a_, c_r, rfl⟩ := hC.shape
     refine s_bs (D := FDx) (B := B) hF sl22 rfl rfl (by decide) (by simp [Value.cells]) (by decide) hS.inv rfl ?_; clear hF a; intro w' a hm hI' hL hF
     replace hAmt := hAmt.mb hm (fun _ h => by cases h)
     replace hId := hId.mb hm (fun _ h => by cases h)
     replace hMO := hMO.mb0 hm
     replace hKz := Nat.le_trans hKz hm.size
     replace hKs := Nat.le_trans hKs hm.size
     replace hC := hC.mb hm (fun _ _ => by simp)
     replace hS := hS.mb0 hm
     clear hm hI'
     replace hMO := hMO.up hKs
     clear hKs
     refine s_appM (D := FDx) (B := B) hF rfl sl22 rfl rfl hMO hL (.of (r := trow (n + n) (Fld.bes n (en mt) I1) i) hC (Nat.zero_le _)) rfl rfl (by simp; omega) (hKz) (by decide) (by decide) hS.inv rfl ?_; clear hF a; intro v' b' w' a ho' hm hI' hF
     replace hAmt := hAmt.mb hm (fun k h => Nat.le_trans (Nat.le_trans hM hwK) (hMO.lt k h).1)
     replace hId := hId.mb hm (fun k h => Nat.le_trans (Nat.le_refl _) (hMO.lt k h).1)
     replace hKz := Nat.le_trans hKz hm.size
     replace hS := hS.mb hm (fun k h => Nat.le_trans hwK (hMO.lt k h).1)
     have hKm := hm.size
     replace hMO := ho'
     clear hm hI' ho' hL
     refine sv hF (v_assign rfl) rfl ?_; clear hF a; intro a hF
     refine WL_nil (hK _ _ ?_)
     clear hK K
     replace hF := hF.sub _ (c_ 10 rfl (c_ 0 rfl (c_ 1 rfl (c_ 2 rfl (c_ 8 rfl (c_ 9 rfl (c_ 11 rfl (n_))))))))
     refine W_reg rfl (fun K hK => ?_)
     refine sv hF (v_move rfl) rfl ?_; clear hF a; intro a hF
     refine sv hF (v_addI rfl rfl (by omega)) rfl ?_; clear hF a; intro a hF
     refine sv hF (v_assign rfl) rfl ?_; clear hF a; intro a hF
     refine WL_nil (hK _ _ ?_)
     clear hK K
     exact ⟨q - 1, by omega, i + 1, _, _, hF.sub _ (c_ 0 rfl (c_ 1 rfl (c_ 2 rfl (c_ 8 rfl (c_ 9 rfl (c_ 10 rfl (c_ 11 rfl (n_)))))))), hS, hAmt, hId, (hMO.up hKm).cast (by rw [List.range_succ, List.map_append]; rfl), hKz, by omega, by omega⟩
    ·
     skip
     try simp only [dcl] at hc3
     have hin : i = n := by omega
     rw [hin] at hMO
     obtain ⟨sW, cW, rfl, hWd⟩ := hMO.mat (by decide) (Nat.zero_le _)
     rw [show (((List.range n).map (trow (n + n) (Fld.bes n (en mt) I1)))).length = n by simp] at hF
     clear hMO hAmt hId
     refine W_exit rfl ?_
     refine W_sr rfl (fun K hK => ?_)
     refine sv4 hF (v_move rfl) (v_move rfl) (v_move rfl) (v_move rfl) rfl rfl rfl rfl ?_; clear hF a; intro a hF
     refine sc hF rfl rfl rfl en38 rfl (reduced_ok B _ wb p n (n + n) n hp sW cW (Fld.bes n (en mt) I1) _ hS.inv hWd (Nat.le_refl _) (Fld.bes_bd hp.fld hbd hp.fld.I1_bd) (by omega) ⟨by omega, by omega, by omega⟩) ?_; clear hF a; intro v w' a hv hF
     obtain ⟨go, cap, rfl, hRO, hS'⟩ := hv
     obtain ⟨K0, hK0⟩ : ∃ k, k = w'.heap.size := ⟨_, rfl⟩
     have hRd := hRO.matS (by decide) hS'.ext.size
     rw [← hK0] at hRd
     clear hRO hWd
     have hK0z : K0 ≤ w'.heap.size := by omega
     have hwK0 : w.heap.size ≤ K0 := by have := hS'.ext.size; omega
     clear hK0
     replace hS := hS.trans hS'
     clear hS'
     refine sv5 hF (v_move rfl) (v_ext rfl rfl) (v_ext rfl rfl) (v_assign rfl) (v_assign rfl) rfl rfl rfl rfl rfl ?_; clear hF a; intro a hF
     refine WL_nil (hK _ _ ?_)
     clear hK K
     replace hF := hF.sub _ (c_ 14 rfl (c_ 13 rfl (c_ 62 rfl (c_ 61 rfl (c_ 55 rfl (c_ 60 rfl (c_ 59 rfl (c_ 58 rfl (c_ 57 rfl (c_ 56 rfl (c_ 0 rfl (c_ 1 rfl (c_ 2 rfl (c_ 8 rfl (c_ 9 rfl (c_ 10 rfl (c_ 11 rfl (n_))))))))))))))))))
     refine W_seq ?_
     refine W_sr rfl (fun K hK => ?_)
     refine sv2 hF (v_move rfl) (v_move rfl) rfl rfl ?_; clear hF a; intro a hF
     refine sv hF (v_lss rfl rfl) rfl ?_; clear hF a; intro a hF
     refine WL_nil (hK _ _ ?_)
     clear hK K
     refine W_if hF rfl (fun hc4 => ?_) (fun hc4 => ?_)
     ·
      skip
      try simp only [dcl] at hc4
      refine W_sr rfl (fun K hK => ?_)
      refine sv2 hF (v_assign rfl) (v_assign rfl) rfl rfl ?_; clear hF a; intro a hF
      refine WL_nil (hK _ _ ?_)
      clear hK K
      refine W_ret ?_
      refine ⟨_, _, _, hF, rfl, rfl, ?_⟩
      rw [invR_none hp hsq (by rw [← hn]; exact iv_lt hp (by omega))]
      exact ⟨_, _, rfl, (MOwn.nil FDx B 0 0 0 _ 39 (Nat.le_refl _)).matS (by decide) (Nat.zero_le _), hS⟩
     ·
      skip
      try simp only [dcl] at hc4
      have hiv := iv_ge hp (n := n) (f := en mt) (by omega)
      have hinv := invR_some hp hsq (by rw [← hn]; exact hiv)
      rw [← hn] at hinv
      refine W_skip ?_
      refine W_sr rfl (fun K hK => ?_)
      refine sv hF (v_assign rfl) rfl ?_; clear hF a; intro a hF
      refine WL_nil (hK _ _ ?_)
      clear hK K
      refine W_seq ?_
      refine W_sr rfl (fun K hK => ?_)
      refine sv hF (v_assign rfl) rfl ?_; clear hF a; intro a hF
      refine WL_nil (hK _ _ ?_)
      clear hK K
      refine W_block ?_
      refine W_loop (fun q2 a w3 => ∃ (i : Nat) (v15 : Value) (b15 : Option Nat), Fr 81 [(8, .int .i64 (n : Int)), (13, .slice (some ⟨go, 0, none⟩) n cap), (15, v15), (16, .int .i64 (i : Int))] a ∧ (St FDx B w w3) ∧ (Mat FDx B K0 w3 (some ⟨go, 0, none⟩) cap (tab n (n + n) (hp.fld.red n (Fld.bes n (en mt) I1) n).1)) ∧ (MOwn FDx B K0 K0 w3.heap.size w3 39 v15 b15 ((List.range i).map (trow n (half hp n (en mt))))) ∧ (K0 ≤ w3.heap.size) ∧ (i ≤ n) ∧ (q2 + i = n)) (n) ?_ ?_
      ·
       skip
       exact ⟨0, _, none, hF.sub _ (c_ 8 rfl (c_ 13 rfl (c_ 15 rfl (c_ 16 rfl (n_))))), hS, hRd, MOwn.nil _ _ _ _ _ _ _ (Nat.le_refl _), hK0z, by omega, by omega⟩
      ·
       skip
       clear hF
       clear hS hRd hK0z
       rintro q2 a w3 ⟨i, v15, b15, hF, hS, hRd, hMO, hK0z, hi, hq2⟩
       refine W_seq ?_
       obtain ⟨KM, hKe⟩ : ∃ K, K = w3.heap.size := ⟨_, rfl⟩
       rw [← hKe] at hMO
       have hKs : KM ≤ w3.heap.size := by omega
       clear hKe
       refine W_sr rfl (fun K hK => ?_)
       refine sv2 hF (v_move rfl) (v_move rfl) rfl rfl ?_; clear hF a; intro a hF
       refine sv hF (v_lss rfl rfl) rfl ?_; clear hF a; intro a hF
       refine WL_nil (hK _ _ ?_)
       clear hK K
       refine W_if hF rfl (fun hc5 => ?_) (fun hc5 => ?_)
       ·
        skip
        try simp only [dcl] at hc5
        have hlt : i < n := by omega
        obtain ⟨gw, ow, pr, cr, hgw, hkw, hrw, -⟩ := hRd.row (show (tab n (n + n) (hp.fld.red n (Fld.bes n (en mt) I1) n).1)[i]? = some (trow (n + n) (hp.fld.red n (Fld.bes n (en mt) I1) n).1 i) from tab_at hlt)
        cases hgw
        rw [trow_length] at hrw hkw
        have hcr := hrw.capd
        have hpart := hrw.part (lo := n) (hi := n + n) (by omega) (by simp)
        have hhr := half_row hp n (en mt) i
        have hxs : (List.take (n + n) (zints (trow (n + n) (hp.fld.red n (Fld.bes n (en mt) I1) n).1 i))).drop n = zints (trow n (half hp n (en mt)) i) := by
         rw [List.take_of_length_le (by simp), ← hhr]; simp [zints, trow]
        rw [hxs] at hpart
        clear hxs hhr
        refine W_skip ?_
        refine W_seq ?_
        refine W_block ?_
        refine W_reg rfl (fun K hK => ?_)
        refine sv3 hF (v_move rfl) (v_move rfl) (v_move rfl) rfl rfl rfl ?_; clear hF a; intro a hF
        refine sv hF (v_ixS sl22 rfl rfl (by omega) (by omega)) rfl ?_; clear hF a; intro a hF
        refine sv hF (v_load sc39 rfl (by rw [toNat_c]; exact hkw.c)) rfl ?_; clear hF a; intro a hF
        refine sv hF (v_move rfl) rfl ?_; clear hF a; intro a hF
        refine sv hF (v_slLo sl39 rfl rfl (by omega) (by omega)) rfl ?_; clear hF a; intro a hF
        clear hkw hrw
        refine s_bs (D := FDx) (B := B) hF sl22 rfl rfl (by decide) (by simp [Value.cells]) (by decide) hS.inv rfl ?_; clear hF a; intro w' a hm hI' hL hF
        replace hRd := hRd.mb hm (fun _ h => by cases h)
        replace hMO := hMO.mb0 hm
        replace hK0z := Nat.le_trans hK0z hm.size
        replace hKs := Nat.le_trans hKs hm.size
        replace hpart := hpart.mb hm (fun _ h => by cases h)
        replace hS := hS.mb0 hm
        clear hm hI'
        replace hMO := hMO.up hKs
        clear hKs
        refine s_appM (D := FDx) (B := B) hF rfl sl22 rfl rfl hMO hL (.inr hpart) rfl rfl (by simp; omega) (hK0z) (by decide) (by decide) hS.inv rfl ?_; clear hF a; intro v' b' w' a ho' hm hI' hF
        replace hRd := hRd.mb hm (fun k h => Nat.le_trans (Nat.le_refl _) (hMO.lt k h).1)
        replace hK0z := Nat.le_trans hK0z hm.size
        replace hS := hS.mb hm (fun k h => Nat.le_trans hwK0 (hMO.lt k h).1)
        have hKm := hm.size
        replace hMO := ho'
        clear hm hI' ho' hL
        refine sv hF (v_assign rfl) rfl ?_; clear hF a; intro a hF
        refine WL_nil (hK _ _ ?_)
        clear hK K
        refine W_reg rfl (fun K hK => ?_)
        refine sv hF (v_move rfl) rfl ?_; clear hF a; intro a hF
        refine sv hF (v_addI rfl rfl (by omega)) rfl ?_; clear hF a; intro a hF
        refine sv hF (v_assign rfl) rfl ?_; clear hF a; intro a hF
        refine WL_nil (hK _ _ ?_)
        clear hK K
        exact ⟨q2 - 1, by omega, i + 1, _, _, hF.sub _ (c_ 8 rfl (c_ 13 rfl (c_ 15 rfl (c_ 16 rfl (n_))))), hS, hRd, (hMO.up hKm).cast (by rw [List.range_succ, List.map_append]; rfl), hK0z, by omega, by omega⟩
       ·
        skip
        try simp only [dcl] at hc5
        refine W_exit rfl ?_
        refine W_sr rfl (fun K hK => ?_)
        refine sv3 hF (v_move rfl) (v_assign rfl) (v_assign rfl) rfl rfl rfl ?_; clear hF a; intro a hF
        refine WL_nil (hK _ _ ?_)
        clear hK K
        refine W_ret ?_
        refine ⟨_, _, _, hF, rfl, rfl, ?_⟩
        obtain rfl : i = n := by omega
        rw [hinv]
        obtain ⟨su, cu, rfl, hX⟩ := hMO.mat (by decide) (Nat.le_trans hK0z (Nat.le_refl _))
        exact ⟨su, cu, rfl, hX, hS⟩
 ·
  rw [hc1] at hF
  refine sv hF (v_not rfl) rfl ?_; clear hF a; intro a hF
  refine sv hF (v_move rfl) rfl ?_; clear hF a; intro a hF
  refine svn hF rfl rfl rfl ?_; clear hF a; intro a hF
  refine svn hF rfl rfl rfl ?_; clear hF a; intro a hF
  refine svn hF rfl rfl rfl ?_; clear hF a; intro a hF
  refine svn hF rfl rfl rfl ?_; clear hF a; intro a hF
  refine svn hF rfl rfl rfl ?_; clear hF a; intro a hF
  refine svn hF rfl rfl rfl ?_; clear hF a; intro a hF
  refine svn hF rfl rfl rfl ?_; clear hF a; intro a hF
  refine sv hF (v_pickT rfl rfl) rfl ?_; clear hF a; intro a hF
  refine WL_nil (hK _ _ ?_)
  clear hK K
  replace hF := hF.sub _ (c_ 29 rfl (c_ 7 rfl (c_ 6 rfl (c_ 0 rfl (c_ 1 rfl (c_ 2 rfl (n_)))))))
  refine W_ifT hF rfl ?_
  refine W_sr rfl (fun K hK => ?_)
  refine sv2 hF (v_assign rfl) (v_assign rfl) rfl rfl ?_; clear hF a; intro a hF
  refine WL_nil (hK _ _ ?_)
  clear hK K
  replace hF := hF.sub _ (c_ 7 rfl (c_ 6 rfl (c_ 0 rfl (c_ 1 rfl (c_ 2 rfl (n_))))))
  refine W_ret ?_
  refine ⟨_, _, _, hF, rfl, rfl, ?_⟩
  rw [invR_bad hp (by unfold sqM; rw [show mayM (some (wb, p)) mt = false by simpa using hc1]; rfl)]
  exact ⟨_, _, rfl, (MOwn.nil FDx B 0 0 0 _ 39 (Nat.le_refl _)).matS (by decide) (Nat.zero_le _), hS⟩

end Go.Proofs.YtaeljbdpjiciaaaGreat

/- The walks of gambrelref06: rows of powers. -/
set_option linter.unusedVariables false
set_option linter.unusedSimpArgs false
namespace Go.Proofs.YtaeljbdpjiciaaaGreat
open Go Go.Gam


namespace FxFRef06
end FxFRef06
open FxFRef06

end Go.Proofs.YtaeljbdpjiciaaaGreat

/- The walks of gambrelref08: rows of inverses. -/
set_option linter.unusedVariables false
set_option linter.unusedSimpArgs false
namespace Go.Proofs.YtaeljbdpjiciaaaGreat
open Go Go.Gam


namespace FxFRef08
theorem sl39 : Sl Tryz.prog 39 3 (.int .i64 0) 8 := sl_of Tryz.underlying39 rfl (by kernel_rfl)
end FxFRef08
open FxFRef08

set_option maxRecDepth 100000 in
set_option maxHeartbeats 1000000 in
theorem rfrom_ok (B fr many : Nat) (w : World) (hI : Inv FDx B w) (hm : fr ≤ 1000 ∧ many ≤ 1000) : Ret Tryz.prog 19 [.int .i64 (fr : Int), .int .i64 (many : Int)] w fun v w' => ∃ ob, Gam.Own FDx B w.heap.size w' FDx.E v ob (zints (rnL fr many)) ∧ St FDx B w w' := by
 refine enter 19 [(0, .int .i64 (fr : Int)), (1, .int .i64 (many : Int))] 4 Tryz.func19 rfl rfl rfl rfl rfl ?_; intro a hF
 have hS := St.refl hI
 refine W_sr rfl (fun K hK => ?_)
 refine sv hF (v_assign rfl) rfl ?_; clear hF a; intro a hF
 refine WL_nil (hK _ _ ?_)
 clear hK K
 refine W_sr rfl (fun K hK => ?_)
 refine sv hF (v_assign rfl) rfl ?_; clear hF a; intro a hF
 refine WL_nil (hK _ _ ?_)
 clear hK K
 refine W_seq ?_
 refine W_sr rfl (fun K hK => ?_)
 refine sv hF (v_assign rfl) rfl ?_; clear hF a; intro a hF
 refine WL_nil (hK _ _ ?_)
 clear hK K
 refine W_block ?_
 refine W_loop (fun q a w1 => ∃ (i : Nat) (v5 : Value) (b5 : Option Nat), Fr 19 [(0, .int .i64 (fr : Int)), (1, .int .i64 (many : Int)), (5, v5), (6, .int .i64 (i : Int))] a ∧ (St FDx B w w1) ∧ (Gam.Own FDx B w.heap.size w1 FDx.E v5 b5 (zints (rnL fr i))) ∧ (i ≤ many) ∧ (q + i = many)) (many) ?_ ?_
 ·
  skip
  exact ⟨0, _, none, hF.sub _ (c_ 0 rfl (c_ 1 rfl (c_ 5 rfl (c_ 6 rfl (n_))))), hS, Gam.Own.nil _ _ _ _ _, by omega, by omega⟩
 ·
  skip
  clear hF
  clear hS
  rintro q a w1 ⟨i, v5, b5, hF, hS, hO, hi, hq⟩
  refine W_seq ?_
  refine W_sr rfl (fun K hK => ?_)
  refine sv2 hF (v_move rfl) (v_move rfl) rfl rfl ?_; clear hF a; intro a hF
  refine sv hF (v_lss rfl rfl) rfl ?_; clear hF a; intro a hF
  refine WL_nil (hK _ _ ?_)
  clear hK K
  replace hF := hF.sub _ (c_ 9 rfl (c_ 0 rfl (c_ 1 rfl (c_ 5 rfl (c_ 6 rfl (n_))))))
  refine W_if hF rfl (fun hc1 => ?_) (fun hc1 => ?_)
  ·
   skip
   try simp only [dcl] at hc1
   have hlt : i < many := by omega
   have hrl : (zints (rnL fr i)).length = i := by rw [zints_length, rnL_length]
   refine W_skip ?_
   refine W_seq ?_
   refine W_block ?_
   refine W_reg rfl (fun K hK => ?_)
   refine sv3 hF (v_move rfl) (v_move rfl) (v_move rfl) rfl rfl rfl ?_; clear hF a; intro a hF
   refine sv hF ((v_addI rfl rfl (by omega)).as (show Value.int .i64 ((fr : Int) + (i : Int)) = .int .i64 ((fr + i : Nat) : Int) by simp)) rfl ?_; clear hF a; intro a hF
   refine s_bs (D := FDx) (B := B) hF sl39 rfl rfl (by decide) (by simp [Value.cells]) (by decide) hS.inv rfl ?_; clear hF a; intro w' a hm hI' hL hF
   replace hO := hO.mb hm (fun _ _ => by simp)
   replace hS := hS.mb0 hm
   clear hm hI'
   refine s_app (D := FDx) (B := B) hF rfl sl39 rfl rfl hO (hL.row (by decide)) (by simp [Value.oneCell']) (by rw [hrl]; simp; omega) (by rw [hrl]; simp [maxLen]; omega) (hS.ext.size) (by decide) hS.inv rfl ?_; clear hF a; intro v' b' w' a ho' hm hI' hb' hF
   replace hS := hS.mb hm (fun k h => Nat.le_trans (Nat.le_refl _) (hO.lt k h).1)
   replace hO := ho'
   clear hm hI' ho'
   refine sv hF (v_assign rfl) rfl ?_; clear hF a; intro a hF
   refine WL_nil (hK _ _ ?_)
   clear hK K
   replace hF := hF.sub _ (c_ 5 rfl (c_ 0 rfl (c_ 1 rfl (c_ 6 rfl (n_)))))
   refine W_reg rfl (fun K hK => ?_)
   refine sv hF (v_move rfl) rfl ?_; clear hF a; intro a hF
   refine sv hF (v_addI rfl rfl (by omega)) rfl ?_; clear hF a; intro a hF
   refine sv hF (v_assign rfl) rfl ?_; clear hF a; intro a hF
   refine WL_nil (hK _ _ ?_)
   clear hK K
   exact ⟨q - 1, by omega, i + 1, _, _, hF.sub _ (c_ 0 rfl (c_ 1 rfl (c_ 5 rfl (c_ 6 rfl (n_))))), hS, hO.cast (by unfold rnL; rw [List.range_succ, List.map_append]; simp [zints]), by omega, by omega⟩
  ·
   skip
   try simp only [dcl] at hc1
   refine W_exit rfl ?_
   refine W_sr rfl (fun K hK => ?_)
   refine sv2 hF (v_move rfl) (v_assign rfl) rfl rfl ?_; clear hF a; intro a hF
   refine WL_nil (hK _ _ ?_)
   clear hK K
   replace hF := hF.sub _ (c_ 4 rfl (c_ 18 rfl (c_ 0 rfl (c_ 1 rfl (c_ 5 rfl (c_ 6 rfl (n_)))))))
   refine W_ret ?_
   refine ⟨_, _, hF, rfl, ?_⟩
   obtain rfl : i = many := by omega
   exact ⟨_, hO, hS⟩

end Go.Proofs.YtaeljbdpjiciaaaGreat

/- The choice behind a choice; rows that are safe are those of which, behind the identity, each choice has an inverse. No program in sight. -/
set_option linter.unusedVariables false
set_option linter.unusedSimpArgs false
set_option linter.unusedSectionVars false
namespace Go.Gam
open Px

/-- So many numbers, from one on. -/
def upN (fr m : Nat) : List Nat := (List.range m).map (fr + ·)
theorem upN_length (fr m : Nat) : (upN fr m).length = m := by simp [upN]
theorem upN_cons (fr m : Nat) : upN fr (m + 1) = fr :: upN (fr + 1) m := by
  unfold upN
  rw [List.range_succ_eq_map, List.map_cons, List.map_map]
  congr 1
  exact List.map_congr_left fun x _ => by show fr + (x + 1) = fr + 1 + x; omega
theorem upN_snoc (fr m : Nat) : upN fr (m + 1) = upN fr m ++ [fr + m] := by
  unfold upN; rw [List.range_succ, List.map_append]; rfl
theorem upN_rnL (fr m : Nat) : casts (upN fr m) = rnL fr m := by
  unfold casts upN rnL
  rw [List.map_map]
  exact List.map_congr_left fun x _ => by simp
/-- The choice behind a choice of numbers below N. -/
def nx (N : Nat) : List Nat → Option (List Nat)
  | [] => none
  | a :: r => match nx N r with
    | some r' => some (a :: r')
    | none => if a + r.length + 1 < N then some (upN (a + 1) (r.length + 1)) else none
theorem ch_cut {N m fr : Nat} (h : fr + m < N) : ch N (m + 1) fr = (ch N m (fr + 1)).map (fr :: ·) ++ ch N (m + 1) (fr + 1) := by
  have e : N - m - fr = (N - m - (fr + 1)) + 1 := by omega
  rw [ch_P, ch_P, chP, chP, e, List.range_succ_eq_map, List.map_cons, List.flatten_cons, List.map_map]
  congr 1
  refine congrArg _ (List.map_congr_left fun d _ => ?_)
  show (ch N m (fr + (d + 1) + 1)).map (fun l => (fr + (d + 1)) :: l) = (ch N m (fr + 1 + d + 1)).map fun l => (fr + 1 + d) :: l
  rw [show fr + (d + 1) = fr + 1 + d by omega]
theorem ch_0 {N : Nat} : ∀ {m fr : Nat}, fr + m ≤ N → (ch N m fr)[0]? = some (upN fr m)
  | 0, fr, _ => rfl
  | m + 1, fr, h => by
    have h1 := ch_0 (N := N) (m := m) (fr := fr + 1) (by omega)
    have hl : 0 < ((ch N m (fr + 1)).map (fr :: ·)).length := by rw [List.length_map]; exact (List.getElem?_eq_some_iff.1 h1).1
    rw [ch_cut (by omega), List.getElem?_append_left hl, List.getElem?_map, h1, upN_cons]; rfl
theorem nx_ch {N : Nat} : ∀ {m fr i : Nat} {L : List Nat}, (ch N m fr)[i]? = some L → nx N L = (ch N m fr)[i + 1]?
  | 0, fr, i, L, h => by
    have hi := (List.getElem?_eq_some_iff.1 h).1
    obtain rfl : i = 0 := by simp only [ch, List.length_singleton] at hi; omega
    obtain rfl : [] = L := Option.some.inj h
    rfl
  | m + 1, fr, i, L, h => by
    have key : ∀ q fr i L, q + fr = N → (ch N (m + 1) fr)[i]? = some L → nx N L = (ch N (m + 1) fr)[i + 1]? := by
      intro q
      induction q with
      | zero =>
        intro fr i L hq h
        rw [ch_none (by omega)] at h
        cases h
      | succ q ih =>
        intro fr i L hq h
        by_cases hr : fr + m < N
        · rw [ch_cut hr] at h ⊢
          by_cases hi : i < ((ch N m (fr + 1)).map (fr :: ·)).length
          · rw [List.getElem?_append_left hi, List.getElem?_map] at h
            obtain ⟨r, hr2, rfl⟩ := Option.map_eq_some_iff.1 h
            have e := nx_ch hr2
            have hrl : r.length = m := (ch_mem.1 (List.mem_of_getElem? hr2)).1
            by_cases hi2 : i + 1 < ((ch N m (fr + 1)).map (fr :: ·)).length
            · rw [List.getElem?_append_left hi2, List.getElem?_map]
              rw [List.length_map] at hi2
              obtain ⟨r', hr'⟩ : ∃ z, (ch N m (fr + 1))[i + 1]? = some z := ⟨_, List.getElem?_eq_getElem hi2⟩
              rw [hr'] at e ⊢
              show (match nx N r with | some r' => some (fr :: r') | none => _) = _
              rw [e]; rfl
            · rw [List.getElem?_append_right (by omega)]
              rw [List.length_map] at hi2 hi ⊢
              rw [List.getElem?_eq_none (by omega)] at e
              show (match nx N r with | some r' => some (fr :: r') | none => _) = _
              rw [e, hrl, show i + 1 - (ch N m (fr + 1)).length = 0 by omega]
              show (if fr + m + 1 < N then some (upN (fr + 1) (m + 1)) else none) = _
              by_cases hlt : fr + m + 1 < N
              · rw [if_pos hlt, ch_0 (by omega)]
              · rw [if_neg hlt, ch_none (by omega)]; rfl
          · rw [List.getElem?_append_right (by omega)] at h
            rw [List.getElem?_append_right (by omega), ih _ _ _ (by omega) h]
            congr 1; omega
        · rw [ch_none (by omega)] at h
          cases h
    by_cases hN : fr ≤ N
    · exact key (N - fr) fr i L (by omega) h
    · rw [ch_none (by omega)] at h
      cases h
theorem nx_app {N : Nat} : ∀ {a b b' : List Nat}, nx N b = some b' → nx N (a ++ b) = some (a ++ b')
  | [], _, _, h => h
  | x :: a, b, b', h => by
    show (match nx N (a ++ b) with | some r' => some (x :: r') | none => _) = _
    rw [nx_app h]; rfl
theorem nx_step {N i a : Nat} {L : List Nat} (ha : L[i]? = some a) (hn : nx N (L.drop (i + 1)) = none) : nx N (L.drop i) = if a + (L.length - i) < N then some (upN (a + 1) (L.length - i)) else none := by
  obtain ⟨hi, e⟩ := List.getElem?_eq_some_iff.1 ha
  rw [List.drop_eq_getElem_cons hi, e]
  show (match nx N (L.drop (i + 1)) with | some r' => some (a :: r') | none => if a + (L.drop (i + 1)).length + 1 < N then some (upN (a + 1) ((L.drop (i + 1)).length + 1)) else none) = _
  rw [hn]
  show (if a + (L.drop (i + 1)).length + 1 < N then some (upN (a + 1) ((L.drop (i + 1)).length + 1)) else none) = _
  rw [List.length_drop, show L.length - (i + 1) + 1 = L.length - i by omega, show a + (L.length - (i + 1)) + 1 = a + (L.length - i) by omega]
theorem nx_yes {N i a : Nat} {L : List Nat} (ha : L[i]? = some a) (hn : nx N (L.drop (i + 1)) = none) (h : a + (L.length - i) < N) : nx N L = some (L.take i ++ upN (a + 1) (L.length - i)) := by
  have h1 := nx_step ha hn
  rw [if_pos h] at h1
  have h2 := nx_app (a := L.take i) h1
  rw [List.take_append_drop] at h2
  exact h2
theorem nx_no {N i a : Nat} {L : List Nat} (ha : L[i]? = some a) (hn : nx N (L.drop (i + 1)) = none) (h : ¬ a + (L.length - i) < N) : nx N (L.drop i) = none := by
  rw [nx_step ha hn, if_neg h]
section
variable {wb p : Nat} (hp : Prm wb p)
/-- The rows L of the identity, with f behind it. -/
def bT (k : Nat) (f : Tb) (L : List Nat) : Mtx := tab k k fun i j => beh k f (L.getD i 0) j
def bOk (k : Nat) (f : Tb) (L : List Nat) : Prop := (invR hp (bT k f L)).1 = 0
theorem bOk_iv {k : Nat} {f : Tb} {L : List Nat} (hb : hp.fld.Bd f) (hk : 1 ≤ k ∧ k ≤ 20) (h : bOk hp k f L) : (hp.fld.iv k (fun i j => beh k f (L.getD i 0) j)).isSome = true := by
  have hbd : hp.fld.Bd (fun i j => beh k f (L.getD i 0) j) := fun i j => hp.fld.beh_bd hb _ _
  have hx : Mx wb k k (bT k f L) := mx_tab hp hbd
  obtain ⟨g, hg, -, -⟩ := inv_reg hp (hx.sq hk.1 hk.2) h
  rw [show (bT k f L).length = k from tab_length _ _ _] at hg
  have e := hp.fld.iv_congr (n := k) (f := en (bT k f L)) (g := fun i j => beh k f (L.getD i 0) j) (hx.bd hp) hbd (fun i j hi hj => en_tab hi hj)
  rw [← e, hg]; rfl
theorem safe_all {n k : Nat} {f : Tb} (hb : hp.fld.Bd f) (hk : 1 ≤ k ∧ k ≤ 20) (hn : n ≤ 20) (h : ∀ L ∈ ch (k + n) k 0, bOk hp k f L) : safeB hp n k f = true :=
  safe_mdsR hp hb hn fun l h1 h2 h3 => Option.isSome_iff_exists.1 (bOk_iv hp hb hk (h l (ch_mem.2 ⟨h1, h2, fun x hx => ⟨Nat.zero_le _, h3 x hx⟩⟩)))
theorem okC_iv {n k s : Nat} {f : Tb} {R C : List Nat} (hb : hp.fld.Bd f) (hs : s < 20) (h : okC hp f s R C) : (hp.fld.iv (s + 1) (mnr f R C)).isSome = true := by
  have hbd := hp.fld.mnr_bd hb R C
  have hx : Mx wb (s + 1) (s + 1) (tab (s + 1) (s + 1) (mnr f R C)) := mx_tab hp hbd
  obtain ⟨g, hg, -, -⟩ := inv_reg hp (hx.sq (by omega) (by omega)) h
  rw [tab_length] at hg
  have e := hp.fld.iv_congr (n := s + 1) (f := en (tab (s + 1) (s + 1) (mnr f R C))) (g := mnr f R C) (hx.bd hp) hbd (fun i j hi hj => en_tab hi hj)
  rw [← e, hg]; rfl
theorem safe_pick {n k : Nat} {f : Tb} {L : List Nat} (hb : hp.fld.Bd f) (hk : 1 ≤ k ∧ k ≤ 20) (h : safeB hp n k f = true) (hL : L ∈ ch (k + n) k 0) : bOk hp k f L := by
  obtain ⟨h1, h2, h3⟩ := ch_mem.1 hL
  have hnd : L.Nodup := h2.imp fun h => by omega
  have hlt : ∀ x ∈ L, x < k + n := fun x hx => (h3 x hx).2
  have hlen := par_mis h1 hnd
  have hbd : hp.fld.Bd (fun i j => beh k f (L.getD i 0) j) := fun i j => hp.fld.beh_bd hb _ _
  refine inv0 hp hbd hk.1 hk.2 (hp.fld.mds_of (m := n) hb h1 hnd ?_)
  have hR : (parR k L).Pairwise (· < ·) := by
    unfold parR
    rw [List.pairwise_map]
    refine List.Pairwise.imp_of_mem (R := (· < ·)) (fun {a b} ha hb h => ?_) (h2.filter _)
    have h1 := of_decide_eq_true (List.mem_filter.1 ha).2
    have h2 := of_decide_eq_true (List.mem_filter.1 hb).2
    omega
  have hC : (misJ k L).Pairwise (· < ·) := List.pairwise_lt_range.filter _
  have hRn := parR_lt (m := n) hlt
  have hCn : ∀ j ∈ misJ k L, j < k := misJ_lt
  match hs : (parR k L).length with
  | 0 => exact Option.isSome_iff_exists.2 (hp.fld.iv_ofR (hp.fld.mnr_bd hb _ _) fun y _ _ i hi => by omega)
  | s + 1 =>
    have hsn := sub_len (hR.imp (fun h => by omega)) (fun x hx => List.mem_range.2 (hRn x hx))
    have hsk := sub_len (hC.imp (fun h => by omega)) (fun x hx => List.mem_range.2 (hCn x hx))
    rw [List.length_range] at hsn hsk
    have hok := (safeB_iff hp).1 h s (by omega) (parR k L) (ch_mem.2 ⟨hs, hR, fun x hx => ⟨Nat.zero_le _, hRn x hx⟩⟩) (misJ k L) (ch_mem.2 ⟨by omega, hC, fun x hx => ⟨Nat.zero_le _, hCn x hx⟩⟩)
    exact okC_iv (n := n) (k := k) hp hb (by omega) hok
end
end Go.Gam
