/- Rows that are gathered, one of them changed for another; what gambrelref05 reduces. No program in sight. -/
import Derived.Test.YtcnlooajjnghaaaGreatGInvL
set_option linter.unusedVariables false
set_option linter.unusedSimpArgs false
set_option linter.unusedSectionVars false
namespace Go.Gam
open Px

section
variable {P : Program} {ops : Array Oper} {K' : Kont} {rest : List Oper} {n : NN} {F : Fs} {T : TypeId} {pp : String} {af : Array Edge} {v : Value} {d : Nat} {a : Act} {w : World} {x y : Operand} {D : FD} {B : Nat}
/-- A row of rows that are gathered is changed for another. -/
theorem s_setM {t e N M0 K g o : Nat} {u : Value} {a0 : Mtx} {r : List Int} (hF : Fr n F a) (ht : One P t) (hx : ev F x = some (.pointer (some ⟨g, o, none⟩))) (ho : o < a0.length) (hy : ev F y = some u) (hu : u.oneCell' = true)
    (hM : MOwn D B N M0 K w e v (some g) a0) (hr : RowO D B M0 K w u r) (he : e ≠ D.T) (hE : D.E ≠ e) (hI : Inv D B w)
    (k : ∀ w', Mb D B (some g) w w' → Inv D B w' → MOwn D B N M0 K w' e v (some g) (a0.set o r) → WL P ops K' rest a w') :
    WL P ops K' (⟨none, .store t x y, T, pp, af, none⟩ :: rest) a w := by
  obtain ⟨vals, h2, h3, h4⟩ := hM.ex
  refine s_set (D := D) (B := B) hF ht hx (by omega) hy hu h3 he hI ?_
  intro w' hm hI' ho'
  refine k w' hm hI' ⟨⟨vals.set o u, by simp [h2], ho', fun j z s hz hs => ?_⟩, hM.mn⟩
  by_cases hj : o = j
  · subst hj
    rw [List.getElem?_set_self (by omega)] at hz
    rw [List.getElem?_set_self ho] at hs
    obtain rfl := Option.some.inj hz
    obtain rfl := Option.some.inj hs
    exact hr.mb2 hm h3 hE hM.mn
  · rw [List.getElem?_set_ne hj] at hz hs
    exact (h4 j z s hz hs).mb2 hm h3 hE hM.mn
end
/-- A row of rows that are gathered, as a row that may be gathered again. -/
theorem MOwn.rowO {D : FD} {B N M0 K g cap i : Nat} {w : World} {E2 : TypeId} {b : Option Nat} {a : Mtx} {r : List Int} (h : MOwn D B N M0 K w E2 (.slice (some ⟨g, 0, none⟩) a.length cap) b a) (hE : E2 ≠ D.T) (hi : a[i]? = some r) :
    ∃ pr cr, KC D B w ⟨g, 0 + i, none⟩ (.slice pr r.length cr) ∧ RowO D B M0 K w (.slice pr r.length cr) r := by
  obtain ⟨vals, h1, h2, h3⟩ := h.ex
  have hl := (List.getElem?_eq_some_iff.1 hi).1
  obtain ⟨u, hu⟩ : ∃ u, vals[i]? = some u := ⟨_, List.getElem?_eq_getElem (by omega)⟩
  have hr := h3 i u r hu hi
  have hs : ∃ pr cr, u = .slice pr r.length cr := by
    rcases hr with ⟨b, ho, _⟩ | hr
    · obtain ⟨p, c, e⟩ := ho.shape; rw [zints_length] at e; exact ⟨p, c, e⟩
    · obtain ⟨p, c, e⟩ := hr.sl; rw [zints_length] at e; exact ⟨p, c, e⟩
  obtain ⟨pr, cr, rfl⟩ := hs
  exact ⟨pr, cr, Own.kc h2 hE hu, hr⟩
theorem tab_set {n m i : Nat} {f g : Tb} {r : List Int} (hr : r = trow m g i) (h : ∀ a, a < n → a ≠ i → ∀ j, j < m → g a j = f a j) : (tab n m f).set i r = tab n m g := by
  subst hr
  apply List.ext_getElem?
  intro l
  by_cases hl : l < n
  · by_cases e : i = l
    · subst e; rw [List.getElem?_set_self (by rw [tab_length]; exact hl), tab_at hl]; rfl
    · rw [List.getElem?_set_ne e, tab_at hl, tab_at hl]
      exact congrArg some (trow_congr (m := m) (f := f) (g := g) (i := l) (k := l) fun j hj => (h l hl (Ne.symm e) j hj).symm)
  · rw [List.getElem?_eq_none (by rw [List.length_set, tab_length]; omega), List.getElem?_eq_none (by rw [tab_length]; omega)]
def pivI (f : Tb) (n c t : Nat) : Int := match Fld.piv f n c t (n - t) with | none => -1 | some k => (k : Int)
namespace Fld
variable (F : Fld)
/-- Row k changed for row t, then row t for row k times s. -/
theorem swap_scl {n m t k s : Nat} {f : Tb} (ht : t < n) (hk : k < n) :
    ((tab n m f).set k (trow m f t)).set t (trow m (fun _ j => F.mul (f k j) s) 0) = tab n m (F.sclF t s m (fun i j => f (sw t k i) j)) := by
  have h1 : (tab n m f).set k (trow m f t) = tab n m (fun i j => if i = k then f t j else f i j) :=
    tab_set (trow_congr fun j _ => by rw [if_pos rfl]) fun a _ hne j _ => by rw [if_neg hne]
  rw [h1]
  refine tab_set (trow_congr fun j hj => ?_) fun a _ hne j _ => ?_
  · unfold sclF; rw [if_pos ⟨rfl, hj⟩]; show _ = F.mul (f (sw t k t) j) s; unfold sw; rw [if_pos rfl]
  · unfold sclF
    rw [if_neg (by omega)]
    show f (sw t k a) j = _
    unfold sw
    rw [if_neg hne]
    by_cases e : a = k
    · subst e; rw [if_pos rfl, if_pos rfl]
    · rw [if_neg e, if_neg e]
theorem cleF_zero {t c i : Nat} {f : Tb} (h : f i c = 0) : ∀ a j, F.cleF t c i f a j = F.cleF t c (i + 1) f a j := by
  intro a j
  unfold cleF
  by_cases h1 : a < i ∧ a ≠ t
  · rw [if_pos h1, if_pos ⟨by omega, h1.2⟩]
  · rw [if_neg h1]
    by_cases h2 : a < i + 1 ∧ a ≠ t
    · rw [if_pos h2]
      obtain rfl : a = i := by omega
      rw [h, F.zero_mul, Nat.xor_zero]
    · rw [if_neg h2]
theorem cleF_set {n m t c i : Nat} {f : Tb} (hi : i ≠ t) : (tab n m (F.cleF t c i f)).set i (trow m (fun a j => f i j ^^^ F.mul (f i c) (f t j)) 0) = tab n m (F.cleF t c (i + 1) f) := by
  refine tab_set (trow_congr fun j hj => ?_) fun a _ hne j _ => ?_
  · unfold cleF; rw [if_pos ⟨by omega, hi⟩]
  · unfold cleF
    by_cases h1 : a < i ∧ a ≠ t
    · rw [if_pos h1, if_pos ⟨by omega, h1.2⟩]
    · rw [if_neg h1, if_neg (by omega)]
end Fld
/-- A row times a number; two rows together. -/
theorem scaled_row {wb p m k s : Nat} (hp : Prm wb p) {f : Tb} (hf : hp.fld.Bd f) (hs : s < 2 ^ wb) : (trow m f k).map (fun x => gmul (some (wb, p)) x (s : Int)) = trow m (fun _ j => hp.fld.mul (f k j) s) 0 := by
  unfold trow
  rw [List.map_map]
  refine List.map_congr_left fun j _ => ?_
  show gmul _ ((f k j : Nat) : Int) _ = _
  rw [gmul_num hp (by have := hf k j; rwa [hp.fld_w] at this) hs]
def xorZ (a b : List Int) : List Int := List.zipWith (fun x y => ((x.toNat ^^^ y.toNat : Nat) : Int)) a b
theorem xorZ_length {a b : List Int} (h : a.length = b.length) : (xorZ a b).length = a.length := by simp [xorZ, h]
theorem xorZ_snoc {a b : List Int} {i x y : Nat} (hx : a[i]? = some (x : Int)) (hy : b[i]? = some (y : Int)) : xorZ (a.take (i + 1)) (b.take (i + 1)) = xorZ (a.take i) (b.take i) ++ [((x ^^^ y : Nat) : Int)] := by
  have h1 := (List.getElem?_eq_some_iff.1 hx).1
  have h2 := (List.getElem?_eq_some_iff.1 hy).1
  unfold xorZ
  rw [take_snoc hx, take_snoc hy, List.zipWith_append (by simp; omega)]
  simp
theorem xorZ_rows {m i k : Nat} {f g : Tb} : xorZ (trow m f i) (trow m g k) = trow m (fun _ j => f i j ^^^ g k j) 0 := by
  unfold xorZ trow
  rw [List.zipWith_map, List.zipWith_self]
  simp
theorem MOwn.ptr {D : FD} {B N M0 K : Nat} {w : World} {E2 : TypeId} {v : Value} {b : Option Nat} {a : Mtx} (h : MOwn D B N M0 K w E2 v b a) (h0 : 0 < a.length) : ∃ g cap, v = .slice (some ⟨g, 0, none⟩) a.length cap ∧ b = some g := by
  obtain ⟨vals, h1, h2, h3⟩ := h.ex
  obtain ⟨g, cap, e1, e2⟩ := h2.ptr (by omega)
  exact ⟨g, cap, by rw [← h1]; exact e1, e2⟩
theorem MOwn.matS {D : FD} {B N M0 K n cap : Nat} {w : World} {E2 : TypeId} {sa : Option Addr} {b : Option Nat} {a : Mtx} (h : MOwn D B N M0 K w E2 (.slice sa n cap) b a) (hE : E2 ≠ D.T) (hN : M0 ≤ w.heap.size) : Mat D B w.heap.size w sa cap a := by
  obtain ⟨sa', cap', e, hm⟩ := h.mat hE hN
  obtain ⟨rfl, -, rfl⟩ := Value.slice.inj e
  exact hm
theorem pivI_neg {f : Tb} {n c t : Nat} (h : pivI f n c t < 0) : Fld.piv f n c t (n - t) = none := by
  unfold pivI at h
  cases hk : Fld.piv f n c t (n - t) with
  | none => rfl
  | some k => rw [hk] at h; dsimp only at h; omega
theorem pivI_nn {f : Tb} {n c t : Nat} (h : ¬ pivI f n c t < 0) : ∃ k, Fld.piv f n c t (n - t) = some k ∧ pivI f n c t = (k : Int) := by
  unfold pivI at *
  cases hk : Fld.piv f n c t (n - t) with
  | none => rw [hk] at h; exact absurd (by decide) h
  | some k => exact ⟨k, rfl, rfl⟩
theorem cle_row {wb p m t c k s i : Nat} (hp : Prm wb p) {f : Tb} (h : i ≠ t) (hc : c < m) (hsw : Fld.sw t k t = k) {g : Tb} (hg : g = hp.fld.sclF t s m (fun i j => f (Fld.sw t k i) j)) :
    trow m (fun _ j => hp.fld.cleF t c i g i j ^^^ hp.fld.mul (hp.fld.mul (f k j) s) (hp.fld.cleF t c i g i c)) 0 = trow m (fun _ j => g i j ^^^ hp.fld.mul (g i c) (g t j)) 0 := by
  refine trow_congr fun j hj => ?_
  have e1 : ∀ j, hp.fld.cleF t c i g i j = g i j := fun j => by unfold Fld.cleF; rw [if_neg (by omega)]
  have e2 : g t j = hp.fld.mul (f k j) s := by subst hg; unfold Fld.sclF; rw [if_pos ⟨rfl, hj⟩]; show hp.fld.mul (f (Fld.sw t k t) j) s = _; rw [hsw]
  rw [e1, e1, e2, hp.fld.comm (hp.fld.mul (f k j) s)]
theorem solR_len {wb p : Nat} (hp : Prm wb p) {a : Mtx} {v : List Int} : (solR hp a v).2.length ≤ 20 := by
  unfold solR
  split
  · rename_i h
    obtain ⟨hmx, h1, h2, -⟩ := sqM_Mx h.1
    cases hi : hp.fld.iv a.length (en a) with
    | none => simp
    | some g =>
      have hI := hp.fld.iv_some (hmx.bd hp) hi
      show ((applyM _ _ v).getD []).length ≤ 20
      rw [apply_fld hp hI.bd' h.2.2 h.2.1 ⟨h1, h2⟩ ⟨h1, h2⟩]
      simpa using h2
  · simp
end Go.Gam
