/- Rows reduced by their first columns; inverses, ranks, what is solved; rows of powers. No program in sight. -/
import Derived.Test.YtkoiolamnnmokaaDoorGLin
set_option linter.unusedVariables false
set_option linter.unusedSimpArgs false
namespace Go.Gam
open Px

abbrev Tb := Nat → Nat → Nat
/-- The identity. -/
def I1 : Tb := fun i j => if i = j then 1 else 0
namespace Fld
variable (F : Fld)
/-- All numbers are the field's. -/
def Bd (f : Tb) : Prop := ∀ i j, f i j < 2 ^ F.w
/-- The product of two tables, over m. -/
def mm (m : Nat) (f g : Tb) : Tb := fun i j => xsum m fun l => F.mul (f i l) (g l j)
theorem mm_bd (m : Nat) (f g : Tb) : F.Bd (F.mm m f g) := fun i j => xsum_lt fun l _ => F.lt _ _
theorem I1_bd : F.Bd I1 := fun i j => by unfold I1; have := F.one_lt; split <;> omega
theorem mm_assoc (m k : Nat) (f g h : Tb) (i j : Nat) : F.mm k (F.mm m f g) h i j = F.mm m f (F.mm k g h) i j := by
  unfold mm
  rw [xsum_congr (fun l _ => xsum_mul F (h l j) _ m), xsum_comm (fun l s => F.mul (F.mul (f i s) (g s l)) (h l j))]
  exact xsum_congr fun s _ => by rw [mul_xsum]; exact xsum_congr fun l _ => F.assoc _ _ _
theorem mm_congr {m : Nat} {f f' g g' : Tb} {i j : Nat} (hf : ∀ l, l < m → f i l = f' i l) (hg : ∀ l, l < m → g l j = g' l j) : F.mm m f g i j = F.mm m f' g' i j :=
  xsum_congr fun l hl => by rw [hf l hl, hg l hl]
theorem mm_idl {n : Nat} {f : Tb} {i j : Nat} (hi : i < n) (h : f i j < 2 ^ F.w) : F.mm n I1 f i j = f i j := by
  unfold mm
  rw [xsum_single hi (fun s hs hne => by unfold I1; rw [if_neg (Ne.symm hne), F.zero_mul])]
  unfold I1; rw [if_pos rfl]; exact F.one _ h
theorem mm_idr {n : Nat} {f : Tb} {i j : Nat} (hj : j < n) (h : f i j < 2 ^ F.w) : F.mm n f I1 i j = f i j := by
  unfold mm
  rw [xsum_single hj (fun s hs hne => by unfold I1; rw [if_neg hne, F.mul_zero])]
  unfold I1; rw [if_pos rfl]; exact F.mul_one _ h

/-! ### one step -/
/-- Row at changed for row k. -/
def sw (t k i : Nat) : Nat := if i = t then k else if i = k then t else i
theorem sw_sw (t k i : Nat) : sw t k (sw t k i) = i := by unfold sw; split <;> split <;> (try split) <;> omega
theorem sw_lt {t k i n : Nat} (ht : t < n) (hk : k < n) (hi : i < n) : sw t k i < n := by unfold sw; split <;> (try split) <;> omega
/-- Rows t and k swapped, row t times s, then added to each other row i, v i times. -/
def op (t k s : Nat) (v : Nat → Nat) (f : Tb) : Tb := fun i j => if i = t then F.mul (f k j) s else f (sw t k i) j ^^^ F.mul (v i) (F.mul (f k j) s)
/-- And back. -/
def po (t k s : Nat) (v : Nat → Nat) (f : Tb) : Tb := fun i j => if i = k then F.mul (f t j) s else f (sw t k i) j ^^^ F.mul (v (sw t k i)) (f t j)
theorem op_bd (t k s : Nat) (v : Nat → Nat) {f : Tb} (h : F.Bd f) : F.Bd (F.op t k s v f) := fun i j => by
  unfold op; split
  · exact F.lt _ _
  · exact Px.xor_lt (h _ _) (F.lt _ _)
theorem po_bd (t k s : Nat) (v : Nat → Nat) {f : Tb} (h : F.Bd f) : F.Bd (F.po t k s v f) := fun i j => by
  unfold po; split
  · exact F.lt _ _
  · exact Px.xor_lt (h _ _) (F.lt _ _)
theorem po_op {t k s s' : Nat} (v : Nat → Nat) {f : Tb} (h : F.Bd f) (hs : F.mul s s' = 1) (i j : Nat) : F.po t k s' v (F.op t k s v f) i j = f i j := by
  have e1 : F.op t k s v f t j = F.mul (f k j) s := by unfold op; rw [if_pos rfl]
  unfold po
  rw [e1]
  by_cases hi : i = k
  · rw [if_pos hi, F.assoc, hs, F.mul_one _ (h _ _), hi]
  · rw [if_neg hi]
    have hne : sw t k i ≠ t := by unfold sw; split <;> (try split) <;> omega
    unfold op
    rw [if_neg hne, sw_sw, Nat.xor_assoc, Nat.xor_self, Nat.xor_zero]
theorem op_po {t k s s' : Nat} (v : Nat → Nat) {f : Tb} (h : F.Bd f) (hs : F.mul s s' = 1) (i j : Nat) : F.op t k s v (F.po t k s' v f) i j = f i j := by
  have e1 : F.mul (F.po t k s' v f k j) s = f t j := by unfold po; rw [if_pos rfl, F.assoc, F.comm s', hs, F.mul_one _ (h _ _)]
  unfold op
  rw [e1]
  by_cases hi : i = t
  · rw [if_pos hi, hi]
  · rw [if_neg hi]
    have hne : sw t k i ≠ k := by unfold sw; split <;> (try split) <;> omega
    unfold po
    rw [if_neg hne, sw_sw, Nat.xor_assoc, Nat.xor_self, Nat.xor_zero]
theorem op_mm {t k s n m : Nat} (v : Nat → Nat) (f g : Tb) (i j : Nat) : F.op t k s v (F.mm m f g) i j = F.mm m (F.op t k s v f) g i j := by
  have e : ∀ a : Nat, F.mul (xsum m fun l => F.mul (f a l) (g l j)) s = xsum m fun l => F.mul (F.mul (f a l) s) (g l j) := fun a => by
    rw [xsum_mul]; exact xsum_congr fun l _ => by rw [F.assoc, F.comm (g l j), ← F.assoc]
  unfold op mm
  by_cases hi : i = t
  · rw [if_pos hi, e]; exact xsum_congr fun l _ => by dsimp only; rw [if_pos hi]
  · rw [if_neg hi, e, mul_xsum, ← xsum_xor]
    exact xsum_congr fun l _ => by dsimp only; rw [if_neg hi, F.dist_r, F.assoc (v i)]
theorem po_mm {t k s n m : Nat} (v : Nat → Nat) (f g : Tb) (i j : Nat) : F.po t k s v (F.mm m f g) i j = F.mm m (F.po t k s v f) g i j := by
  unfold po mm
  by_cases hi : i = k
  · rw [if_pos hi, xsum_mul]; exact xsum_congr fun l _ => by dsimp only; rw [if_pos hi, F.assoc, F.comm (g l j), ← F.assoc]
  · rw [if_neg hi, mul_xsum, ← xsum_xor]
    exact xsum_congr fun l _ => by dsimp only; rw [if_neg hi, F.dist_r, F.assoc (v _)]

/-! ### rows reduced -/
/-- The first row from t on, of n, that has something in column c. -/
def piv (f : Tb) (n c : Nat) : Nat → Nat → Option Nat
  | _, 0 => none
  | t, d + 1 => if f t c ≠ 0 then some t else piv f n c (t + 1) d
theorem piv_some {f : Tb} {n c k : Nat} : ∀ {t d : Nat}, piv f n c t d = some k → t ≤ k ∧ k < t + d ∧ f k c ≠ 0 ∧ ∀ i, t ≤ i → i < k → f i c = 0
  | _, 0, h => by cases h
  | t, d + 1, h => by
    unfold piv at h
    split at h
    · rename_i h0
      obtain rfl := Option.some.inj h
      exact ⟨Nat.le_refl _, by omega, h0, fun i h1 h2 => by omega⟩
    · rename_i h0
      obtain ⟨h1, h2, h3, h4⟩ := piv_some h
      refine ⟨by omega, by omega, h3, fun i h5 h6 => ?_⟩
      by_cases e : i = t
      · subst e; simpa using h0
      · exact h4 i (by omega) h6
theorem piv_none {f : Tb} {n c : Nat} : ∀ {t d : Nat}, piv f n c t d = none → ∀ i, t ≤ i → i < t + d → f i c = 0
  | _, 0, _, i, h1, h2 => by omega
  | t, d + 1, h, i, h1, h2 => by
    unfold piv at h
    split at h
    · cases h
    · rename_i h0
      by_cases e : i = t
      · subst e; simpa using h0
      · exact piv_none h i (by omega) (by omega)
theorem piv_is {f : Tb} {n c k : Nat} : ∀ {t d : Nat}, t ≤ k → k < t + d → f k c ≠ 0 → (∀ i, t ≤ i → i < k → f i c = 0) → piv f n c t d = some k
  | _, 0, h1, h2, _, _ => by omega
  | t, d + 1, h1, h2, h3, h4 => by
    unfold piv
    by_cases e : t = k
    · subst e; rw [if_pos h3]
    · rw [if_neg (by simpa using h4 t (Nat.le_refl _) (by omega))]
      exact piv_is (by omega) (by omega) h3 fun i h5 h6 => h4 i (by omega) h6
theorem piv_no {f : Tb} {n c : Nat} : ∀ {t d : Nat}, (∀ i, t ≤ i → i < t + d → f i c = 0) → piv f n c t d = none
  | _, 0, _ => rfl
  | t, d + 1, h => by
    unfold piv
    rw [if_neg (by simpa using h t (Nat.le_refl _) (by omega))]
    exact piv_no fun i h1 h2 => h i (by omega) (by omega)
/-- Column c. -/
def stp (f : Tb) (n c t : Nat) : Tb × Nat :=
  match piv f n c t (n - t) with
  | none => (f, t)
  | some k => (F.op t k (F.inv (f k c)) (fun i => f (sw t k i) c) f, t + 1)
def red (n : Nat) (f : Tb) : Nat → Tb × Nat
  | 0 => (f, 0)
  | c + 1 => F.stp (red n f c).1 n c (red n f c).2
/-- Two tables, each the other's inverse. -/
structure Iv (n : Nat) (E E' : Tb) : Prop where
  bd : F.Bd E
  bd' : F.Bd E'
  r : ∀ i j, i < n → j < n → F.mm n E E' i j = I1 i j
  l : ∀ i j, i < n → j < n → F.mm n E' E i j = I1 i j
theorem Iv.symm {n : Nat} {E E' : Tb} (h : F.Iv n E E') : F.Iv n E' E := ⟨h.bd', h.bd, h.l, h.r⟩
theorem Iv.id (n : Nat) : F.Iv n I1 I1 := ⟨F.I1_bd, F.I1_bd, fun i j hi hj => F.mm_idl hi (F.I1_bd _ _), fun i j hi hj => F.mm_idl hi (F.I1_bd _ _)⟩
theorem Iv.mul {n : Nat} {E E' G G' : Tb} (h : F.Iv n E E') (k : F.Iv n G G') : F.Iv n (F.mm n E G) (F.mm n G' E') := by
  refine ⟨F.mm_bd _ _ _, F.mm_bd _ _ _, fun i j hi hj => ?_, fun i j hi hj => ?_⟩
  · rw [mm_assoc, F.mm_congr (f' := E) (g' := E') (fun _ _ => rfl) (fun l hl => ?_)]
    · exact h.r i j hi hj
    · rw [← mm_assoc, F.mm_congr (f' := I1) (g' := E') (fun s hs => k.r l s hl hs) (fun _ _ => rfl), F.mm_idl hl (h.bd' _ _)]
  · rw [mm_assoc, F.mm_congr (f' := G') (g' := G) (fun _ _ => rfl) (fun l hl => ?_)]
    · exact k.l i j hi hj
    · rw [← mm_assoc, F.mm_congr (f' := I1) (g' := G) (fun s hs => h.l l s hl hs) (fun _ _ => rfl), F.mm_idl hl (k.bd _ _)]
theorem Iv.op {n t k s s' : Nat} (v : Nat → Nat) (ht : t < n) (hk : k < n) (hs : F.mul s s' = 1) : F.Iv n (F.op t k s v I1) (F.po t k s' v I1) := by
  refine ⟨F.op_bd _ _ _ _ F.I1_bd, F.po_bd _ _ _ _ F.I1_bd, fun i j hi hj => ?_, fun i j hi hj => ?_⟩
  · rw [← F.op_mm (n := n)]
    have e : ∀ a, a < n → F.mm n I1 (F.po t k s' v I1) a j = F.po t k s' v I1 a j := fun a ha => F.mm_idl ha (F.po_bd _ _ _ _ F.I1_bd _ _)
    rw [show F.op t k s v (F.mm n I1 (F.po t k s' v I1)) i j = F.op t k s v (F.po t k s' v I1) i j by
      unfold Fld.op; rw [e k hk, e _ (sw_lt ht hk hi)]]
    exact F.op_po v F.I1_bd hs i j
  · rw [← F.po_mm (n := n)]
    have e : ∀ a, a < n → F.mm n I1 (F.op t k s v I1) a j = F.op t k s v I1 a j := fun a ha => F.mm_idl ha (F.op_bd _ _ _ _ F.I1_bd _ _)
    rw [show F.po t k s' v (F.mm n I1 (F.op t k s v I1)) i j = F.po t k s' v (F.op t k s v I1) i j by
      unfold Fld.po; rw [e t ht, e _ (sw_lt ht hk hi)]]
    exact F.po_op v F.I1_bd hs i j
/-- What rows are, once they are reduced by c columns. -/
structure Red (n c : Nat) (f g : Tb) (t : Nat) : Prop where
  bd : F.Bd g
  tn : t ≤ n
  tc : t ≤ c
  ex : ∃ E E', F.Iv n E E' ∧ ∀ i j, i < n → g i j = F.mm n E f i j
  pv : ∃ p : Nat → Nat, (∀ r, r < t → p r < c ∧ ∀ i, i < n → g i (p r) = I1 i r) ∧ (t = c → ∀ r, r < t → p r = r)
  zr : ∀ i j, t ≤ i → i < n → j < c → g i j = 0
theorem red_ok {n : Nat} {f : Tb} (hf : F.Bd f) : ∀ c, F.Red n c f (F.red n f c).1 (F.red n f c).2
  | 0 => ⟨hf, Nat.zero_le _, Nat.le_refl _, ⟨I1, I1, Iv.id F n, fun i j hi => (F.mm_idl hi (hf _ _)).symm⟩, ⟨fun r => r, fun r h => by simp [red] at h, fun _ r h => by simp [red] at h⟩, fun i j _ _ h => by omega⟩
  | c + 1 => by
    have ih := red_ok (n := n) hf c
    show F.Red n (c + 1) f (F.stp _ n c _).1 (F.stp _ n c _).2
    generalize (F.red n f c).1 = g at ih ⊢
    generalize (F.red n f c).2 = t at ih ⊢
    obtain ⟨hb, htn, htc, ⟨E, E', hE, he⟩, ⟨p, hp, hpe⟩, hz⟩ := ih
    unfold stp
    cases hk : piv g n c t (n - t) with
    | none =>
      have h0 := piv_none hk
      refine ⟨hb, htn, by simp; omega, ⟨E, E', hE, he⟩, ⟨p, fun r hr => ⟨by have := (hp r hr).1; omega, (hp r hr).2⟩, fun e => by simp at e; omega⟩, fun i j h1 h2 h3 => ?_⟩
      by_cases e : j = c
      · subst e; exact h0 i h1 (by omega)
      · exact hz i j h1 h2 (by omega)
    | some k =>
      obtain ⟨k1, k2, k3, k4⟩ := piv_some hk
      have hkn : k < n := by omega
      have htn' : t < n := by omega
      have hs := F.inv_mul (hb k c) k3
      refine ⟨F.op_bd _ _ _ _ hb, by simp; omega, by simp; omega, ⟨F.mm n (F.op t k (F.inv (g k c)) (fun i => g (sw t k i) c) I1) E, F.mm n E' (F.po t k (g k c) (fun i => g (sw t k i) c) I1), (Iv.op F _ htn' hkn hs).mul F hE, fun i j hi => ?_⟩, ⟨fun r => if r = t then c else p r, fun r hr => ?_, fun e r hr => ?_⟩, fun i j h1 h2 h3 => ?_⟩
      · rw [mm_assoc, ← F.op_mm (n := n)]
        have e : ∀ a, a < n → F.mm n I1 (F.mm n E f) a j = g a j := fun a ha => by rw [F.mm_idl ha (F.mm_bd _ _ _ _ _), he a j ha]
        dsimp only
        unfold Fld.op; rw [e k hkn, e _ (sw_lt htn' hkn hi)]
      · by_cases e : r = t
        · subst e
          simp only [if_true]
          refine ⟨by omega, fun i hi => ?_⟩
          unfold Fld.op I1
          have h1 : F.mul (g k c) (F.inv (g k c)) = 1 := F.mul_inv (hb k c) k3
          split
          · exact h1
          · rw [h1, F.mul_one _ (hb _ _), Nat.xor_self]
        · simp only [if_neg e]
          have hr' : r < t := by simp at hr; omega
          obtain ⟨q1, q2⟩ := hp r hr'
          refine ⟨by omega, fun i hi => ?_⟩
          have hkr : g k (p r) = 0 := by rw [q2 k hkn]; unfold I1; rw [if_neg (by omega)]
          unfold Fld.op
          rw [hkr, F.zero_mul, F.mul_zero, Nat.xor_zero]
          split
          · rename_i h; unfold I1; rw [if_neg (by omega)]
          · rename_i h
            rw [q2 _ (sw_lt htn' hkn hi)]
            unfold I1 sw
            rw [if_neg h]
            split
            · rename_i h5; rw [if_neg (by omega), if_neg (by omega)]
            · rfl
      · simp at e
        by_cases h : r = t
        · simp only [if_pos h]; omega
        · simp only [if_neg h]; exact hpe (by omega) r (by simp at hr; omega)
      · dsimp only at h1 ⊢
        have hne : i ≠ t := by omega
        unfold Fld.op
        rw [if_neg hne]
        by_cases e : j = c
        · subst e
          rw [F.mul_inv (hb k j) k3, F.mul_one _ (hb _ _), Nat.xor_self]
        · rw [hz k j k1 hkn (by omega), F.zero_mul, F.mul_zero, Nat.xor_zero]
          refine hz _ j ?_ (sw_lt htn' hkn h2) (by omega)
          unfold sw; split <;> (try split) <;> omega

/-! ### inverses -/
/-- A table with another one beside it. -/
def bes (n : Nat) (f g : Tb) : Tb := fun i j => if j < n then f i j else g i (j - n)
theorem bes_bd {n : Nat} {f g : Tb} (hf : F.Bd f) (hg : F.Bd g) : F.Bd (bes n f g) := fun i j => by unfold bes; split; exact hf _ _; exact hg _ _
/-- The inverse. -/
def iv (n : Nat) (f : Tb) : Option Tb := if (F.red n (bes n f I1) n).2 < n then none else some fun i j => (F.red n (bes n f I1) n).1 i (n + j)
theorem iv_some {n : Nat} {f g : Tb} (hf : F.Bd f) (h : F.iv n f = some g) : F.Iv n f g := by
  unfold iv at h
  split at h
  · cases h
  · rename_i hn
    obtain rfl := Option.some.inj h
    have hr := F.red_ok (n := n) (bes_bd F (n := n) hf F.I1_bd) n
    generalize (F.red n (bes n f I1) n).1 = g at hr ⊢
    generalize (F.red n (bes n f I1) n).2 = t at hr hn
    obtain ⟨hb, htn, htc, ⟨E, E', hE, he⟩, ⟨p, hp, hpe⟩, hz⟩ := hr
    obtain rfl : t = n := by omega
    have hg : ∀ i j, i < t → j < t → g i (t + j) = E i j := fun i j hi hj => by
      rw [he i _ hi]
      refine Eq.trans (xsum_congr (g := fun l => F.mul (E i l) (I1 l j)) fun l _ => ?_) (F.mm_idr (f := E) (i := i) hj (hE.bd _ _))
      unfold bes; rw [if_neg (by omega), show t + j - t = j by omega]
    have hEf : ∀ i j, i < t → j < t → F.mm t E f i j = I1 i j := fun i j hi hj => by
      have := (hp j hj).2 i hi
      rw [hpe rfl j hj, he i j hi, F.mm_congr (f' := E) (g' := f) (fun _ _ => rfl) (fun l _ => by unfold bes; rw [if_pos hj])] at this
      exact this
    have hfE : ∀ i j, i < t → j < t → f i j = E' i j := fun i j hi hj => by
      have h1 : F.mm t E' (F.mm t E f) i j = E' i j := by
        rw [F.mm_congr (f' := E') (g' := I1) (fun _ _ => rfl) (fun l hl => hEf l j hl hj)]; exact F.mm_idr hj (hE.bd' _ _)
      rw [← mm_assoc, F.mm_congr (f' := I1) (g' := f) (fun l hl => hE.l i l hi hl) (fun _ _ => rfl), F.mm_idl hi (hf _ _)] at h1
      exact h1
    refine ⟨hf, fun i j => hb _ _, fun i j hi hj => ?_, fun i j hi hj => ?_⟩
    · rw [F.mm_congr (f' := E') (g' := E) (fun l hl => hfE i l hi hl) (fun l hl => hg l j hl hj)]; exact hE.l i j hi hj
    · rw [F.mm_congr (f' := E) (g' := f) (fun l hl => hg i l hi hl) (fun _ _ => rfl)]; exact hEf i j hi hj
/-- Without an inverse: a row that isn't 0, times the table, is 0. -/
theorem iv_none {n : Nat} {f : Tb} (hf : F.Bd f) (h : F.iv n f = none) : ∃ y : Nat → Nat, (∀ i, y i < 2 ^ F.w) ∧ (∃ i, i < n ∧ y i ≠ 0) ∧ ∀ j, j < n → (xsum n fun l => F.mul (y l) (f l j)) = 0 := by
  unfold iv at h
  split at h
  · rename_i hn
    have hr := F.red_ok (n := n) (bes_bd F (n := n) hf F.I1_bd) n
    generalize (F.red n (bes n f I1) n).1 = g at hr
    generalize (F.red n (bes n f I1) n).2 = t at hr hn
    obtain ⟨hb, htn, htc, ⟨E, E', hE, he⟩, -, hz⟩ := hr
    refine ⟨E t, hE.bd t, ?_, fun j hj => ?_⟩
    · refine Classical.byContradiction fun hno => ?_
      have h0 : ∀ l, l < n → E t l = 0 := fun l hl => Classical.byContradiction fun h => hno ⟨l, hl, h⟩
      have h1 := hE.r t t hn hn
      unfold mm I1 at h1
      rw [if_pos rfl, xsum_zero' fun l hl => by rw [h0 l hl, F.zero_mul]] at h1
      cases h1
    · have := hz t j (Nat.le_refl _) hn hj
      rw [he t j hn, F.mm_congr (f' := E) (g' := f) (fun _ _ => rfl) (fun l _ => by unfold bes; rw [if_pos hj])] at this
      exact this
  · cases h
/-- Only one inverse. -/
theorem Iv.uniq {n : Nat} {f g h : Tb} (hg : F.Iv n f g) (hh : F.Bd h) (hr : ∀ i j, i < n → j < n → F.mm n f h i j = I1 i j) : ∀ i j, i < n → j < n → h i j = g i j := fun i j hi hj => by
  have h1 : F.mm n g (F.mm n f h) i j = g i j := by
    rw [F.mm_congr (f' := g) (g' := I1) (fun _ _ => rfl) (fun l hl => hr l j hl hj)]; exact F.mm_idr hj (hg.bd' _ _)
  rw [← mm_assoc, F.mm_congr (f' := I1) (g' := h) (fun l hl => hg.l i l hi hl) (fun _ _ => rfl), F.mm_idl hi (hh _ _)] at h1
  exact h1
/-- With an inverse no row but 0 makes 0. -/
theorem Iv.left {n : Nat} {f g : Tb} (h : F.Iv n f g) {y : Nat → Nat} (hy : ∀ i, y i < 2 ^ F.w) (h0 : ∀ j, j < n → (xsum n fun l => F.mul (y l) (f l j)) = 0) : ∀ i, i < n → y i = 0 := fun i hi => by
  have h1 : F.mm n (F.mm n (fun _ => y) f) g 0 i = y i := by
    rw [mm_assoc, F.mm_congr (f' := fun _ => y) (g' := I1) (fun _ _ => rfl) (fun l hl => h.r l i hl hi)]; exact F.mm_idr hi (hy _)
  rw [← h1]
  exact xsum_zero' fun l hl => by rw [show F.mm n (fun _ => y) f 0 l = 0 from h0 l hl, F.zero_mul]
theorem iv_of {n : Nat} {f : Tb} (hf : F.Bd f) (h : ∀ y : Nat → Nat, (∀ i, y i < 2 ^ F.w) → (∀ j, j < n → (xsum n fun l => F.mul (y l) (f l j)) = 0) → ∀ i, i < n → y i = 0) : ∃ g, F.iv n f = some g := by
  cases hi : F.iv n f with
  | some g => exact ⟨g, rfl⟩
  | none =>
    obtain ⟨y, h1, ⟨i, h2, h3⟩, h4⟩ := F.iv_none hf hi
    exact absurd (h y h1 h4 i h2) h3
theorem iv_of_Iv {n : Nat} {f g : Tb} (h : F.Iv n f g) : ∃ g', F.iv n f = some g' := F.iv_of h.bd fun y h1 h2 => h.left F h1 h2
/-- Rows for columns. -/
def tr (f : Tb) : Tb := fun i j => f j i
theorem mm_tr (n : Nat) (f g : Tb) (i j : Nat) : F.mm n (tr f) (tr g) i j = F.mm n g f j i := xsum_congr fun l _ => F.comm _ _
theorem Iv.tr {n : Nat} {f g : Tb} (h : F.Iv n f g) : F.Iv n (Fld.tr f) (Fld.tr g) :=
  ⟨fun i j => h.bd j i, fun i j => h.bd' j i, fun i j hi hj => by rw [mm_tr, h.l j i hj hi]; unfold I1; simp only [eq_comm], fun i j hi hj => by rw [mm_tr, h.r j i hj hi]; unfold I1; simp only [eq_comm]⟩
/-- A table that makes 0 of no column but 0 has an inverse. -/
theorem iv_ofR {n : Nat} {f : Tb} (hf : F.Bd f) (h : ∀ y : Nat → Nat, (∀ i, y i < 2 ^ F.w) → (∀ j, j < n → (xsum n fun l => F.mul (f j l) (y l)) = 0) → ∀ i, i < n → y i = 0) : ∃ g, F.iv n f = some g := by
  obtain ⟨g, hg⟩ := F.iv_of (n := n) (f := tr f) (fun i j => hf j i) (fun y h1 h2 => h y h1 fun j hj => by rw [← h2 j hj]; exact xsum_congr fun l _ => F.comm _ _)
  have := F.iv_some (fun i j => hf j i) hg
  exact F.iv_of_Iv (this.tr F)
theorem Iv.right {n : Nat} {f g : Tb} (h : F.Iv n f g) {y : Nat → Nat} (hy : ∀ i, y i < 2 ^ F.w) (h0 : ∀ j, j < n → (xsum n fun l => F.mul (f j l) (y l)) = 0) : ∀ i, i < n → y i = 0 :=
  (h.tr F).left F hy fun j hj => by rw [← h0 j hj]; exact xsum_congr fun l _ => F.comm _ _
/-- A product that has an inverse: both have. -/
theorem Iv.of_mul {n : Nat} {f g h : Tb} (hf : F.Bd f) (hg : F.Bd g) (hh : F.Iv n (F.mm n f g) h) : (∃ x, F.iv n f = some x) ∧ ∃ y, F.iv n g = some y := by
  refine ⟨F.iv_of hf fun y h1 h2 => hh.left F h1 fun j hj => ?_, F.iv_ofR hg fun y h1 h2 => hh.right F h1 fun j hj => ?_⟩
  · have e : (xsum n fun l => F.mul (y l) (F.mm n f g l j)) = F.mm n (F.mm n (fun _ => y) f) g 0 j := by rw [mm_assoc]; rfl
    rw [e]
    exact xsum_zero' fun l hl => by rw [show F.mm n (fun _ => y) f 0 l = 0 from h2 l hl, F.zero_mul]
  · have e : (xsum n fun l => F.mul (F.mm n f g j l) (y l)) = F.mm n f (F.mm n g (fun l _ => y l)) j 0 := by rw [← mm_assoc]; rfl
    rw [e]
    exact xsum_zero' fun l hl => by rw [show F.mm n g (fun l _ => y l) l 0 = 0 from h2 l hl, F.mul_zero]
theorem iv_congr {n : Nat} {f g : Tb} (hf : F.Bd f) (hg : F.Bd g) (h : ∀ i j, i < n → j < n → f i j = g i j) : (F.iv n f).isSome = (F.iv n g).isSome := by
  have key : ∀ {f g : Tb}, F.Bd f → F.Bd g → (∀ i j, i < n → j < n → f i j = g i j) → (F.iv n f).isSome = true → (F.iv n g).isSome = true := fun {f g} hf hg h hs => by
    obtain ⟨x, hx⟩ := Option.isSome_iff_exists.1 hs
    have hi := F.iv_some hf hx
    obtain ⟨y, hy⟩ := F.iv_of_Iv (n := n) (f := g) (g := x) ⟨hg, hi.bd', fun i j hi' hj => by rw [← hi.r i j hi' hj]; exact F.mm_congr (fun l hl => (h i l hi' hl).symm) (fun _ _ => rfl), fun i j hi' hj => by rw [← hi.l i j hi' hj]; exact F.mm_congr (fun _ _ => rfl) (fun l hl => (h l j hl hj).symm)⟩
    rw [hy]; rfl
  rw [Bool.eq_iff_iff]
  exact ⟨key hf hg h, key hg hf fun i j hi hj => (h i j hi hj).symm⟩

/-! ### ranks -/
/-- Each of the n rows of g is made of the m rows of f, over c columns. -/
def Sp (c m n : Nat) (f g : Tb) : Prop := ∃ C : Tb, F.Bd C ∧ ∀ i j, i < n → j < c → g i j = F.mm m C f i j
theorem Sp.trans {c m n k : Nat} {f g h : Tb} (h1 : F.Sp c m n f g) (h2 : F.Sp c n k g h) : F.Sp c m k f h := by
  obtain ⟨C, -, hC⟩ := h1
  obtain ⟨D, -, hD⟩ := h2
  refine ⟨F.mm n D C, F.mm_bd _ _ _, fun i j hi hj => ?_⟩
  rw [mm_assoc, hD i j hi hj]
  exact F.mm_congr (fun _ _ => rfl) (fun l hl => hC l j hl hj)
/-- More rows than numbers in each: a row that isn't 0 makes 0 of them. -/
theorem dep {r m : Nat} {C : Tb} (hC : F.Bd C) (h : m < r) : ∃ y : Nat → Nat, (∀ i, y i < 2 ^ F.w) ∧ (∃ i, i < r ∧ y i ≠ 0) ∧ ∀ j, j < m → (xsum r fun l => F.mul (y l) (C l j)) = 0 := by
  obtain ⟨hb, htn, htc, ⟨E, E', hE, he⟩, -, hz⟩ := F.red_ok (n := r) hC m
  generalize (F.red r C m).1 = g at *
  generalize (F.red r C m).2 = t at *
  have hn : t < r := by omega
  refine ⟨E t, hE.bd t, ?_, fun j hj => ?_⟩
  · refine Classical.byContradiction fun hno => ?_
    have h0 : ∀ l, l < r → E t l = 0 := fun l hl => Classical.byContradiction fun h => hno ⟨l, hl, h⟩
    have h1 := hE.r t t hn hn
    unfold mm I1 at h1
    rw [if_pos rfl, xsum_zero' fun l hl => by rw [h0 l hl, F.zero_mul]] at h1
    cases h1
  · have := hz t j (Nat.le_refl _) hn hj
    rw [he t j hn] at this
    exact this
/-- The rank, of n rows over c columns. -/
def rk (n : Nat) (f : Tb) (c : Nat) : Nat := (F.red n f c).2
theorem rk_le {n c : Nat} {f : Tb} (hf : F.Bd f) : F.rk n f c ≤ n ∧ F.rk n f c ≤ c := ⟨(F.red_ok hf c).tn, (F.red_ok hf c).tc⟩
/-- As many rows, of which none is made of others, and that make the same. -/
theorem rk_rows {n c : Nat} {f : Tb} (hf : F.Bd f) : ∃ g, F.Bd g ∧ F.Sp c n (F.rk n f c) f g ∧ F.Sp c (F.rk n f c) n g f ∧ ∃ p : Nat → Nat, ∀ r, r < F.rk n f c → p r < c ∧ ∀ i, i < F.rk n f c → g i (p r) = I1 i r := by
  obtain ⟨hb, htn, htc, ⟨E, E', hE, he⟩, ⟨p, hp, -⟩, hz⟩ := F.red_ok (n := n) hf c
  unfold rk
  generalize (F.red n f c).1 = g at *
  generalize (F.red n f c).2 = t at *
  refine ⟨g, hb, ⟨E, hE.bd, fun i j hi hj => he i j (by omega)⟩, ⟨E', hE.bd', fun i j hi hj => ?_⟩, p, fun r hr => ⟨(hp r hr).1, fun i hi => (hp r hr).2 i (by omega)⟩⟩
  have h1 : F.mm n E' g i j = f i j := by
    rw [F.mm_congr (f' := E') (g' := F.mm n E f) (fun _ _ => rfl) (fun l hl => he l j hl), ← mm_assoc, F.mm_congr (f' := I1) (g' := f) (fun l hl => hE.l i l hi hl) (fun _ _ => rfl), F.mm_idl hi (hf _ _)]
  rw [← h1]
  unfold mm
  obtain ⟨d, rfl⟩ : ∃ d, n = t + d := ⟨n - t, by omega⟩
  rw [xsum_add, xsum_zero' (n := d) fun l hl => by rw [hz (t + l) j (by omega) (by omega) hj, F.mul_zero], Nat.xor_zero]
/-- Rows that pivots tell apart, made of m rows: no more than m. -/
theorem sp_le {c m r : Nat} {f g : Tb} (h : F.Sp c m r f g) (hp : ∃ p : Nat → Nat, ∀ s, s < r → p s < c ∧ ∀ i, i < r → g i (p s) = I1 i s) : r ≤ m := by
  refine Classical.byContradiction fun hlt => ?_
  obtain ⟨C, hC, hg⟩ := h
  obtain ⟨p, hp⟩ := hp
  obtain ⟨y, h1, ⟨i, h2, h3⟩, h4⟩ := F.dep hC (show m < r by omega)
  have e1 : F.mm r (fun _ => y) g 0 (p i) = y i := by
    rw [F.mm_congr (f' := fun _ => y) (g' := fun a _ => I1 a i) (fun _ _ => rfl) (fun l hl => (hp i h2).2 l hl)]
    exact F.mm_idr (f := fun _ => y) (i := 0) (j := i) h2 (h1 i)
  have e2 : F.mm r (fun _ => y) g 0 (p i) = 0 := by
    rw [F.mm_congr (f' := fun _ => y) (g' := F.mm m C f) (fun _ _ => rfl) (fun l hl => hg l _ hl (hp i h2).1), ← mm_assoc]
    exact xsum_zero' fun l hl => by rw [show F.mm r (fun _ => y) C 0 l = 0 from h4 l hl, F.zero_mul]
  exact h3 (e1.symm.trans e2)
theorem rk_mono {c n m : Nat} {f g : Tb} (hf : F.Bd f) (hg : F.Bd g) (h : F.Sp c m n g f) : F.rk n f c ≤ F.rk m g c := by
  obtain ⟨f', a1, a2, a3, a4⟩ := F.rk_rows (n := n) (c := c) hf
  obtain ⟨g', b1, b2, b3, b4⟩ := F.rk_rows (n := m) (c := c) hg
  exact F.sp_le (Sp.trans F (Sp.trans F b3 h) a2) a4
/-- The same rows, and more. -/
theorem Sp.sub {c m n : Nat} {f g : Tb} (hf : F.Bd f) (s : Nat → Nat) (hs : ∀ i, i < n → s i < m ∧ ∀ j, j < c → g i j = f (s i) j) : F.Sp c m n f g :=
  ⟨fun i j => I1 (s i) j, fun i j => F.I1_bd _ _, fun i j hi hj => by
    rw [(hs i hi).2 j hj]
    exact (F.mm_idl (f := f) (i := s i) (hs i hi).1 (hf _ _)).symm⟩
/-- A row more: the rank grows by one at most. -/
theorem rk_more {c n : Nat} {f : Tb} (hf : F.Bd f) : F.rk n f c ≤ F.rk (n + 1) f c ∧ F.rk (n + 1) f c ≤ F.rk n f c + 1 := by
  refine ⟨F.rk_mono hf hf (Sp.sub F hf (fun i => i) fun i hi => ⟨by omega, fun _ _ => rfl⟩), ?_⟩
  obtain ⟨f', a1, a2, a3, a4⟩ := F.rk_rows (n := n) (c := c) hf
  obtain ⟨g', b1, b2, b3, b4⟩ := F.rk_rows (n := n + 1) (c := c) hf
  generalize F.rk n f c = r at *
  refine F.sp_le (m := r + 1) (f := fun i j => if i < r then f' i j else f n j) ?_ b4
  refine Sp.trans F ?_ b2
  obtain ⟨C, hC, h3⟩ := a3
  refine ⟨fun i j => if i < n then (if j < r then C i j else 0) else I1 r j, fun i j => by
    dsimp only
    have := F.zero_lt
    split
    · split
      · exact hC _ _
      · exact this
    · exact F.I1_bd _ _, fun i j hi hj => ?_⟩
  unfold mm
  rw [xsum]
  by_cases e : i < n
  · simp only [if_pos e, if_neg (Nat.lt_irrefl r), F.zero_mul, Nat.xor_zero]
    rw [h3 i j e hj]
    exact xsum_congr fun l hl => by rw [if_pos hl, if_pos hl]
  · obtain rfl : i = n := by omega
    simp only [if_neg (Nat.lt_irrefl i), if_neg (Nat.lt_irrefl r)]
    rw [xsum_zero' fun l hl => by unfold I1; rw [if_neg (by omega), F.zero_mul], Nat.zero_xor]
    unfold I1; rw [if_pos rfl]
    exact (F.one _ (hf _ _)).symm

/-! ### rows of powers -/
theorem eval_sum (x : Nat) (hx : x < 2 ^ F.w) : ∀ (n : Nat) (y : Nat → Nat), (∀ i, y i < 2 ^ F.w) → F.eval ((List.range n).map y) x = xsum n fun l => F.mul (F.pow x l) (y l)
  | 0, _, _ => rfl
  | n + 1, y, h => by
    have ih := eval_sum x hx n (fun i => y (i + 1)) (fun i => h _)
    rw [List.range_succ_eq_map, List.map_cons, eval, List.map_map]
    rw [show (List.range n).map (y ∘ Nat.succ) = (List.range n).map fun i => y (i + 1) from rfl, ih, Nat.add_comm n 1, xsum_add]
    congr 1
    · show y 0 = 0 ^^^ F.mul 1 (y 0)
      rw [Nat.zero_xor, F.one _ (h 0)]
    · rw [mul_xsum]
      refine xsum_congr fun l _ => ?_
      show _ = F.mul (F.pow x (1 + l)) (y (1 + l))
      rw [Nat.add_comm 1 l, pow, F.comm (F.pow x l) x, F.assoc]
/-- Rows of powers of unlike numbers have an inverse. -/
theorem vander {n : Nat} {x : Nat → Nat} (hx : ∀ i, x i < 2 ^ F.w) (hu : ∀ i j, i < n → j < n → x i = x j → i = j) : ∃ g, F.iv n (fun i k => F.pow (x i) k) = some g := by
  refine F.iv_ofR (fun i j => F.pow_lt _ _) fun y h1 h2 i hi => ?_
  refine F.roots n ((List.range n).map y) ((List.range n).map x) (by simp) (by simp) (fun c hc => ?_) (fun c hc => ?_) ?_ (fun c hc => ?_) (y i) (List.mem_map.2 ⟨i, List.mem_range.2 hi, rfl⟩)
  · obtain ⟨l, _, rfl⟩ := List.mem_map.1 hc; exact h1 l
  · obtain ⟨l, _, rfl⟩ := List.mem_map.1 hc; exact hx l
  · refine List.Pairwise.map x (R := fun a b => a < n ∧ b < n ∧ a ≠ b) (fun a b h e => h.2.2 (hu a b h.1 h.2.1 e)) ?_
    exact List.Pairwise.imp_of_mem (fun ha hb hne => ⟨List.mem_range.1 ha, List.mem_range.1 hb, hne⟩) (List.nodup_range)
  · obtain ⟨l, hl, rfl⟩ := List.mem_map.1 hc
    rw [F.eval_sum _ (hx l) n y h1]
    exact h2 l (List.mem_range.1 hl)
/-- Two rows that are the same: no inverse. -/
theorem iv_twice {n : Nat} {f : Tb} (hf : F.Bd f) {a b : Nat} (ha : a < n) (hb : b < n) (hne : a ≠ b) (h : ∀ j, j < n → f a j = f b j) : F.iv n f = none := by
  cases hi : F.iv n f with
  | none => rfl
  | some g =>
    have h1 := (F.iv_some hf hi).left F (y := fun i => I1 a i ^^^ I1 b i) (fun i => Px.xor_lt (F.I1_bd _ _) (F.I1_bd _ _)) (fun j hj => by
      rw [xsum_congr fun l _ => F.dist_r _ _ _, xsum_xor]
      have e1 := F.mm_idl (n := n) (f := f) (i := a) (j := j) ha (hf _ _)
      have e2 := F.mm_idl (n := n) (f := f) (i := b) (j := j) hb (hf _ _)
      unfold mm at e1 e2
      rw [e1, e2, h j hj, Nat.xor_self]) a ha
    simp only [I1, if_true, if_neg (Ne.symm hne)] at h1
    cases h1
end Fld
end Go.Gam
