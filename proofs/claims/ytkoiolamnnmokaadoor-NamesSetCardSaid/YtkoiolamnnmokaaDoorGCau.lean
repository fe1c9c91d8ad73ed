/- Numbers in a row; minors; rows of inverses. No program in sight. -/
import Derived.Test.YtkoiolamnnmokaaDoorGMap
import Derived.Test.YtkoiolamnnmokaaDoorGJvL
set_option linter.unusedVariables false
set_option linter.unusedSimpArgs false
set_option linter.unusedSectionVars false
namespace Go.Gam
open Px

/-- Numbers from fr on, the first i of them laid. -/
def rnT (fr i : Nat) : Tb := fun _ j => if j < i then fr + j else 0
theorem rn_zero {fr many : Nat} : List.replicate many (Value.int .i64 0) = zints (trow many (rnT fr 0) 0) := by
  apply List.ext_getElem?
  intro j
  by_cases hj : j < many
  · rw [zints_at (trow_at hj)]; simp [hj, rnT]
  · rw [List.getElem?_eq_none (by simp; omega), List.getElem?_eq_none (by simp [zints]; omega)]
theorem rn_step {fr i l : Nat} : rnT fr (i + 1) 0 l = if l = i then fr + i else rnT fr i 0 l := by
  unfold rnT
  by_cases e : l = i
  · rw [if_pos e, if_pos (by omega), e]
  · rw [if_neg e]
    by_cases h : l < i
    · rw [if_pos h, if_pos (by omega)]
    · rw [if_neg h, if_neg (by omega)]
theorem rn_end {fr many : Nat} : zints ((List.range many).map fun j => ((fr + j : Nat) : Int)) = zints (trow many (rnT fr many) 0) := by
  congr 1
  refine List.map_congr_left fun j hj => ?_
  unfold rnT; rw [if_pos (List.mem_range.1 hj)]
theorem casts_at {l : List Nat} {i x : Nat} (h : l[i]? = some x) : (casts l)[i]? = some (x : Int) := by unfold casts; rw [List.getElem?_map, h]; rfl
theorem mnr_at {f : Tb} {lr lc : List Nat} {i j x y : Nat} (hx : lr[i]? = some x) (hy : lc[j]? = some y) : mnr f lr lc i j = f x y := by
  unfold mnr; rw [List.getD_eq_getElem?_getD, List.getD_eq_getElem?_getD, hx, hy]; rfl
/-! ### rows of inverses -/
section
variable {wb p : Nat} (hp : Prm wb p)
def ofB (wb : Nat) (x y : List Int) : Bool := decide (1 ≤ x.length ∧ x.length ≤ 20 ∧ 1 ≤ y.length ∧ y.length ≤ 20) && unl (x ++ y) ((2 ^ wb : Nat) : Int)
def ofT (x y : List Int) : Tb := fun i j => hp.fld.inv ((x.getD i 0).toNat ^^^ (y.getD j 0).toNat)
def ofM (x y : List Int) : Option Mtx := if ofB wb x y = true then some (tab x.length y.length (ofT hp x y)) else none
theorem ofM_no {x y : List Int} (h : ofB wb x y = false) : ofM hp x y = none := by unfold ofM; rw [h]; rfl
theorem ofM_is {x y : List Int} (h : ofB wb x y = true) : ofM hp x y = some (tab x.length y.length (ofT hp x y)) := by unfold ofM; rw [if_pos h]
theorem ofB_len {wb : Nat} {x y : List Int} (h : ¬ (1 ≤ x.length ∧ x.length ≤ 20 ∧ 1 ≤ y.length ∧ y.length ≤ 20)) : ofB wb x y = false := by unfold ofB; rw [decide_eq_false h]; rfl
theorem ofB_bad {wb : Nat} {x y : List Int} {i : Nat} {a : Int} (ha : (x ++ y)[i]? = some a) (h : a < 0 ∨ ((2 ^ wb : Nat) : Int) ≤ a ∨ a ∈ (x ++ y).take i) : ofB wb x y = false := by
  unfold ofB
  rw [unl_no, Bool.and_false]
  rintro ⟨h1, h2⟩
  have := h2 a (List.mem_of_getElem? ha)
  rcases h with h | h | h
  · omega
  · omega
  · obtain ⟨j, hj⟩ := List.getElem?_of_mem h
    rw [List.getElem?_take] at hj
    split at hj
    · exact nodup_no (by assumption) ha hj h1
    · cases hj
theorem ofB_ok {wb : Nat} {x y : List Int} (h : 1 ≤ x.length ∧ x.length ≤ 20 ∧ 1 ≤ y.length ∧ y.length ≤ 20) (h1 : (x ++ y).Nodup) (h2 : ∀ z ∈ x ++ y, 0 ≤ z ∧ z < ((2 ^ wb : Nat) : Int)) : ofB wb x y = true := by
  unfold ofB unl
  rw [decide_eq_true h, decide_eq_true ⟨h1, h2⟩]; rfl
theorem ofT_at {x y : List Int} {i j a b : Nat} (ha : x[i]? = some (a : Int)) (hb : y[j]? = some (b : Int)) : ofT hp x y i j = hp.fld.inv (a ^^^ b) := by
  unfold ofT
  rw [List.getD_eq_getElem?_getD, List.getD_eq_getElem?_getD, ha, hb]; rfl
theorem of_cell {wb : Nat} {x y : List Int} {i j : Nat} (h1 : (x ++ y).Nodup) (h2 : ∀ z ∈ x ++ y, 0 ≤ z ∧ z < ((2 ^ wb : Nat) : Int)) (hi : i < x.length) (hj : j < y.length) :
    ∃ a b : Nat, x[i]? = some (a : Int) ∧ y[j]? = some (b : Int) ∧ a < 2 ^ wb ∧ b < 2 ^ wb ∧ a ^^^ b < 2 ^ wb ∧ a ^^^ b ≠ 0 := by
  have hx := List.getElem?_eq_getElem hi
  have hy := List.getElem?_eq_getElem hj
  have b1 := h2 x[i] (List.mem_append_left _ (List.getElem_mem hi))
  have b2 := h2 y[j] (List.mem_append_right _ (List.getElem_mem hj))
  refine ⟨x[i].toNat, y[j].toNat, by rw [hx, Int.toNat_of_nonneg b1.1], by rw [hy, Int.toNat_of_nonneg b2.1], by omega, by omega, Px.xor_lt (by omega) (by omega), fun e => ?_⟩
  have e2 := Px.xor_eq_zero e
  have e3 : x[i] = y[j] := by omega
  exact (List.nodup_append.1 h1).2.2 x[i] (List.getElem_mem hi) y[j] (List.getElem_mem hj) e3
/-- Numbers in a row, from fr on. -/
def rnL (fr many : Nat) : List Int := (List.range many).map fun j => ((fr + j : Nat) : Int)
theorem rnL_length (fr many : Nat) : (rnL fr many).length = many := by simp [rnL]
theorem rnL_at {fr many i : Nat} (h : i < many) : (rnL fr many)[i]? = some ((fr + i : Nat) : Int) := by simp [rnL, h]
def origM (k m : Int) : Option Mtx := if fitB (some (wb, p)) k m = true then ofM hp (rnL 0 m.toNat) (rnL m.toNat k.toNat) else none
def cisaM (k m : Int) : Option Mtx := if fitB (some (wb, p)) k m = true then ofM hp (rnL k.toNat m.toNat) (rnL 0 k.toNat) else none
theorem origM_no {k m : Int} (h : fitB (some (wb, p)) k m = false) : origM hp k m = none := by unfold origM; rw [h]; rfl
theorem cisaM_no {k m : Int} (h : fitB (some (wb, p)) k m = false) : cisaM hp k m = none := by unfold cisaM; rw [h]; rfl
theorem fitB_not {k m : Int} (h : ¬ (1 ≤ k ∧ 1 ≤ m ∧ k + m ≤ 20)) : fitB (some (wb, p)) k m = false := by
  rw [Bool.eq_false_iff, Ne, fitB_iff]; omega
end
end Go.Gam
