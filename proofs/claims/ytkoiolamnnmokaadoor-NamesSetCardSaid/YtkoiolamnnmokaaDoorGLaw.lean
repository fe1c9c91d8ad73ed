/- Plain laws that the statements' walks take. No program in sight. -/
import Derived.Test.YtkoiolamnnmokaaDoorGComp
import Derived.Test.YtkoiolamnnmokaaDoorGMem
set_option linter.unusedVariables false
set_option linter.unusedSimpArgs false
namespace Go.Gam
open Px

/-- One of the six polynomials of PolyField. -/
theorem pick6 (k : Nat) : ∃ p : Nat, [Value.int .u32 285, .int .u32 283, .int .u32 69643, .int .u32 19, .int .u32 7, .int .u32 299][k % 6]? = some (.int .u32 (p : Int)) ∧ irr p = true := by
  have h : k % 6 = 0 ∨ k % 6 = 1 ∨ k % 6 = 2 ∨ k % 6 = 3 ∨ k % 6 = 4 ∨ k % 6 = 5 := by omega
  rcases h with h | h | h | h | h | h <;> rw [h]
  · exact ⟨285, rfl, irr_285⟩
  · exact ⟨283, rfl, irr_283⟩
  · exact ⟨69643, rfl, irr_69643⟩
  · exact ⟨19, rfl, irr_19⟩
  · exact ⟨7, rfl, irr_7⟩
  · exact ⟨299, rfl, irr_299⟩

theorem irr_log {p : Nat} (h : irr p = true) : 1 ≤ Nat.log2 p ∧ Nat.log2 p ≤ 16 := by
  have hr := irr_range h
  refine ⟨log2_pos hr.1, ?_⟩
  have := (hb_log (show p ≠ 0 by omega)).1
  rcases Nat.lt_or_ge 16 (Nat.log2 p) with h1 | h1
  · have := Nat.pow_le_pow_right (n := 2) (by decide) h1
    omega
  · exact h1

theorem shl_u32 {d : Nat} (h : d ≤ 31) : IntKind.wrap .u32 (1 * 2 ^ (min (d : Int).toNat IntKind.u32.bits)) = ((2 ^ d : Nat) : Int) := by
  have h1 : min (d : Int).toNat IntKind.u32.bits = d := by show min d 32 = d; omega
  rw [h1, Int.one_mul, show ((2:Int) ^ d) = ((2 ^ d : Nat) : Int) from (Int.natCast_pow 2 d).symm]
  refine wrap_u32 _ ?_
  have := Nat.pow_le_pow_right (n := 2) (by decide) h
  have h2 : (((2:Nat) ^ d : Nat) : Int) ≤ ((2 ^ 31 : Nat) : Int) := by exact_mod_cast this
  constructor
  · exact Int.natCast_nonneg _
  · have : ((2 ^ 31 : Nat) : Int) = 2147483648 := by decide
    exact Int.lt_of_le_of_lt h2 (by rw [this]; decide)
theorem shl_u64 {d : Nat} (h : d ≤ 63) : IntKind.wrap .u64 (1 * 2 ^ (min (d : Int).toNat IntKind.u64.bits)) = ((2 ^ d : Nat) : Int) := by
  have h1 : min (d : Int).toNat IntKind.u64.bits = d := by show min d 64 = d; omega
  rw [h1, Int.one_mul, show ((2:Int) ^ d) = ((2 ^ d : Nat) : Int) from (Int.natCast_pow 2 d).symm]
  refine wrap_u64 _ ?_
  have := Nat.pow_le_pow_right (n := 2) (by decide) h
  have h2 : (((2:Nat) ^ d : Nat) : Int) ≤ ((2 ^ 63 : Nat) : Int) := by exact_mod_cast this
  constructor
  · exact Int.natCast_nonneg _
  · have : ((2 ^ 63 : Nat) : Int) = 9223372036854775808 := by decide
    exact Int.lt_of_le_of_lt h2 (by rw [this]; decide)

theorem two_pow16 {d : Nat} (h : d ≤ 16) : 2 ^ d ≤ 65536 := Nat.pow_le_pow_right (n := 2) (by decide) h

/-- Nothing but 0 times anything is 0. -/
theorem zero_iff {p x y : Nat} (h : irr p = true) (hx : x < 2 ^ Nat.log2 p) (hy : y < 2 ^ Nat.log2 p) : mulMod x y p = 0 ↔ x = 0 ∨ y = 0 := by
  constructor
  · exact irr_nzd (irr_Irr h) x y hx hy
  · rintro (rfl | rfl)
    · unfold mulMod; rw [Px.zero_mul, Px.zero_mod]
    · unfold mulMod; rw [Px.mul_zero, Px.zero_mod]

theorem pow_full {p x : Nat} (h : irr p = true) (hx : x < 2 ^ Nat.log2 p) (h0 : x ≠ 0) : powB x p (mod 1 p) (2 ^ Nat.log2 p - 1) = 1 := by
  rw [powB_one, ← fld_pow p (irr_Irr h)]
  exact (irrFld p (irr_Irr h)).fermat hx h0

end Go.Gam
