/- The laws of the fields, as the statements of layer 2 ask them. No program in sight. -/
import Derived.Test.YtkoiolamnnmokaaDoorGGg
set_option linter.unusedVariables false
set_option linter.unusedSimpArgs false
namespace Go.Gam
open Px

theorem newF_p {wb p : Nat} (h : Prm wb p) : newF (wb : Int) p = some (wb, p) := by
  rw [newF_t ⟨by have := h.w; omega, by rw [deg_pos h.p0, h.lg], h.pr⟩]; rfl
theorem newF_cases (W : Int) (p : Nat) : newF W p = none ∨ ∃ wb : Nat, W = (wb : Int) ∧ Prm wb p ∧ newF W p = some (wb, p) := by
  by_cases h : (W = 8 ∨ W = 16) ∧ deg p = W ∧ prim p = true
  · exact .inr ⟨W.toNat, by omega, newF_prm h, newF_t h⟩
  · exact .inl (newF_f h)
theorem gmul_nil (a b : Int) : gmul none a b = 0 := by unfold gmul; rw [if_neg (by rw [inF_none]; simp)]

theorem Prm.mk' {wb p : Nat} (h1 : wb = 8 ∨ wb = 16) (h2 : prim p = true) (h3 : Nat.log2 p = wb) : Prm wb p := ⟨h1, h2, h3⟩
theorem prm_285 : Prm 8 285 := ⟨.inl rfl, prim_285, by decide +kernel⟩
theorem prm_299 : Prm 8 299 := ⟨.inl rfl, prim_299, by decide +kernel⟩
theorem prm_355 : Prm 8 355 := ⟨.inl rfl, prim_355, by decide +kernel⟩
theorem prm_69643 : Prm 16 69643 := ⟨.inr rfl, prim_69643, by decide +kernel⟩

theorem pick4 (k : Nat) : ∃ p : Nat, [Value.int .u32 285, .int .u32 299, .int .u32 355, .int .u32 69643][k % 4]? = some (.int .u32 (p : Int)) ∧ p < 131072 ∧ (512 < p ∧ Prm 16 p ∨ p ≤ 512 ∧ Prm 8 p) := by
  have h : k % 4 = 0 ∨ k % 4 = 1 ∨ k % 4 = 2 ∨ k % 4 = 3 := by omega
  rcases h with h | h | h | h <;> rw [h]
  · exact ⟨285, rfl, by decide, .inr ⟨by decide, prm_285⟩⟩
  · exact ⟨299, rfl, by decide, .inr ⟨by decide, prm_299⟩⟩
  · exact ⟨355, rfl, by decide, .inr ⟨by decide, prm_355⟩⟩
  · exact ⟨69643, rfl, by decide, .inl ⟨by decide, prm_69643⟩⟩

/-! ### by 0x11D -/
theorem aw_new : newF 8 285 = some (8, 285) := newF_p prm_285
theorem aw_none : newF 8 283 = none := newF_f (by rw [prim_283]; simp)
theorem aw_mul : gmul (some (8, 285)) 2 128 = 29 := by
  rw [show (2 : Int) = ((2 : Nat) : Int) from rfl, show (128 : Int) = ((128 : Nat) : Int) from rfl, gmul_in (by decide) (by decide), ← mulModF_eq (by decide)]
  decide +kernel
theorem aw_invb : ginvb (some (8, 285)) 2 = true := by decide
theorem aw_inv : ginv (some (8, 285)) 2 = 142 := by
  rw [ginv_in (by decide) (by decide), show ((fsz (some (8, 285)) : Nat) : Int) - 2 = ((254 : Nat) : Int) from rfl, show (2 : Int) = ((2 : Nat) : Int) from rfl, gpow_in (by decide), pow_F (by decide) (by decide +kernel)]
  decide +kernel

theorem fsz_some (wb p : Nat) : fsz (some (wb, p)) = 2 ^ wb := rfl
theorem log_sum (x y m : Nat) : (((x + y) % m : Nat) : Int) = (((x % m : Nat) : Int) + ((y % m : Nat) : Int)) % (m : Int) := by rw [Nat.add_mod, Int.natCast_emod]; rfl

/-! ### powers of x -/
theorem gexp_at {wb p : Nat} (_ : Prm wb p) {n : Int} {i : Nat} (hi : n % ((2 ^ wb - 1 : Nat) : Int) = (i : Int)) : gexp (some (wb, p)) n = (pw p i : Int) := by
  have : gexp (some (wb, p)) n = (pw p (n % ((2 ^ wb - 1 : Nat) : Int)).toNat : Int) := rfl
  rw [this, hi, Int.toNat_natCast]
theorem gexp_neg {wb p : Nat} (_ : Prm wb p) (n : Int) : gexp (some (wb, p)) (0 - n) = gexp (some (wb, p)) (((2 ^ wb - 1 : Nat) : Int) - n) := by
  have e : ∀ n : Int, gexp (some (wb, p)) n = (pw p (n % ((2 ^ wb - 1 : Nat) : Int)).toNat : Int) := fun _ => rfl
  rw [e, e]
  have : ((2 ^ wb - 1 : Nat) : Int) - n = (0 - n) + ((2 ^ wb - 1 : Nat) : Int) := by omega
  rw [this, Int.add_emod_right]
theorem ginvb_nat {wb p : Nat} (_ : Prm wb p) {x : Nat} (hx : x < 2 ^ wb) : ginvb (some (wb, p)) (x : Int) = decide (x ≠ 0) := by
  unfold ginvb
  rw [inF_of hx]
  by_cases h0 : x = 0
  · subst h0; rfl
  · have : ¬ ((x : Int) = 0) := by omega
    simp [h0]
section
variable {wb p : Nat} (h : Prm wb p)
include h

theorem gexp_nat (x : Nat) : gexp (some (wb, p)) (x : Int) = (pw p x : Int) := by
  have : gexp (some (wb, p)) (x : Int) = (pw p ((x : Int) % ((2 ^ wb - 1 : Nat) : Int)).toNat : Int) := rfl
  rw [this, ← Int.natCast_emod, Int.toNat_natCast, h.pw_mod]
theorem glog_pw (x : Nat) : glog (some (wb, p)) (pw p x : Int) = ((x % (2 ^ wb - 1) : Nat) : Int) := by
  have ho := h.order
  have hlt : x % (2 ^ wb - 1) < 2 ^ wb - 1 := Nat.mod_lt _ (by omega)
  refine glog_in (h.pw_lt x) (h.pw_ne x) ?_
  rw [← h.pw_mod x]
  exact logL_at h (Nat.le_refl _) hlt
theorem ginvb_pw (x : Nat) : ginvb (some (wb, p)) (pw p x : Int) = true := ginvb_in (inF_of (h.pw_lt x)) (by have := h.pw_ne x; omega)
theorem gmul_pw (x y : Nat) : gmul (some (wb, p)) (pw p x : Int) (pw p y : Int) = (pw p (x + y) : Int) := by rw [gmul_in (h.pw_lt x) (h.pw_lt y), h.pw_add]
theorem gpow_two (x : Nat) : gpow (some (wb, p)) 2 (x : Int) = (pw p x : Int) := by
  have := h.size
  rw [show (2 : Int) = ((2 : Nat) : Int) from rfl, gpow_in (by omega), h.pw_x]

/-! ### a field -/
theorem pow_fermat {x : Nat} (hx : x < 2 ^ wb) (h0 : x ≠ 0) : Px.pow x p (2 ^ wb - 1) = 1 := by
  have e := h.fld.fermat (a := x) (by rw [h.fld_w]; exact hx) h0
  rw [h.fld_w] at e
  rw [← fld_pow p h.irrP]; exact e
theorem mulMod_inv {x : Nat} (hx : x < 2 ^ wb) (h0 : x ≠ 0) : mulMod x (Px.pow x p (2 ^ wb - 2)) p = 1 := by
  have hs := h.size
  have e := pow_fermat h hx h0
  rw [show 2 ^ wb - 1 = (2 ^ wb - 2) + 1 by omega] at e
  rw [mulMod_comm]; exact e
theorem mulMod_one' {x : Nat} (hx : x < 2 ^ wb) : mulMod x 1 p = x := mulMod_one h.p0 (by rw [h.lg]; exact hx)
theorem ginv_nat {x : Nat} (hx : x < 2 ^ wb) (h0 : x ≠ 0) : ginv (some (wb, p)) (x : Int) = (Px.pow x p (2 ^ wb - 2) : Int) := by
  have hs := h.size
  rw [ginv_in (inF_of hx) (by omega), show ((fsz (some (wb, p)) : Nat) : Int) - 2 = ((2 ^ wb - 2 : Nat) : Int) by show ((2 ^ wb : Nat) : Int) - 2 = _; omega, gpow_in hx]
theorem gmul_ginv {x : Nat} (hx : x < 2 ^ wb) (h0 : x ≠ 0) : gmul (some (wb, p)) (x : Int) (ginv (some (wb, p)) (x : Int)) = 1 := by
  rw [ginv_nat h hx h0, gmul_in hx (h.pow_lt _ _), mulMod_inv h hx h0]; rfl
theorem gdivb_nat {x y : Nat} (hx : x < 2 ^ wb) (hy : y < 2 ^ wb) : gdivb (some (wb, p)) (x : Int) (y : Int) = decide (y ≠ 0) := by rw [gdivb_eq, inF_of hx, ginvb_nat h hy, Bool.and_true]
theorem gdiv_back {x y : Nat} (hx : x < 2 ^ wb) (hy : y < 2 ^ wb) (h0 : y ≠ 0) : gdiv (some (wb, p)) (mulMod x y p : Int) (y : Int) = (x : Int) := by
  rw [gdiv_in (by rw [gdivb_nat h (h.mulMod_lt _ _) hy]; simp [h0]), ginv_nat h hy h0, gmul_in (h.mulMod_lt _ _) (h.pow_lt _ _), mulMod_assoc, mulMod_inv h hy h0, mulMod_one' h hx]
theorem gpow_sum {x : Nat} (hx : x < 2 ^ wb) (m n : Nat) : gpow (some (wb, p)) (x : Int) ((m : Int) + (n : Int)) = gmul (some (wb, p)) (gpow (some (wb, p)) (x : Int) (m : Int)) (gpow (some (wb, p)) (x : Int) (n : Int)) := by
  rw [show (m : Int) + (n : Int) = ((m + n : Nat) : Int) by omega, gpow_in hx, gpow_in hx, gpow_in hx, gmul_in (h.pow_lt _ _) (h.pow_lt _ _), pow_add]
theorem gpow_none {x : Nat} (hx : x < 2 ^ wb) : gpow (some (wb, p)) (x : Int) 0 = 1 := by
  have e := gpow_in (p := p) (n := 0) hx
  rw [show ((0 : Nat) : Int) = 0 from rfl] at e
  rw [e]
  show ((mod 1 p : Nat) : Int) = 1
  rw [h.mod1]; rfl
theorem gpow_order {x : Nat} (hx : x < 2 ^ wb) (h0 : x ≠ 0) : gpow (some (wb, p)) (x : Int) (((2 ^ wb : Nat) : Int) - 1) = 1 := by
  have hs := h.size
  rw [show ((2 ^ wb : Nat) : Int) - 1 = ((2 ^ wb - 1 : Nat) : Int) by omega, gpow_in hx, pow_fermat h hx h0]; rfl
end
end Go.Gam
