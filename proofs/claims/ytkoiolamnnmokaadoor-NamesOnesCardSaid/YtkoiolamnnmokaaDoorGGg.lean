/- What the functions of a field tell: plain laws for their walks. No program in sight. -/
import Derived.Test.YtkoiolamnnmokaaDoorGGf
set_option linter.unusedVariables false
set_option linter.unusedSimpArgs false
namespace Go.Gam
open Px

theorem inF_some {wb p : Nat} {a : Int} : inF (some (wb, p)) a = true ↔ 0 ≤ a ∧ a < ((2 ^ wb : Nat) : Int) := by unfold inF fsz; exact decide_eq_true_iff
theorem inF_none (a : Int) : inF none a = false := by
  have : inF none a = decide (0 ≤ a ∧ a < ((0 : Nat) : Int)) := rfl
  rw [this]; exact decide_eq_false (by omega)
theorem inF_nat {wb p : Nat} {a : Int} (h : inF (some (wb, p)) a = true) : ∃ x : Nat, a = (x : Int) ∧ x < 2 ^ wb := by
  rw [inF_some] at h
  exact ⟨a.toNat, by omega, by omega⟩
theorem inF_of {wb p x : Nat} (h : x < 2 ^ wb) : inF (some (wb, p)) (x : Int) = true := inF_some.2 ⟨by omega, by omega⟩

theorem fo_some {D : FD} {B : Nat} {w : World} {v : Value} {o : Fq} {a : Int} (h : Fo D B w v o) (ha : inF o a = true) : ∃ wb p k, o = some (wb, p) ∧ v = .pointer (some ⟨k, 0, none⟩) ∧ Prm wb p ∧ FOK D B w k wb p := by
  cases o with
  | none => rw [inF_none] at ha; cases ha
  | some q => obtain ⟨h1, k, h2, h3⟩ := h; exact ⟨q.1, q.2, k, rfl, h2, h1, h3⟩

theorem all1 {o : Fq} {a : Int} : ([a].all (inF o)) = inF o a := by simp
theorem all2 {o : Fq} {a b : Int} : ([a, b].all (inF o)) = (inF o a && inF o b) := by simp

theorem gmul_out {o : Fq} {a b : Int} (h : ([a, b].all (inF o)) = false) : gmul o a b = 0 := by
  rw [all2] at h
  unfold gmul
  rw [if_neg (by intro hh; rw [hh.1, hh.2] at h; cases h)]
theorem fmul_zl (o : Fq) (b : Nat) : fmul o 0 b = 0 := by cases o with | none => rfl | some q => simp only [fmul]; unfold mulMod; rw [zero_mul, zero_mod]
theorem fmul_zr (o : Fq) (a : Nat) : fmul o a 0 = 0 := by cases o with | none => rfl | some q => simp only [fmul]; unfold mulMod; rw [mul_zero, zero_mod]
theorem gmul_zl (o : Fq) (b : Int) : gmul o 0 b = 0 := by unfold gmul; split <;> simp [fmul_zl]
theorem gmul_zr (o : Fq) (a : Int) : gmul o a 0 = 0 := by unfold gmul; split <;> simp [fmul_zr]
theorem gmul_in {wb p x y : Nat} (hx : x < 2 ^ wb) (hy : y < 2 ^ wb) : gmul (some (wb, p)) (x : Int) (y : Int) = (mulMod x y p : Int) := by
  unfold gmul
  rw [if_pos ⟨inF_of hx, inF_of hy⟩]
  rfl

theorem gpow_out {o : Fq} {a n : Int} (h : inF o a = false ∨ n < 0) : gpow o a n = 0 := by
  unfold gpow
  rw [if_neg]
  rintro ⟨h1, h2⟩
  rcases h with h | h
  · rw [h] at h1; cases h1
  · omega
theorem gpow_in {wb p x n : Nat} (hx : x < 2 ^ wb) : gpow (some (wb, p)) (x : Int) (n : Int) = (Px.pow x p n : Int) := by
  unfold gpow
  rw [if_pos ⟨inF_of hx, by omega⟩]
  rfl
theorem Prm.mod1 {wb p : Nat} (h : Prm wb p) : mod 1 p = 1 := mod_small h.p0 (by rw [h.lg]; have := h.size; omega)
theorem Prm.mulMod_lt {wb p : Nat} (h : Prm wb p) (a b : Nat) : mulMod a b p < 2 ^ wb := by have := Px.mulMod_lt a b h.p0; rwa [h.lg] at this
theorem Prm.pow_lt {wb p : Nat} (h : Prm wb p) (a n : Nat) : Px.pow a p n < 2 ^ wb := by
  cases n with
  | zero => unfold Px.pow; rw [h.mod1]; have := h.size; omega
  | succ n => exact h.mulMod_lt _ _

theorem exp_index (n : Int) {m : Nat} (hm : 1 ≤ m) : ((n.tmod (m : Int)) + (m : Int)) % (m : Int) = n % (m : Int) := by
  rw [Int.add_emod_right]
  have e := Int.mul_tdiv_add_tmod n (m : Int)
  conv => rhs; rw [← e]
  rw [Int.mul_add_emod_self_left]
theorem tmod_bd (n : Int) {m : Nat} (hm : 1 ≤ m) : -(m : Int) < n.tmod (m : Int) ∧ n.tmod (m : Int) < (m : Int) := by
  refine ⟨?_, Int.tmod_lt_of_pos n (by omega)⟩
  have := Int.lt_tmod_of_pos n (b := (m : Int)) (by omega)
  exact this

theorem Prm.pw_sum {wb p : Nat} (h : Prm wb p) {x y i j : Nat} (hi : pw p i = x) (hj : pw p j = y) : pw p ((((i : Int) + (j : Int)) % ((2 ^ wb - 1 : Nat) : Int)).toNat) = mulMod x y p := by
  have : ((((i : Int) + (j : Int)) % ((2 ^ wb - 1 : Nat) : Int)).toNat) = (i + j) % (2 ^ wb - 1) := by
    have e : ((i : Int) + (j : Int)) % ((2 ^ wb - 1 : Nat) : Int) = (((i + j) % (2 ^ wb - 1) : Nat) : Int) := by rw [Int.natCast_emod]; congr 1
    rw [e]; rfl
  rw [this, h.pw_mod, h.pw_add, hi, hj]

theorem ginvb_out {o : Fq} {a : Int} (h : inF o a = false ∨ a = 0) : ginvb o a = false := by
  unfold ginvb
  rcases h with h | h
  · rw [h]; rfl
  · subst h; simp
theorem ginv_out {o : Fq} {a : Int} (h : inF o a = false ∨ a = 0) : ginv o a = 0 := by unfold ginv; rw [ginvb_out h]; rfl
theorem ginvb_in {o : Fq} {a : Int} (h : inF o a = true) (h0 : a ≠ 0) : ginvb o a = true := by unfold ginvb; rw [h]; simp [h0]
theorem ginv_in {o : Fq} {a : Int} (h : inF o a = true) (h0 : a ≠ 0) : ginv o a = gpow o a ((fsz o : Int) - 2) := by unfold ginv; rw [ginvb_in h h0]; rfl
theorem gdivb_eq (o : Fq) (a b : Int) : gdivb o a b = (ginvb o b && inF o a) := rfl
theorem gdiv_out {o : Fq} {a b : Int} (h : gdivb o a b = false) : gdiv o a b = 0 := by unfold gdiv; rw [h]; rfl
theorem gdiv_in {o : Fq} {a b : Int} (h : gdivb o a b = true) : gdiv o a b = gmul o a (ginv o b) := by unfold gdiv; rw [h]; rfl
theorem glog_out {o : Fq} {a : Int} (h : inF o a = false ∨ a = 0) : glog o a = 0 := by unfold glog; rw [ginvb_out h]; rfl
theorem glog_in {wb p x i : Nat} (hx : x < 2 ^ wb) (h0 : x ≠ 0) (hl : (logL wb p (2 ^ wb - 1))[x]? = some i) : glog (some (wb, p)) (x : Int) = (i : Int) := by
  unfold glog
  rw [ginvb_in (inF_of hx) (by omega)]
  simp [flog, hl]
/-- Which power a number is. -/
theorem Prm.log_of {wb p x : Nat} (h : Prm wb p) (hx : x < 2 ^ wb) (h0 : x ≠ 0) : ∃ i, i < 2 ^ wb - 1 ∧ pw p i = x ∧ (logL wb p (2 ^ wb - 1))[x]? = some i := by
  obtain ⟨i, hi, e⟩ := h.pw_onto hx h0
  exact ⟨i, hi, e, by rw [← e]; exact logL_at h (Nat.le_refl _) hi⟩

theorem gmul_bd {D : FD} {B : Nat} {w : World} {v : Value} {o : Fq} (h : Fo D B w v o) (a b : Int) : 0 ≤ gmul o a b ∧ gmul o a b < 65536 := by
  cases o with
  | none => unfold gmul; rw [if_neg (by rw [inF_none]; simp)]; omega
  | some q =>
    have := h.1.mulMod_lt a.toNat b.toNat
    have := h.1.size
    unfold gmul
    split
    · simp only [fmul]; omega
    · omega

theorem own_in {D : FD} {B N E len cap : Nat} {w : World} {sa : Option Addr} {b : Option Nat} {zs : List Int} (h : Own D B N w E (.slice sa len cap) b (zs.map (Value.int .i64))) (hE : E ≠ D.T) :
    ∀ (i : Nat) (z : Int), zs[i]? = some z → ∃ g o, sa = some ⟨g, o, none⟩ ∧ w.cell? ⟨g, o + i, none⟩ = some (.int .i64 z) := fun i z hz =>
  let ⟨_, g, o, h1, h2⟩ := (h.row hE).at (i := i) (u := .int .i64 z) (by simp [hz])
  ⟨g, o, h1, h2⟩
end Go.Gam
