/- The polynomials that the texts name: which are irreducible, which are primitive. By reckoning. No program in sight. -/
import Derived.Test.YtkoiolamnnmokaaDoorGPolyM
set_option linter.unusedVariables false
set_option linter.unusedSimpArgs false
namespace Go.Gam
open Px

/-- Products for the kernel. -/
def mulF : Nat → Nat → Nat → Nat
  | 0, _, _ => 0
  | k + 1, a, b => (if b % 2 = 1 then a else 0) ^^^ (2 * mulF k a (b / 2))

theorem mulF_eq : ∀ (k a b : Nat), b < 2 ^ k → mulF k a b = mul a b
  | 0, a, b, h => by
    have : b = 0 := by simp at h; exact h
    subst this; rw [mul_zero]; rfl
  | k + 1, a, b, h => by
    rw [mulF, mulF_eq k a (b / 2) (by rw [Nat.pow_succ] at h; omega)]
    have := mul_step a (b / 2) (b % 2) (by omega)
    rw [show 2 * (b / 2) + b % 2 = b from by omega] at this
    exact this.symm

def mulModF (a b p : Nat) : Nat := mod (mulF 17 a b) p
theorem mulModF_eq {a b p : Nat} (h : b < 2 ^ 17) : mulModF a b p = mulMod a b p := by unfold mulModF mulMod; rw [mulF_eq _ _ _ h]

def frobF (p : Nat) : Nat → Nat → Nat
  | 0, a => a
  | k + 1, a => frobF p k (mulModF a a p)

theorem small17 {p : Nat} (hp : 2 ≤ p ∧ p < 131072) (a : Nat) : mod a p < 2 ^ 17 := by
  have h0 : p ≠ 0 := by omega
  have h1 := log2_lt h0 (k := 17) (by simpa using hp.2)
  exact Nat.lt_of_lt_of_le (mod_lt a h0) (Nat.pow_le_pow_right (by decide) (by omega))

theorem frobF_eq {p : Nat} (hp : 2 ≤ p ∧ p < 131072) : ∀ (k a : Nat), a < 2 ^ 17 → frobF p k a = frob p k a
  | 0, a, _ => rfl
  | k + 1, a, h => by rw [frobF, frob, mulModF_eq h]; exact frobF_eq hp k _ (small17 hp _)

def gcdF : Nat → Nat → Nat → Nat
  | 0, a, _ => a
  | k + 1, a, b => if b = 0 then a else gcdF k b (mod a b)

theorem gcdF_eq : ∀ (k a b : Nat), b < 2 ^ k → gcdF (k + 1) a b = gcd a b
  | 0, a, b, h => by
    have : b = 0 := by simp at h; exact h
    subst this; rw [gcd_zero]; rfl
  | k + 1, a, b, h => by
    rw [gcdF]
    by_cases hb' : b = 0
    · subst hb'; rw [if_pos rfl, gcd_zero]
    · rw [if_neg hb', gcd_step a hb']
      refine gcdF_eq k b (mod a b) ?_
      have h1 := log2_lt hb' h
      exact Nat.lt_of_lt_of_le (mod_lt a hb') (Nat.pow_le_pow_right (by decide) (by omega))

def irrF (p : Nat) : Bool := decide (2 ≤ p ∧ p < 131072) && (frobF p (Nat.log2 p) (mod 2 p) == mod 2 p) && (List.range (Nat.log2 p / 2)).all fun i => gcdF 18 p (frobF p (i + 1) (mod 2 p) ^^^ 2) == 1

theorem irrF_eq (p : Nat) : irrF p = irr p := by
  by_cases hr : 2 ≤ p ∧ p < 131072
  · have hx := small17 hr 2
    have h1 : ∀ i, gcdF 18 p (frob p (i + 1) (mod 2 p) ^^^ 2) = gcd p (frob p (i + 1) (mod 2 p) ^^^ 2) := by
      intro i
      exact gcdF_eq 17 _ _ (xor_lt (by rw [frob_succ]; exact small17 hr _) (by decide))
    unfold irrF irr
    simp only [h1, frobF_eq hr _ _ hx]
  · rw [irr_out hr]; unfold irrF; simp only [hr, decide_false, Bool.false_and]

def powF (p : Nat) : Nat → Nat → Nat → Nat → Nat
  | 0, _, o, _ => o
  | k + 1, a, o, n => if n = 0 then o else powF p k (mulModF a a p) (if n % 2 = 1 then mulModF o a p else o) (n / 2)

theorem powF_eq {p : Nat} (hp : 2 ≤ p ∧ p < 131072) : ∀ (k a o n : Nat), n < 2 ^ k → a < 2 ^ 17 → powF p k a o n = powB a p o n
  | 0, a, o, n, h, _ => by
    have : n = 0 := by simp at h; exact h
    subst this; rw [powB_zero]; rfl
  | k + 1, a, o, n, h, ha => by
    rw [powF]
    by_cases h0 : n = 0
    · subst h0; rw [if_pos rfl, powB_zero]
    · rw [if_neg h0, powB_step _ _ _ h0, mulModF_eq ha, mulModF_eq ha]
      exact powF_eq hp k _ _ _ (by rw [Nat.pow_succ] at h; omega) (small17 hp _)

theorem pow_F {p n : Nat} (hp : 2 ≤ p ∧ p < 131072) (h : n < 2 ^ 17) : Px.pow 2 p n = powF p 17 2 (mod 1 p) n := by
  rw [powF_eq hp 17 2 _ n h (by decide), powB_one]

theorem cop {q m : Nat} (hq : ∀ d, d ≤ q → d ∣ q → d = 1 ∨ d = q) (h0 : 0 < q) (h : ¬ q ∣ m) : Nat.Coprime m q := by
  have hg : Nat.gcd m q ∣ q := Nat.gcd_dvd_right m q
  rcases hq _ (Nat.le_of_dvd h0 hg) hg with h1 | h1
  · exact h1
  · exact absurd (h1 ▸ Nat.gcd_dvd_left m q) h

theorem divs255 : ∀ m, 2 ≤ m → m ∣ 255 → ∃ q ∈ [3, 5, 17], q ∣ m := by
  intro m h1 h2
  apply Classical.byContradiction
  intro hno
  have h3 : ¬ 3 ∣ m := fun h => hno ⟨3, by simp, h⟩
  have h5 : ¬ 5 ∣ m := fun h => hno ⟨5, by simp, h⟩
  have h17 : ¬ 17 ∣ m := fun h => hno ⟨17, by simp, h⟩
  have a : m ∣ 3 * 85 := h2
  have b := Nat.Coprime.dvd_of_dvd_mul_left (cop (by decide) (by decide) h3) a
  have b' : m ∣ 5 * 17 := b
  have c := Nat.Coprime.dvd_of_dvd_mul_left (cop (by decide) (by decide) h5) b'
  have c' : m ∣ 17 * 1 := c
  have d := Nat.Coprime.dvd_of_dvd_mul_left (cop (by decide) (by decide) h17) c'
  have := Nat.le_of_dvd (by decide) d
  omega

theorem divs65535 : ∀ m, 2 ≤ m → m ∣ 65535 → ∃ q ∈ [3, 5, 17, 257], q ∣ m := by
  intro m h1 h2
  apply Classical.byContradiction
  intro hno
  have h3 : ¬ 3 ∣ m := fun h => hno ⟨3, by simp, h⟩
  have h5 : ¬ 5 ∣ m := fun h => hno ⟨5, by simp, h⟩
  have h17 : ¬ 17 ∣ m := fun h => hno ⟨17, by simp, h⟩
  have h257 : ¬ 257 ∣ m := fun h => hno ⟨257, by simp, h⟩
  have a : m ∣ 3 * 21845 := h2
  have b : m ∣ 5 * 4369 := Nat.Coprime.dvd_of_dvd_mul_left (cop (by decide) (by decide) h3) a
  have c : m ∣ 17 * 257 := Nat.Coprime.dvd_of_dvd_mul_left (cop (by decide) (by decide) h5) b
  have d : m ∣ 257 * 1 := Nat.Coprime.dvd_of_dvd_mul_left (cop (by decide) (by decide) h17) c
  have e := Nat.Coprime.dvd_of_dvd_mul_left (cop (by decide +kernel) (by decide) h257) d
  have := Nat.le_of_dvd (by decide) e
  omega

theorem prim8 {p : Nat} (hi : irrF p = true) (h2 : Nat.log2 p = 8) (h : powF p 17 2 (mod 1 p) 85 ≠ 1 ∧ powF p 17 2 (mod 1 p) 51 ≠ 1 ∧ powF p 17 2 (mod 1 p) 15 ≠ 1) : prim p = true := by
  rw [irrF_eq] at hi
  have hr := irr_range hi
  refine prim_list (l := [3, 5, 17]) hi (by rw [x_lt (by omega)]; decide) ?_ ?_ ?_
  · rw [h2]; decide
  · rw [h2]; exact divs255
  · rw [h2]
    intro q hq
    simp at hq
    rcases hq with rfl | rfl | rfl <;> rw [pow_F hr (by decide)]
    · exact h.1
    · exact h.2.1
    · exact h.2.2

theorem prim16 {p : Nat} (hi : irrF p = true) (h2 : Nat.log2 p = 16) (h : powF p 17 2 (mod 1 p) 21845 ≠ 1 ∧ powF p 17 2 (mod 1 p) 13107 ≠ 1 ∧ powF p 17 2 (mod 1 p) 3855 ≠ 1 ∧ powF p 17 2 (mod 1 p) 255 ≠ 1) : prim p = true := by
  rw [irrF_eq] at hi
  have hr := irr_range hi
  refine prim_list (l := [3, 5, 17, 257]) hi (by rw [x_lt (by omega)]; decide) ?_ ?_ ?_
  · rw [h2]; decide
  · rw [h2]; exact divs65535
  · rw [h2]
    intro q hq
    simp at hq
    rcases hq with rfl | rfl | rfl | rfl <;> rw [pow_F hr (by decide)]
    · exact h.1
    · exact h.2.1
    · exact h.2.2.1
    · exact h.2.2.2

theorem prim_285 : prim 285 = true := prim8 (by decide +kernel) (by decide +kernel) (by decide +kernel)
theorem prim_299 : prim 299 = true := prim8 (by decide +kernel) (by decide +kernel) (by decide +kernel)
theorem prim_355 : prim 355 = true := prim8 (by decide +kernel) (by decide +kernel) (by decide +kernel)
theorem prim_69643 : prim 69643 = true := prim16 (by decide +kernel) (by decide +kernel) (by decide +kernel)
theorem irr_283 : irr 283 = true := by rw [← irrF_eq]; decide +kernel
theorem irr_285 : irr 285 = true := by rw [← irrF_eq]; decide +kernel
theorem irr_299 : irr 299 = true := by rw [← irrF_eq]; decide +kernel
theorem irr_355 : irr 355 = true := by rw [← irrF_eq]; decide +kernel
theorem irr_69643 : irr 69643 = true := by rw [← irrF_eq]; decide +kernel
theorem irr_19 : irr 19 = true := by rw [← irrF_eq]; decide +kernel
theorem irr_7 : irr 7 = true := by rw [← irrF_eq]; decide +kernel
theorem prim_283 : prim 283 = false := prim_f3 (q := 5) (by decide) (by decide +kernel) (by rw [pow_F (by decide) (by decide +kernel)]; decide +kernel)
theorem mul_3_3 : mul 3 3 = 5 := by rw [← mulF_eq 2 3 3 (by decide)]; decide +kernel
theorem mod_5_3 : mod 5 3 = 0 := by decide +kernel
theorem deg_285 : deg 285 = 8 := by decide +kernel
end Go.Gam
