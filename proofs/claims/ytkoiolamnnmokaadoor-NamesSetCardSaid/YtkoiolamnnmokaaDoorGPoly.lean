/- Polynomials over two elements, as numbers: the laws of a ring, degrees, what is left. No program in sight. -/
import Derived.Test.YtkoiolamnnmokaaDoorGDefs
set_option linter.unusedVariables false
set_option linter.unusedSimpArgs false
namespace Go.Gam.Px

theorem two_xor (a b : Nat) : 2 * (a ^^^ b) = (2 * a) ^^^ (2 * b) := by
  apply Nat.eq_of_testBit_eq
  intro i
  simp only [Nat.testBit_xor]
  cases i with
  | zero => simp
  | succ i =>
    rw [Nat.testBit_succ, Nat.testBit_succ, Nat.testBit_succ]
    simp [Nat.mul_div_cancel_left _ (show 0 < 2 by decide), Nat.testBit_xor]

theorem mul_zero (a : Nat) : mul a 0 = 0 := by unfold mul; simp
theorem mul_step (a b : Nat) (c : Nat) (hc : c < 2) : mul a (2 * b + c) = (if c = 1 then a else 0) ^^^ (2 * mul a b) := by
  by_cases h : 2 * b + c = 0
  · have hb : b = 0 := by omega
    have hc0 : c = 0 := by omega
    subst hb; subst hc0; simp [mul_zero]
  · rw [mul, dif_neg h]
    have h1 : (2 * b + c) % 2 = c := by omega
    have h2 : (2 * b + c) / 2 = b := by omega
    rw [h1, h2]

/-- Every number is 2 b + c. -/
theorem bit_ind {C : Nat → Prop} (h0 : C 0) (h : ∀ b c, c < 2 → C b → C (2 * b + c)) (n : Nat) : C n := by
  induction n using Nat.strongRecOn with
  | _ n ih =>
    by_cases hn : n = 0
    · subst hn; exact h0
    · have := h (n / 2) (n % 2) (by omega) (ih (n / 2) (by omega))
      rwa [show 2 * (n / 2) + n % 2 = n from by omega] at this

theorem xor_swap (a b c d : Nat) : (a ^^^ b) ^^^ (c ^^^ d) = (a ^^^ c) ^^^ (b ^^^ d) := by
  rw [Nat.xor_assoc, Nat.xor_assoc, ← Nat.xor_assoc b c d, Nat.xor_comm b c, Nat.xor_assoc c b d]

theorem xor_self_cancel (a b : Nat) : a ^^^ (a ^^^ b) = b := by rw [← Nat.xor_assoc, Nat.xor_self, Nat.zero_xor]
theorem xor_eq_zero {a b : Nat} (h : a ^^^ b = 0) : a = b := by
  have := congrArg (a ^^^ ·) h
  simp only [xor_self_cancel, Nat.xor_zero] at this
  exact this.symm

theorem xor_mul (a a' b : Nat) : mul (a ^^^ a') b = mul a b ^^^ mul a' b := by
  induction b using bit_ind with
  | h0 => simp [mul_zero]
  | h b c hc ih =>
    rw [mul_step _ _ _ hc, mul_step _ _ _ hc, mul_step _ _ _ hc, ih, two_xor]
    by_cases h : c = 1
    · simp only [if_pos h]; exact xor_swap _ _ _ _
    · simp only [if_neg h, Nat.zero_xor]

theorem mul_two_left (a b : Nat) : mul (2 * a) b = 2 * mul a b := by
  induction b using bit_ind with
  | h0 => simp [mul_zero]
  | h b c hc ih =>
    rw [mul_step _ _ _ hc, mul_step _ _ _ hc, ih, two_xor]
    by_cases h : c = 1
    · simp only [if_pos h]
    · simp only [if_neg h, Nat.mul_zero]

theorem zero_mul (b : Nat) : mul 0 b = 0 := by
  induction b using bit_ind with
  | h0 => simp [mul_zero]
  | h b c hc ih => rw [mul_step _ _ _ hc, ih]; simp

theorem two_add_xor (b c : Nat) (hc : c < 2) : 2 * b + c = (2 * b) ^^^ c := by
  apply Nat.eq_of_testBit_eq
  intro i
  rw [Nat.testBit_xor]
  cases i with
  | zero =>
    simp only [Nat.testBit_zero]
    have : c = 0 ∨ c = 1 := by omega
    rcases this with rfl | rfl <;> simp [Nat.add_mod]
  | succ i =>
    rw [Nat.testBit_succ, Nat.testBit_succ, Nat.testBit_succ]
    have h1 : (2 * b + c) / 2 = b := by omega
    have h2 : 2 * b / 2 = b := by omega
    have h3 : c / 2 = 0 := by omega
    rw [h1, h2, h3]; simp

theorem one_mul (b : Nat) : mul 1 b = b := by
  induction b using bit_ind with
  | h0 => simp [mul_zero]
  | h b c hc ih =>
    rw [mul_step _ _ _ hc, ih, two_add_xor _ _ hc, Nat.xor_comm]
    have : c = 0 ∨ c = 1 := by omega
    rcases this with rfl | rfl <;> simp

theorem mul_comm (a b : Nat) : mul a b = mul b a := by
  induction b using bit_ind with
  | h0 => rw [mul_zero, zero_mul]
  | h b c hc ih =>
    rw [mul_step _ _ _ hc, ih, two_add_xor _ _ hc, xor_mul, mul_two_left, Nat.xor_comm]
    have : c = 0 ∨ c = 1 := by omega
    rcases this with rfl | rfl
    · simp [zero_mul]
    · simp [one_mul]

theorem mul_xor (a b c : Nat) : mul a (b ^^^ c) = mul a b ^^^ mul a c := by rw [mul_comm, xor_mul, mul_comm b, mul_comm c]
theorem mul_one (a : Nat) : mul a 1 = a := by rw [mul_comm, one_mul]
theorem mul_two (a : Nat) : mul a 2 = 2 * a := by rw [mul_comm, show (2 : Nat) = 2 * 1 from rfl, mul_two_left, one_mul]
theorem mul_two_right (a b : Nat) : mul a (2 * b) = 2 * mul a b := by rw [mul_comm, mul_two_left, mul_comm]

theorem mul_assoc (a b c : Nat) : mul (mul a b) c = mul a (mul b c) := by
  induction c using bit_ind with
  | h0 => simp [mul_zero]
  | h c d hd ih =>
    rw [mul_step _ _ _ hd, mul_step _ _ _ hd, ih, mul_xor, mul_two_right]
    by_cases h : d = 1
    · simp only [if_pos h]
    · simp only [if_neg h, mul_zero]

/-! ### sizes -/
theorem xor_lt {a b k : Nat} (ha : a < 2 ^ k) (hb : b < 2 ^ k) : a ^^^ b < 2 ^ k := Nat.xor_lt_two_pow ha hb

theorem mul_lt {a b m n : Nat} (ha : a < 2 ^ m) (hb : b < 2 ^ n) : mul a b < 2 ^ (m + n) := by
  induction b using bit_ind generalizing n with
  | h0 => rw [mul_zero]; exact Nat.two_pow_pos _
  | h b c hc ih =>
    by_cases hz : 2 * b + c = 0
    · rw [hz, mul_zero]; exact Nat.two_pow_pos _
    · obtain ⟨n, rfl⟩ : ∃ k, n = k + 1 := ⟨n - 1, by
        have : n ≠ 0 := by rintro rfl; simp at hb; omega
        omega⟩
      have hb' : b < 2 ^ n := by rw [Nat.pow_succ] at hb; omega
      have h1 := ih hb'
      rw [mul_step _ _ _ hc]
      refine xor_lt ?_ (by rw [← Nat.add_assoc, Nat.pow_succ]; omega)
      split
      · exact Nat.lt_of_lt_of_le ha (Nat.pow_le_pow_right (by decide) (by omega))
      · exact Nat.two_pow_pos _

/-- The highest bit. -/
def hb (d a : Nat) : Prop := 2 ^ d ≤ a ∧ a < 2 ^ (d + 1)

theorem hb_pos {d a : Nat} (h : hb d a) : a ≠ 0 := by have := h.1; have := Nat.two_pow_pos d; omega
theorem hb_log {a : Nat} (h : a ≠ 0) : hb (Nat.log2 a) a := ⟨Nat.log2_self_le h, Nat.lt_log2_self⟩
theorem hb_uniq {d e a : Nat} (h : hb d a) (k : hb e a) : d = e := by
  rcases Nat.lt_trichotomy d e with hl | he | hg
  · have : 2 ^ (d + 1) ≤ 2 ^ e := Nat.pow_le_pow_right (by decide) hl
    have := h.2; have := k.1; omega
  · exact he
  · have : 2 ^ (e + 1) ≤ 2 ^ d := Nat.pow_le_pow_right (by decide) hg
    have := h.1; have := k.2; omega
theorem hb_eq_log {d a : Nat} (h : hb d a) : Nat.log2 a = d := hb_uniq (hb_log (hb_pos h)) h

theorem hb_testBit {d a : Nat} : hb d a ↔ a.testBit d = true ∧ a < 2 ^ (d + 1) := by
  constructor
  · rintro ⟨h1, h2⟩
    refine ⟨?_, h2⟩
    have h3 : a / 2 ^ d = 1 := by
      apply Nat.div_eq_of_lt_le
      · simpa using h1
      · simpa [Nat.pow_succ, Nat.mul_comm] using h2
    simp [Nat.testBit, Nat.shiftRight_eq_div_pow, h3]
  · rintro ⟨h1, h2⟩
    exact ⟨Nat.ge_two_pow_of_testBit h1, h2⟩

theorem lt_of_bit {x n : Nat} (h : x < 2 ^ (n + 1)) (hb' : x.testBit n = false) : x < 2 ^ n := by
  rcases Nat.lt_or_ge x (2 ^ n) with h1 | h1
  · exact h1
  · rw [(hb_testBit.1 ⟨h1, h⟩).1] at hb'; cases hb'

theorem hb_xor {d a b : Nat} (ha : hb d a) (hb' : b < 2 ^ d) : hb d (a ^^^ b) := by
  rw [hb_testBit] at ha ⊢
  refine ⟨?_, xor_lt ha.2 (Nat.lt_of_lt_of_le hb' (Nat.pow_le_pow_right (by decide) (by omega)))⟩
  rw [Nat.testBit_xor, ha.1, Nat.testBit_lt_two_pow hb']
  rfl

theorem hb_two {d a : Nat} (h : hb d a) : hb (d + 1) (2 * a) := by
  unfold hb at *; rw [Nat.pow_succ, Nat.pow_succ 2 (d + 1)]; omega

theorem hb_mul {d e a b : Nat} (ha : hb d a) (hb' : hb e b) : hb (d + e) (mul a b) := by
  induction b using bit_ind generalizing e with
  | h0 => exact absurd rfl (hb_pos hb')
  | h b c hc ih =>
    rw [mul_step _ _ _ hc]
    by_cases hz : b = 0
    · subst hz
      have h1 : c = 1 := by have := hb_pos hb'; omega
      subst h1
      have : e = 0 := by
        have := hb'.1
        rcases Nat.eq_zero_or_pos e with h | h
        · exact h
        · have : 2 ^ 1 ≤ 2 ^ e := Nat.pow_le_pow_right (by decide) h
          omega
      subst this
      simpa [mul_zero] using ha
    · obtain ⟨e', he'⟩ : ∃ e', hb e' b := ⟨_, hb_log hz⟩
      have : e = e' + 1 := by
        refine hb_uniq hb' ?_
        have := hb_two he'
        unfold hb at this ⊢
        refine ⟨by omega, ?_⟩
        have h2 : 2 ^ (e' + 1 + 1) = 2 * 2 ^ (e' + 1) := by rw [Nat.pow_succ, Nat.mul_comm]
        have := he'.2
        omega
      subst this
      have h1 := hb_two (ih he')
      rw [Nat.xor_comm]
      refine hb_xor h1 ?_
      split
      · exact Nat.lt_of_lt_of_le ha.2 (Nat.pow_le_pow_right (by decide) (by omega))
      · exact Nat.two_pow_pos _

theorem mul_eq_zero {a b : Nat} (h : mul a b = 0) : a = 0 ∨ b = 0 := by
  by_cases ha : a = 0
  · exact .inl ha
  · by_cases hb' : b = 0
    · exact .inr hb'
    · exact absurd h (hb_pos (hb_mul (hb_log ha) (hb_log hb')))

theorem mul_cancel {a b c : Nat} (hc : c ≠ 0) (h : mul a c = mul b c) : a = b := by
  have : mul (a ^^^ b) c = 0 := by rw [xor_mul, h, Nat.xor_self]
  rcases mul_eq_zero this with h | h
  · exact xor_eq_zero h
  · exact absurd h hc

theorem log2_mul {a b : Nat} (ha : a ≠ 0) (hb' : b ≠ 0) : Nat.log2 (mul a b) = Nat.log2 a + Nat.log2 b := hb_eq_log (hb_mul (hb_log ha) (hb_log hb'))

theorem mul_pow_two (a k : Nat) : mul a (2 ^ k) = a <<< k := by
  induction k with
  | zero => simp [mul_one]
  | succ k ih => rw [Nat.pow_succ, Nat.mul_comm, mul_two_right, ih, Nat.shiftLeft_succ_inside, Nat.shiftLeft_eq, Nat.shiftLeft_eq]; rw [Nat.mul_assoc 2 a]

/-! ### what is left -/
theorem modN_spec (p d : Nat) (hp : hb d p) : ∀ (k a : Nat), a < 2 ^ (d + k) → modN p d k a < 2 ^ d ∧ ∃ q, a = mul q p ^^^ modN p d k a := by
  intro k
  induction k with
  | zero => intro a ha; exact ⟨by simpa [modN] using ha, 0, by simp [modN, zero_mul]⟩
  | succ k ih =>
    intro a ha
    have h2 : red p d a (d + k) < 2 ^ (d + k) := by
      unfold red
      rw [show d + k - d = k from by omega]
      split
      · rename_i hbit
        have hs : p <<< k < 2 ^ (d + k + 1) := by
          rw [Nat.shiftLeft_eq, show d + k + 1 = d + 1 + k from by omega, Nat.pow_add 2 (d + 1) k]
          exact Nat.mul_lt_mul_of_pos_right hp.2 (Nat.two_pow_pos _)
        have hx : a ^^^ (p <<< k) < 2 ^ (d + k + 1) := xor_lt ha hs
        refine lt_of_bit hx ?_
        rw [Nat.testBit_xor, hbit, Nat.testBit_shiftLeft]
        simp [(hb_testBit.1 hp).1]
      · rename_i hbit
        exact lt_of_bit ha (by simpa using hbit)
    obtain ⟨h3, q, hq⟩ := ih _ h2
    refine ⟨by simpa [modN] using h3, ?_⟩
    simp only [modN]
    by_cases hbit : a.testBit (d + k) = true
    · refine ⟨q ^^^ 2 ^ k, ?_⟩
      have e : red p d a (d + k) = a ^^^ (p <<< k) := by unfold red; rw [if_pos hbit, show d + k - d = k from by omega]
      rw [xor_mul, mul_comm (2 ^ k) p, mul_pow_two, Nat.xor_assoc, Nat.xor_comm (p <<< k), ← Nat.xor_assoc, ← hq, e, Nat.xor_assoc, Nat.xor_self, Nat.xor_zero]
    · have e : red p d a (d + k) = a := by unfold red; rw [if_neg hbit]
      exact ⟨q, by rw [e] at hq ⊢; exact hq⟩

/-- What is left is of a lower degree, and differs by a multiple. -/
theorem mod_spec (a p : Nat) (hp : p ≠ 0) : mod a p < 2 ^ Nat.log2 p ∧ ∃ q, a = mul q p ^^^ mod a p := by
  unfold mod
  rw [if_neg hp]
  refine modN_spec p _ (hb_log hp) _ a ?_
  by_cases ha : a = 0
  · subst ha; exact Nat.two_pow_pos _
  · exact Nat.lt_of_lt_of_le (hb_log ha).2 (Nat.pow_le_pow_right (by decide) (by omega))

theorem small_multiple {p q r : Nat} (hp : p ≠ 0) (hr : r < 2 ^ Nat.log2 p) (h : r = mul q p) : r = 0 := by
  by_cases hq : q = 0
  · rw [h, hq, zero_mul]
  · have h1 := (hb_mul (hb_log hq) (hb_log hp)).1
    rw [← h] at h1
    have : 2 ^ Nat.log2 p ≤ 2 ^ (Nat.log2 q + Nat.log2 p) := Nat.pow_le_pow_right (by decide) (by omega)
    omega

/-- It is known by these two. -/
theorem mod_eq {a p r q : Nat} (hp : p ≠ 0) (hr : r < 2 ^ Nat.log2 p) (h : a = mul q p ^^^ r) : mod a p = r := by
  obtain ⟨h1, q', h2⟩ := mod_spec a p hp
  have h3 : mod a p ^^^ r = mul (q ^^^ q') p := by
    rw [xor_mul]
    have : mul q p ^^^ r = mul q' p ^^^ mod a p := by rw [← h, ← h2]
    have h4 := congrArg (fun z => (mul q' p ^^^ z) ^^^ r) this
    simp only [xor_self_cancel] at h4
    rw [← h4, Nat.xor_assoc, Nat.xor_assoc, Nat.xor_self, Nat.xor_zero, Nat.xor_comm]
  exact xor_eq_zero (small_multiple hp (xor_lt h1 hr) h3)

theorem mod_lt (a : Nat) {p : Nat} (hp : p ≠ 0) : mod a p < 2 ^ Nat.log2 p := (mod_spec a p hp).1
theorem mod_small {a p : Nat} (hp : p ≠ 0) (ha : a < 2 ^ Nat.log2 p) : mod a p = a := mod_eq hp ha (q := 0) (by simp [zero_mul])
theorem mod_zero (a : Nat) : mod a 0 = 0 := by simp [mod]
theorem zero_mod (p : Nat) : mod 0 p = 0 := by
  by_cases hp : p = 0
  · simp [mod, hp]
  · exact mod_small hp (Nat.two_pow_pos _)

theorem xor_mod (a b p : Nat) : mod (a ^^^ b) p = mod a p ^^^ mod b p := by
  by_cases hp : p = 0
  · simp [mod, hp]
  · obtain ⟨h1, q1, e1⟩ := mod_spec a p hp
    obtain ⟨h2, q2, e2⟩ := mod_spec b p hp
    refine mod_eq hp (xor_lt h1 h2) (q := q1 ^^^ q2) ?_
    rw [xor_mul, xor_swap, ← e1, ← e2]

theorem mod_mul_self (q p : Nat) : mod (mul q p) p = 0 := by
  by_cases hp : p = 0
  · simp [mod, hp]
  · exact mod_eq hp (Nat.two_pow_pos _) (q := q) (by simp)

theorem mod_mod (a p : Nat) : mod (mod a p) p = mod a p := by
  by_cases hp : p = 0
  · simp [mod, hp]
  · exact mod_small hp (mod_lt a hp)

theorem mod_mul_left (a b p : Nat) : mod (mul (mod a p) b) p = mod (mul a b) p := by
  by_cases hp : p = 0
  · simp [mod, hp]
  · obtain ⟨h1, q, e⟩ := mod_spec a p hp
    conv => rhs; rw [e]
    rw [xor_mul, xor_mod, mul_assoc, mul_comm p b, ← mul_assoc, mod_mul_self, Nat.zero_xor]

theorem mod_mul_right (a b p : Nat) : mod (mul a (mod b p)) p = mod (mul a b) p := by rw [mul_comm, mod_mul_left, mul_comm]

/-- p divides a. -/
def Dvd (p a : Nat) : Prop := ∃ q, a = mul q p

theorem mod_eq_zero {a p : Nat} (hp : p ≠ 0) : mod a p = 0 ↔ Dvd p a := by
  constructor
  · intro h
    obtain ⟨_, q, e⟩ := mod_spec a p hp
    exact ⟨q, by rw [h, Nat.xor_zero] at e; exact e⟩
  · rintro ⟨q, rfl⟩; exact mod_mul_self q p

theorem mulMod_comm (a b p : Nat) : mulMod a b p = mulMod b a p := by simp [mulMod, mul_comm]
theorem mulMod_assoc (a b c p : Nat) : mulMod (mulMod a b p) c p = mulMod a (mulMod b c p) p := by
  simp only [mulMod, mod_mul_left, mod_mul_right, mul_assoc]
theorem mulMod_lt (a b : Nat) {p : Nat} (hp : p ≠ 0) : mulMod a b p < 2 ^ Nat.log2 p := mod_lt _ hp
theorem mulMod_xor (a b c p : Nat) : mulMod a (b ^^^ c) p = mulMod a b p ^^^ mulMod a c p := by simp only [mulMod, mul_xor, xor_mod]
theorem mulMod_one {a p : Nat} (hp : p ≠ 0) (ha : a < 2 ^ Nat.log2 p) : mulMod a 1 p = a := by simp only [mulMod, mul_one]; exact mod_small hp ha

end Go.Gam.Px
