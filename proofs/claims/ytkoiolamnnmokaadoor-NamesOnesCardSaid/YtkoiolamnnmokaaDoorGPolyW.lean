/- Plain lemmas in the spelling that the walks of polynomials leave. No program in sight. -/
import Derived.Test.YtkoiolamnnmokaaDoorGPoly
import Derived.Test.YtkoiolamnnmokaaDoorGVals
set_option linter.unusedVariables false
set_option linter.unusedSimpArgs false
namespace Go.Gam
open Px

/-- How many bits a number has. -/
def blen (n : Nat) : Nat := if n = 0 then 0 else Nat.log2 n + 1

theorem blen_hb {d n : Nat} (h : hb d n) : blen n = d + 1 := by unfold blen; rw [if_neg (hb_pos h), hb_eq_log h]
theorem blen_zero : blen 0 = 0 := rfl
theorem lt_blen (n : Nat) : n < 2 ^ blen n := by
  unfold blen
  split
  · rename_i h; subst h; simp
  · rename_i h; exact (hb_log h).2
theorem blen_le {n k : Nat} (h : n < 2 ^ k) : blen n ≤ k := by
  unfold blen
  split
  · omega
  · rename_i hn
    rcases Nat.lt_or_ge (Nat.log2 n) k with h1 | h1
    · exact h1
    · have := (hb_log hn).1
      have : 2 ^ k ≤ 2 ^ Nat.log2 n := Nat.pow_le_pow_right (by decide) h1
      omega
theorem deg_blen (p : Nat) : ((blen p : Int) - 1) = deg p := by unfold blen deg; split <;> simp

theorem blen_shift {x k : Nat} (h : 2 ^ k ≤ x) : blen (x / 2 ^ k) + k = blen x := by
  have hx : x ≠ 0 := by have := Nat.two_pow_pos k; omega
  have h1 := hb_log hx
  have hk : k ≤ Nat.log2 x := by
    rcases Nat.lt_or_ge (Nat.log2 x) k with h2 | h2
    · have : 2 ^ (Nat.log2 x + 1) ≤ 2 ^ k := Nat.pow_le_pow_right (by decide) h2
      have := h1.2; omega
    · exact h2
  have : hb (Nat.log2 x - k) (x / 2 ^ k) := by
    refine ⟨?_, ?_⟩
    · rw [Nat.le_div_iff_mul_le (Nat.two_pow_pos _), ← Nat.pow_add, Nat.sub_add_cancel hk]; exact h1.1
    · rw [Nat.div_lt_iff_lt_mul (Nat.two_pow_pos _), ← Nat.pow_add, show Nat.log2 x - k + 1 + k = Nat.log2 x + 1 from by omega]; exact h1.2
  rw [blen_hb this, blen_hb h1]; omega

theorem blen_half {m : Nat} (h : m ≠ 0) : blen (m / 2) + 1 = blen m := by
  by_cases h1 : m = 1
  · subst h1; decide
  · have := blen_shift (x := m) (k := 1) (by omega)
    rwa [Nat.pow_one] at this

theorem blen_table : ∀ x, x < 256 → ((List.range 256).map fun n => UInt8.ofNat (blen n))[x]? = some (UInt8.ofNat (blen x)) := by
  intro x hx
  simp [hx]

theorem blen_byte {x : Nat} (hx : x < 256) : (((UInt8.ofNat (blen x)).toNat : Nat) : Int) = (blen x : Int) := by
  have := blen_le (n := x) (k := 8) (by simpa using hx)
  have h2 : (UInt8.ofNat (blen x)).toNat = blen x := by simp; omega
  rw [h2]

theorem toNat_c (n : Nat) : ((n : Int)).toNat = n := Int.toNat_natCast n

/-- Bit i of b, as the code tells it. -/
theorem bit_says {b i : Nat} (k : IntKind) (hi : i ≤ k.bits) : decide (((b / 2 ^ (min ((i : Int)).toNat k.bits) &&& 1 : Nat) : Int) = 1) = b.testBit i := by
  rw [toNat_c, Nat.min_eq_left hi, Nat.and_one_is_mod, Nat.testBit, Nat.shiftRight_eq_div_pow]
  have h : b / 2 ^ i % 2 = 0 ∨ b / 2 ^ i % 2 = 1 := by omega
  rcases h with h | h <;> simp [h, Nat.and_comm 1, Nat.and_one_is_mod]

theorem bit_T {b i : Nat} (k : IntKind) (hi : i ≤ k.bits) (h : ((b / 2 ^ (min ((i : Int)).toNat k.bits) &&& 1 : Nat) : Int) = 1) : b.testBit i = true := by rw [← bit_says k hi]; exact decide_eq_true h
theorem bit_F {b i : Nat} (k : IntKind) (hi : i ≤ k.bits) (h : ¬ ((b / 2 ^ (min ((i : Int)).toNat k.bits) &&& 1 : Nat) : Int) = 1) : b.testBit i = false := by rw [← bit_says k hi]; exact decide_eq_false h

theorem shl_says {a i : Nat} (h : a * 2 ^ i < 18446744073709551616) (hi : i ≤ 64) : IntKind.u64.wrap ((a : Int) * 2 ^ (min ((i : Int)).toNat IntKind.u64.bits)) = ((a <<< i : Nat) : Int) := by
  have e : (a : Int) * 2 ^ (min ((i : Int)).toNat IntKind.u64.bits) = ((a * 2 ^ i : Nat) : Int) := by
    rw [toNat_c, Nat.min_eq_left (by simpa [IntKind.bits] using hi)]; simp
  rw [e, wrap_u64 _ (by omega), Nat.shiftLeft_eq]

theorem shl_lt {a i m : Nat} (ha : a < 2 ^ m) : a * 2 ^ i < 2 ^ (m + i) := by rw [Nat.pow_add]; exact Nat.mul_lt_mul_of_pos_right ha (Nat.two_pow_pos _)

theorem div_lt {b m k : Nat} (h : b < m) : b / k < m := Nat.lt_of_le_of_lt (Nat.div_le_self _ _) h

/-- The lowest bits of b, one more. -/
theorem mod_bit (b i : Nat) : b % 2 ^ (i + 1) = (b % 2 ^ i) ^^^ (if b.testBit i then 2 ^ i else 0) := by
  apply Nat.eq_of_testBit_eq
  intro j
  rw [Nat.testBit_mod_two_pow, Nat.testBit_xor, Nat.testBit_mod_two_pow]
  by_cases h : b.testBit i = true
  · rw [if_pos h, Nat.testBit_two_pow]
    by_cases hj : i = j
    · subst hj; simp [h]
    · have : decide (i = j) = false := by simp [hj]
      rw [this, Bool.xor_false]
      congr 1
      simp; omega
  · rw [if_neg h, Nat.zero_testBit, Bool.xor_false]
    by_cases hj : j = i
    · subst hj; simp at h; simp [h]
    · congr 1
      simp; omega

theorem mul_bit (a b i : Nat) : mul a (b % 2 ^ (i + 1)) = mul a (b % 2 ^ i) ^^^ (if b.testBit i then a <<< i else 0) := by
  rw [mod_bit, mul_xor]
  split
  · rw [mul_pow_two]
  · rw [mul_zero]

theorem mul_all (a b : Nat) : mul a (b % 2 ^ blen b) = mul a b := by rw [Nat.mod_eq_of_lt (lt_blen b)]
theorem mul_none (a b : Nat) : mul a (b % 2 ^ 0) = 0 := by simp [Nat.mod_one, mul_zero]

theorem mul_lt64 {a b : Nat} (ha : a < 4294967296) (hb' : b < 4294967296) : mul a b < 18446744073709551616 := mul_lt (m := 32) (n := 32) ha hb'
theorem mul_lt63 {a b : Nat} (ha : a < 4294967296) (hb' : b < 4294967296) : mul a b < 9223372036854775808 := by
  by_cases h1 : a = 0
  · subst h1; rw [zero_mul]; decide
  · by_cases h2 : b = 0
    · subst h2; rw [mul_zero]; decide
    · have h := (hb_mul (hb_log h1) (hb_log h2)).2
      have h3 : Nat.log2 a < 32 := by
        rcases Nat.lt_or_ge (Nat.log2 a) 32 with h | h
        · exact h
        · have := (hb_log h1).1; have : 2 ^ 32 ≤ 2 ^ Nat.log2 a := Nat.pow_le_pow_right (by decide) h
          omega
      have h4 : Nat.log2 b < 32 := by
        rcases Nat.lt_or_ge (Nat.log2 b) 32 with h | h
        · exact h
        · have := (hb_log h2).1; have : 2 ^ 32 ≤ 2 ^ Nat.log2 b := Nat.pow_le_pow_right (by decide) h
          omega
      have : 2 ^ (Nat.log2 a + Nat.log2 b + 1) ≤ 2 ^ 63 := Nat.pow_le_pow_right (by decide) (by omega)
      have e : (2 : Nat) ^ 63 = 9223372036854775808 := by decide
      omega

theorem log2_lt {p k : Nat} (h0 : p ≠ 0) (h : p < 2 ^ k) : Nat.log2 p < k := by
  rcases Nat.lt_or_ge (Nat.log2 p) k with h1 | h1
  · exact h1
  · have := (hb_log h0).1; have : 2 ^ k ≤ 2 ^ Nat.log2 p := Nat.pow_le_pow_right (by decide) h1
    omega

theorem mod_lt32 (a : Nat) {p : Nat} (h : p < 4294967296) : mod a p < 4294967296 := by
  by_cases h0 : p = 0
  · subst h0; rw [mod_zero]; decide
  · have h1 := log2_lt h0 (k := 32) h
    have : 2 ^ Nat.log2 p ≤ 2 ^ 31 := Nat.pow_le_pow_right (by decide) (by omega)
    have := mod_lt a h0
    have e : (2 : Nat) ^ 31 = 2147483648 := by decide
    omega

/-! ### what is left: the loop -/
theorem deg_pos {p : Nat} (h : p ≠ 0) : deg p = (Nat.log2 p : Int) := by unfold deg; rw [if_neg h]
theorem deg_zero : deg 0 = -1 := rfl
theorem deg_ge (p : Nat) : -1 ≤ deg p := by unfold deg; split <;> omega
theorem deg_lt {p k : Nat} (h : p < 2 ^ k) : deg p < (k : Int) := by
  unfold deg; split
  · omega
  · rename_i h0; have := log2_lt h0 h; omega

/-- The state of the loop of what is left: i is the degree at hand. -/
structure ModAt (A p : Nat) (i : Int) (a : Nat) : Prop where
  lo : (Nat.log2 p : Int) - 1 ≤ i
  hi : i < 64
  lt : a < 2 ^ (i + 1).toNat
  eq : modN p (Nat.log2 p) (i + 1 - Nat.log2 p).toNat a = mod A p

theorem modAt_start {A p : Nat} (hp : p ≠ 0) (hA : A < 2 ^ 64) (h : (Nat.log2 p : Int) ≤ deg A) : ModAt A p (deg A) A := by
  have hA0 : A ≠ 0 := by rintro rfl; rw [deg_zero] at h; omega
  have h1 := deg_lt hA
  rw [deg_pos hA0] at h h1 ⊢
  refine ⟨by omega, by omega, ?_, ?_⟩
  · rw [show ((Nat.log2 A : Int) + 1).toNat = Nat.log2 A + 1 from by omega]; exact (hb_log hA0).2
  · unfold mod
    rw [if_neg hp]
    congr 1
    omega

theorem mod_low {A p : Nat} (hp : p ≠ 0) (h : deg A < (Nat.log2 p : Int)) : mod A p = A := by
  refine mod_small hp ?_
  by_cases hA : A = 0
  · subst hA; exact Nat.two_pow_pos _
  · rw [deg_pos hA] at h
    exact Nat.lt_of_lt_of_le (hb_log hA).2 (Nat.pow_le_pow_right (by decide) (by omega))

theorem modAt_step {A p a : Nat} {i : Int} (h : ModAt A p i a) (hp : p ≠ 0) (hi : (Nat.log2 p : Int) ≤ i) : ModAt A p (i - 1) (red p (Nat.log2 p) a i.toNat) ∧ red p (Nat.log2 p) a i.toNat < 2 ^ i.toNat := by
  obtain ⟨lo, h64, lt, eq⟩ := h
  have e1 : (i + 1 - Nat.log2 p).toNat = (i - 1 + 1 - Nat.log2 p).toNat + 1 := by omega
  rw [e1, modN, show Nat.log2 p + (i - 1 + 1 - Nat.log2 p).toNat = i.toNat from by omega] at eq
  have hlt : red p (Nat.log2 p) a i.toNat < 2 ^ i.toNat := by
    rw [show (i + 1).toNat = i.toNat + 1 from by omega] at lt
    unfold red
    split
    · rename_i hbit
      have hs : p <<< (i.toNat - Nat.log2 p) < 2 ^ (i.toNat + 1) := by
        rw [Nat.shiftLeft_eq, show i.toNat + 1 = Nat.log2 p + 1 + (i.toNat - Nat.log2 p) from by omega, Nat.pow_add 2 (Nat.log2 p + 1)]
        exact Nat.mul_lt_mul_of_pos_right (hb_log hp).2 (Nat.two_pow_pos _)
      refine lt_of_bit (xor_lt lt hs) ?_
      rw [Nat.testBit_xor, hbit, Nat.testBit_shiftLeft, Nat.sub_sub_self (by omega), (hb_testBit.1 (hb_log hp)).1]
      simp
    · rename_i hbit
      exact lt_of_bit lt (by simpa using hbit)
  exact ⟨⟨by omega, by omega, by rw [show (i - 1 + 1).toNat = i.toNat from by omega]; exact hlt, eq⟩, hlt⟩

theorem modAt_end {A p a : Nat} {i : Int} (h : ModAt A p i a) (hi : i < (Nat.log2 p : Int)) : a = mod A p := by
  have h1 := h.eq
  rw [show (i + 1 - Nat.log2 p).toNat = 0 from by have := h.lo; omega, modN] at h1
  exact h1

theorem red_bit {p d a i : Nat} (h : a.testBit i = true) : red p d a i = a ^^^ (p <<< (i - d)) := by unfold red; rw [if_pos h]
theorem red_nobit {p d a i : Nat} (h : a.testBit i = false) : red p d a i = a := by unfold red; rw [h]; rfl

/-! ### gcd, powers -/
def gcd (a b : Nat) : Nat := if _h : b = 0 then a else if _h2 : mod a b < b then gcd b (mod a b) else 0
termination_by b
decreasing_by omega

theorem mod_lt_self (a : Nat) {b : Nat} (h : b ≠ 0) : mod a b < b := Nat.lt_of_lt_of_le (mod_lt a h) (hb_log h).1
theorem gcd_zero (a : Nat) : gcd a 0 = a := by unfold gcd; simp
theorem gcd_step (a : Nat) {b : Nat} (h : b ≠ 0) : gcd a b = gcd b (mod a b) := by
  rw [gcd, dif_neg h, dif_pos (mod_lt_self a h)]

/-- The loop of powers by squares. -/
def powB (a p out : Nat) (n : Nat) : Nat := if h : n = 0 then out else powB (mulMod a a p) p (if n % 2 = 1 then mulMod out a p else out) (n / 2)
termination_by n
decreasing_by omega

theorem powB_zero (a p out : Nat) : powB a p out 0 = out := by unfold powB; simp
theorem powB_step (a p out : Nat) {n : Nat} (h : n ≠ 0) : powB a p out n = powB (mulMod a a p) p (if n % 2 = 1 then mulMod out a p else out) (n / 2) := by
  rw [powB, dif_neg h]
theorem powB_odd (a p out : Nat) {n : Nat} (h : n % 2 = 1) : powB a p out n = powB (mulMod a a p) p (mulMod out a p) (n / 2) := by rw [powB_step _ _ _ (by omega), if_pos h]
theorem powB_even (a p out : Nat) {n : Nat} (h0 : n ≠ 0) (h : n % 2 ≠ 1) : powB a p out n = powB (mulMod a a p) p out (n / 2) := by rw [powB_step _ _ _ h0, if_neg h]

/-- Squared so often. -/
def frob (p : Nat) : Nat → Nat → Nat
  | 0, a => a
  | k + 1, a => frob p k (mulMod a a p)
theorem frob_succ (p : Nat) : ∀ (k a : Nat), frob p (k + 1) a = mulMod (frob p k a) (frob p k a) p
  | 0, a => rfl
  | k + 1, a => by rw [frob, frob_succ p k, frob]

/-- What the code asks of an irreducible polynomial. -/
def irr (p : Nat) : Bool := decide (2 ≤ p ∧ p < 131072) && (frob p (Nat.log2 p) (mod 2 p) == mod 2 p) && (List.range (Nat.log2 p / 2)).all fun i => gcd p (frob p (i + 1) (mod 2 p) ^^^ 2) == 1

/-- What the document asks: no divisor of half its degree at most. -/
def irrR (p : Nat) : Bool := decide (2 ≤ p ∧ p < 131072) && (List.range (2 ^ (Nat.log2 p / 2 + 1) - 2)).all fun i => !(mod p (i + 2) == 0)

theorem deg_range {p : Nat} : (¬ deg p < 1 ∧ ¬ 16 < deg p) ↔ (2 ≤ p ∧ p < 131072) := by
  by_cases h0 : p = 0
  · subst h0; rw [deg_zero]; omega
  · rw [deg_pos h0]
    have h := hb_log h0
    constructor
    · rintro ⟨h1, h2⟩
      have h3 : 2 ^ 1 ≤ 2 ^ Nat.log2 p := Nat.pow_le_pow_right (by decide) (by omega)
      have h4 : 2 ^ (Nat.log2 p + 1) ≤ 2 ^ 17 := Nat.pow_le_pow_right (by decide) (by omega)
      have e : (2 : Nat) ^ 17 = 131072 := by decide
      have := h.1; have := h.2
      omega
    · rintro ⟨h1, h2⟩
      have h3 := log2_lt h0 (k := 17) (by simpa using h2)
      have : Nat.log2 p ≠ 0 := by
        intro e; have := h.2; rw [e] at this; omega
      omega

theorem irr_out {p : Nat} (h : ¬ (2 ≤ p ∧ p < 131072)) : irr p = false := by unfold irr; simp only [h, decide_false, Bool.false_and]
theorem irrR_out {p : Nat} (h : ¬ (2 ≤ p ∧ p < 131072)) : irrR p = false := by unfold irrR; simp only [h, decide_false, Bool.false_and]


theorem shl_says' {a i : Nat} {Z : Int} (hZ : Z = (i : Int)) (h : a * 2 ^ i < 18446744073709551616) (hi : i ≤ 64) : IntKind.u64.wrap ((a : Int) * 2 ^ (min Z.toNat IntKind.u64.bits)) = ((a <<< i : Nat) : Int) := by subst hZ; exact shl_says h hi

theorem shl_lt64 {p j : Nat} (h0 : p ≠ 0) (hp : p < 4294967296) (hj : (j : Int) < 64) (hl : Nat.log2 p ≤ j) : p * 2 ^ (j - Nat.log2 p) < 18446744073709551616 := by
  have h1 : p * 2 ^ (j - Nat.log2 p) < 2 ^ (Nat.log2 p + 1 + (j - Nat.log2 p)) := shl_lt (hb_log h0).2
  exact Nat.lt_of_lt_of_le h1 (Nat.pow_le_pow_right (n := 2) (by decide) (show Nat.log2 p + 1 + (j - Nat.log2 p) ≤ 64 by omega))

theorem frob_lt32 {p : Nat} (n : Nat) (hp : p < 4294967296) : frob p n (mod 2 p) < 4294967296 := by
  cases n with
  | zero => exact mod_lt32 2 hp
  | succ n => rw [frob_succ]; exact mod_lt32 _ hp

theorem irr_f2 {p : Nat} (h : ¬ ((frob p (Nat.log2 p) (mod 2 p) : Nat) : Int) = ((mod 2 p : Nat) : Int)) : irr p = false := by
  unfold irr
  have h1 : (frob p (Nat.log2 p) (mod 2 p) == mod 2 p) = false := by simp only [beq_eq_false_iff_ne]; omega
  rw [h1]; simp
theorem irr_f3 {p : Nat} (i : Nat) (hi : i + 1 ≤ Nat.log2 p / 2) (h : gcd p (frob p (i + 1) (mod 2 p) ^^^ 2) ≠ 1) : irr p = false := by
  unfold irr
  have h1 : ((List.range (Nat.log2 p / 2)).all fun i => gcd p (frob p (i + 1) (mod 2 p) ^^^ 2) == 1) = false := by
    rw [List.all_eq_false]
    exact ⟨i, by simp; omega, by simpa using h⟩
  rw [h1]; simp
theorem irr_t {p : Nat} (hr : 2 ≤ p ∧ p < 131072) (hf : frob p (Nat.log2 p) (mod 2 p) = mod 2 p) (h : ∀ j, j < Nat.log2 p / 2 → gcd p (frob p (j + 1) (mod 2 p) ^^^ 2) = 1) : irr p = true := by
  unfold irr
  simp only [hr, and_self, decide_true, Bool.true_and, hf, beq_self_eq_true, List.all_eq_true, List.mem_range, beq_iff_eq]
  exact h


theorem shl_one {k : Nat} (h : k ≤ 62) : IntKind.i64.wrap ((1 : Int) * 2 ^ (min ((k : Int)).toNat IntKind.i64.bits)) = ((2 ^ k : Nat) : Int) := by
  have e : (1 : Int) * 2 ^ (min ((k : Int)).toNat IntKind.i64.bits) = ((2 ^ k : Nat) : Int) := by
    rw [toNat_c, Nat.min_eq_left (show k ≤ IntKind.i64.bits by simp [IntKind.bits]; omega)]; simp
  have h1 : 2 ^ k ≤ 4611686018427387904 := Nat.pow_le_pow_right (n := 2) (j := 62) (by decide) h
  rw [e]
  generalize 2 ^ k = z at *
  exact wrap_i64 _ (by omega)

theorem mul_z {x y : Nat} (h : x = 0 ∨ y = 0) : mul x y = 0 := by
  rcases h with rfl | rfl
  · exact zero_mul y
  · exact mul_zero x
theorem mod_z {x p : Nat} (h : p = 0) : mod x p = 0 := by subst h; exact mod_zero x

/-! ### the document's loops -/
theorem bit_of_div {b k : Nat} : b.testBit k = decide (b / 2 ^ k % 2 = 1) := by
  rw [Nat.testBit, Nat.shiftRight_eq_div_pow, Nat.and_comm, Nat.and_one_is_mod]
  have h : b / 2 ^ k % 2 = 0 ∨ b / 2 ^ k % 2 = 1 := by omega
  rcases h with h | h <;> simp [h]

theorem div_succ (b k : Nat) : b / 2 ^ (k + 1) = b / 2 ^ k / 2 := by rw [Nat.pow_succ, Nat.div_div_eq_div_mul]

theorem mod_xor_shift (q p k : Nat) : mod (q ^^^ (p <<< k)) p = mod q p := by
  rw [xor_mod, ← mul_pow_two, mul_comm, mod_mul_self, Nat.xor_zero]

theorem xor_shift_lt {q p : Nat} (hp : p ≠ 0) (hq : q ≠ 0) (h : Nat.log2 p ≤ Nat.log2 q) : q ^^^ (p <<< (Nat.log2 q - Nat.log2 p)) < 2 ^ Nat.log2 q := by
  have h1 := hb_log hp
  have h2 := hb_log hq
  have hs : p <<< (Nat.log2 q - Nat.log2 p) < 2 ^ (Nat.log2 q + 1) := by
    rw [Nat.shiftLeft_eq, show Nat.log2 q + 1 = Nat.log2 p + 1 + (Nat.log2 q - Nat.log2 p) from by omega, Nat.pow_add 2 (Nat.log2 p + 1)]
    exact Nat.mul_lt_mul_of_pos_right h1.2 (Nat.two_pow_pos _)
  refine lt_of_bit (xor_lt h2.2 hs) ?_
  rw [Nat.testBit_xor, (hb_testBit.1 h2).1, Nat.testBit_shiftLeft, Nat.sub_sub_self h, (hb_testBit.1 h1).1]
  simp

theorem mul_shift {p k : Nat} (h : p * 2 ^ k < 18446744073709551616) : IntKind.u64.wrap ((p : Int) * ((2 ^ k : Nat) : Int)) = ((p <<< k : Nat) : Int) := by
  have e : (p : Int) * ((2 ^ k : Nat) : Int) = ((p * 2 ^ k : Nat) : Int) := by simp
  rw [e, wrap_u64 _ (by omega), Nat.shiftLeft_eq]

theorem irrR_f {p : Nat} (i : Nat) (hi : i + 2 < 2 ^ (Nat.log2 p / 2 + 1)) (h : mod p (i + 2) = 0) : irrR p = false := by
  unfold irrR
  have h1 : ((List.range (2 ^ (Nat.log2 p / 2 + 1) - 2)).all fun i => !(mod p (i + 2) == 0)) = false := by
    rw [List.all_eq_false]
    exact ⟨i, by simp; omega, by simp [h]⟩
  rw [h1]; simp
theorem irrR_t {p : Nat} (hr : 2 ≤ p ∧ p < 131072) (h : ∀ i, i + 2 < 2 ^ (Nat.log2 p / 2 + 1) → mod p (i + 2) ≠ 0) : irrR p = true := by
  unfold irrR
  simp only [hr, and_self, decide_true, Bool.true_and, List.all_eq_true, List.mem_range, Bool.not_eq_true', beq_eq_false_iff_ne]
  exact fun i hi => h i (by omega)

theorem deg_le_iff {q k : Nat} (h : q ≠ 0) : deg q ≤ (k : Int) ↔ q < 2 ^ (k + 1) := by
  rw [deg_pos h]
  constructor
  · intro h1
    exact Nat.lt_of_lt_of_le (hb_log h).2 (Nat.pow_le_pow_right (by decide) (by omega))
  · intro h1
    have := log2_lt h h1; omega

end Go.Gam
