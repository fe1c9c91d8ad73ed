/- Finite fields whose sum is exclusive or: powers, inverses, Fermat, how many roots a polynomial has. No program in sight. -/
import Derived.Test.YtkoiolamnnmokaaDoorGPoly
set_option linter.unusedVariables false
set_option linter.unusedSimpArgs false
namespace Go.Gam

/-- A field of the numbers below s. -/
structure Fld where
  w : Nat
  mul : Nat → Nat → Nat
  lt : ∀ a b, mul a b < 2 ^ w
  comm : ∀ a b, mul a b = mul b a
  assoc : ∀ a b c, mul (mul a b) c = mul a (mul b c)
  dist : ∀ a b c, mul a (b ^^^ c) = mul a b ^^^ mul a c
  one : ∀ a, a < 2 ^ w → mul 1 a = a
  nzd : ∀ a b, a < 2 ^ w → b < 2 ^ w → mul a b = 0 → a = 0 ∨ b = 0
  pos : 1 ≤ w

namespace Fld
variable (F : Fld)

theorem one_lt : 1 < 2 ^ F.w := by have := Nat.pow_le_pow_right (n := 2) (by decide) F.pos; omega
theorem zero_lt : 0 < 2 ^ F.w := Nat.two_pow_pos _
theorem mul_zero (a : Nat) : F.mul a 0 = 0 := by
  have h := F.dist a 0 0
  rw [Nat.xor_self, Nat.xor_self] at h
  exact h
theorem zero_mul (a : Nat) : F.mul 0 a = 0 := by rw [F.comm, mul_zero]
theorem mul_one (a : Nat) (h : a < 2 ^ F.w) : F.mul a 1 = a := by rw [F.comm, F.one a h]
theorem dist_r (a b c : Nat) : F.mul (a ^^^ b) c = F.mul a c ^^^ F.mul b c := by rw [F.comm, F.dist, F.comm c, F.comm c]

theorem cancel {a b c : Nat} (ha : a < 2 ^ F.w) (hb : b < 2 ^ F.w) (hc : c < 2 ^ F.w) (h0 : c ≠ 0) (h : F.mul a c = F.mul b c) : a = b := by
  have h1 : F.mul (a ^^^ b) c = 0 := by rw [dist_r, h, Nat.xor_self]
  rcases F.nzd _ _ (Px.xor_lt ha hb) hc h1 with h2 | h2
  · exact Px.xor_eq_zero h2
  · exact absurd h2 h0

def pow (a : Nat) : Nat → Nat
  | 0 => 1
  | n + 1 => F.mul (pow a n) a

theorem pow_lt (a n : Nat) : F.pow a n < 2 ^ F.w := by cases n with | zero => exact F.one_lt | succ n => exact F.lt _ _
theorem pow_one (a : Nat) (h : a < 2 ^ F.w) : F.pow a 1 = a := F.one a h
theorem pow_add (a m : Nat) : ∀ n, F.pow a (m + n) = F.mul (F.pow a m) (F.pow a n)
  | 0 => by rw [Nat.add_zero]; exact (F.mul_one _ (F.pow_lt a m)).symm
  | n + 1 => by rw [← Nat.add_assoc, pow, pow_add a m n, pow, F.assoc]
theorem one_pow : ∀ n, F.pow 1 n = 1
  | 0 => rfl
  | n + 1 => by rw [pow, one_pow n]; exact F.one 1 F.one_lt
theorem pow_mul (a m : Nat) : ∀ n, F.pow (F.pow a m) n = F.pow a (m * n)
  | 0 => rfl
  | n + 1 => by rw [pow, pow_mul a m n, Nat.mul_succ, pow_add]
theorem mul_pow (a b : Nat) : ∀ n, F.pow (F.mul a b) n = F.mul (F.pow a n) (F.pow b n)
  | 0 => (F.one 1 F.one_lt).symm
  | n + 1 => by
    rw [pow, mul_pow a b n, pow, pow, F.assoc, F.assoc]
    congr 1
    rw [← F.assoc, F.comm _ a, F.assoc]
theorem zero_pow : ∀ n, n ≠ 0 → F.pow 0 n = 0
  | 0, h => absurd rfl h
  | n + 1, _ => F.mul_zero _
theorem pow_ne {a : Nat} (h : a < 2 ^ F.w) (h0 : a ≠ 0) : ∀ n, F.pow a n ≠ 0
  | 0 => Nat.one_ne_zero
  | n + 1 => fun e => by
    rcases F.nzd _ _ (F.pow_lt a n) h e with h1 | h1
    · exact pow_ne h h0 n h1
    · exact h0 h1

/-! ### Fermat -/
theorem perm_of_sub : ∀ (l1 l2 : List Nat), l1.Nodup → (∀ x ∈ l1, x ∈ l2) → l2.length ≤ l1.length → l1.Perm l2 := by
  intro l1
  induction l1 with
  | nil =>
    intro l2 _ _ h
    have : l2 = [] := List.eq_nil_of_length_eq_zero (by simpa using h)
    subst this; exact List.Perm.refl _
  | cons a t ih =>
    intro l2 hn hs hl
    have ha : a ∈ l2 := hs a (by simp)
    have h1 := List.perm_cons_erase ha
    refine List.Perm.trans (List.Perm.cons a (ih (l2.erase a) (List.nodup_cons.1 hn).2 (fun x hx => ?_) ?_)) h1.symm
    · have hne : x ≠ a := fun e => (List.nodup_cons.1 hn).1 (e ▸ hx)
      exact (List.mem_erase_of_ne hne).2 (hs x (by simp [hx]))
    · rw [List.length_erase_of_mem ha]
      simp at hl; omega

def prod (l : List Nat) : Nat := l.foldr F.mul 1

theorem prod_lt (l : List Nat) : F.prod l < 2 ^ F.w := by cases l with | nil => exact F.one_lt | cons => exact F.lt _ _

theorem prod_perm {l1 l2 : List Nat} (h : l1.Perm l2) : F.prod l1 = F.prod l2 := by
  induction h with
  | nil => rfl
  | cons a _ ih => show F.mul a _ = F.mul a _; exact congrArg _ ih
  | swap a b l => show F.mul b (F.mul a _) = F.mul a (F.mul b _); rw [← F.assoc, ← F.assoc, F.comm a b]
  | trans _ _ h1 h2 => exact h1.trans h2

theorem prod_map (a : Nat) : ∀ l : List Nat, F.prod (l.map (F.mul a)) = F.mul (F.pow a l.length) (F.prod l)
  | [] => (F.one 1 F.one_lt).symm
  | b :: r => by
    have ih := prod_map a r
    show F.mul (F.mul a b) (F.prod (r.map (F.mul a))) = F.mul (F.mul (F.pow a r.length) a) (F.mul b (F.prod r))
    rw [ih, F.assoc, F.assoc]
    rw [← F.assoc b, F.comm b, F.assoc, ← F.assoc a, F.comm a, F.assoc]

theorem prod_ne : ∀ l : List Nat, (∀ x ∈ l, x < 2 ^ F.w ∧ x ≠ 0) → F.prod l ≠ 0
  | [], _ => Nat.one_ne_zero
  | b :: r, h => fun e => by
    rcases F.nzd _ _ (h b (by simp)).1 (F.prod_lt r) e with h1 | h1
    · exact (h b (by simp)).2 h1
    · exact prod_ne r (fun x hx => h x (by simp [hx])) h1

/-- Each number but 0 to the power of how many there are is 1. -/
theorem fermat {a : Nat} (h : a < 2 ^ F.w) (h0 : a ≠ 0) : F.pow a (2 ^ F.w - 1) = 1 := by
  let L := List.range' 1 (2 ^ F.w - 1)
  have hm : ∀ x, x ∈ L ↔ x < 2 ^ F.w ∧ x ≠ 0 := by
    intro x
    have := F.one_lt
    simp only [L, List.mem_range'_1]
    omega
  have hp : (L.map (F.mul a)).Perm L := by
    refine perm_of_sub _ _ ?_ ?_ (by simp)
    · refine List.Pairwise.map (F.mul a) (R := fun x y => x ∈ L ∧ y ∈ L ∧ x ≠ y) ?_ ?_
      · rintro x y ⟨hx, hy, hne⟩ e
        rw [hm] at hx hy
        rw [F.comm a x, F.comm a y] at e
        exact hne (F.cancel hx.1 hy.1 h h0 e)
      · have hnd : L.Nodup := List.nodup_range'
        exact List.Pairwise.imp_of_mem (fun hx hy hne => ⟨hx, hy, hne⟩) hnd
    · intro x hx
      obtain ⟨y, hy, rfl⟩ := List.mem_map.1 hx
      rw [hm] at hy ⊢
      refine ⟨F.lt _ _, fun e => ?_⟩
      rcases F.nzd _ _ h hy.1 e with h1 | h1
      · exact h0 h1
      · exact hy.2 h1
  have h1 := F.prod_perm hp
  rw [F.prod_map] at h1
  have hl : L.length = 2 ^ F.w - 1 := by simp [L]
  rw [hl] at h1
  have hne := F.prod_ne L (fun x hx => (hm x).1 hx)
  refine F.cancel (F.pow_lt _ _) F.one_lt (F.prod_lt L) hne ?_
  rw [h1, F.one _ (F.prod_lt L)]

theorem pow_size {a : Nat} (h : a < 2 ^ F.w) : F.pow a (2 ^ F.w) = a := by
  have e : 2 ^ F.w = (2 ^ F.w - 1) + 1 := by have := F.one_lt; omega
  by_cases h0 : a = 0
  · subst h0; exact F.zero_pow _ (by have := F.one_lt; omega)
  · rw [e, pow, F.fermat h h0, F.one a h]

/-- The inverse. -/
def inv (a : Nat) : Nat := F.pow a (2 ^ F.w - 2)
theorem inv_lt (a : Nat) : F.inv a < 2 ^ F.w := F.pow_lt _ _
theorem mul_inv {a : Nat} (h : a < 2 ^ F.w) (h0 : a ≠ 0) : F.mul a (F.inv a) = 1 := by
  have := F.one_lt
  have h1 := F.fermat h h0
  rw [show 2 ^ F.w - 1 = (2 ^ F.w - 2) + 1 from by omega, pow, F.comm] at h1
  exact h1
theorem inv_mul {a : Nat} (h : a < 2 ^ F.w) (h0 : a ≠ 0) : F.mul (F.inv a) a = 1 := by rw [F.comm, F.mul_inv h h0]
theorem inv_ne {a : Nat} (h : a < 2 ^ F.w) (h0 : a ≠ 0) : F.inv a ≠ 0 := F.pow_ne h h0 _

/-! ### squares are additive -/
theorem sq_xor (a b : Nat) : F.mul (a ^^^ b) (a ^^^ b) = F.mul a a ^^^ F.mul b b := by
  rw [F.dist, F.dist_r, F.dist_r, F.comm b a, Px.xor_swap]
  rw [Nat.xor_assoc (F.mul a a)]
  congr 1
  rw [← Nat.xor_assoc, Nat.xor_self, Nat.zero_xor]

/-! ### roots -/
def eval : List Nat → Nat → Nat
  | [], _ => 0
  | c :: r, x => c ^^^ F.mul x (eval r x)

def quot : List Nat → Nat → List Nat
  | [], _ => []
  | _ :: r, x => match r with
    | [] => []
    | _ :: _ => F.eval r x :: quot r x

theorem eval_lt {l : List Nat} (h : ∀ c ∈ l, c < 2 ^ F.w) (x : Nat) : F.eval l x < 2 ^ F.w := by
  cases l with
  | nil => exact F.zero_lt
  | cons c r => exact Px.xor_lt (h c (by simp)) (F.lt _ _)

theorem quot_len : ∀ (l : List Nat) (x : Nat), (F.quot l x).length = l.length - 1
  | [], _ => rfl
  | [_], _ => rfl
  | _ :: b :: r, x => by
    have := quot_len (b :: r) x
    simp only [quot] at this ⊢
    simp only [List.length_cons, this]; simp

theorem quot_mem {l : List Nat} (h : ∀ c ∈ l, c < 2 ^ F.w) (x : Nat) : ∀ c ∈ F.quot l x, c < 2 ^ F.w := by
  induction l with
  | nil => intro c hc; simp [quot] at hc
  | cons a r ih =>
    cases r with
    | nil => intro c hc; simp [quot] at hc
    | cons b r =>
      intro c hc
      simp only [quot, List.mem_cons] at hc
      rcases hc with rfl | hc
      · exact F.eval_lt (fun d hd => h d (by simp only [List.mem_cons] at hd ⊢; exact .inr hd)) x
      · exact ih (fun d hd => h d (by simp only [List.mem_cons] at hd ⊢; exact .inr hd)) c hc

theorem eval_quot (r : Nat) (hr : r < 2 ^ F.w) : ∀ (l : List Nat) (x : Nat), x < 2 ^ F.w → F.eval l x ^^^ F.eval l r = F.mul (x ^^^ r) (F.eval (F.quot l r) x)
  | [], x, _ => by simp [eval, quot, F.mul_zero]
  | [c], x, _ => by simp [eval, quot, F.mul_zero]
  | c :: b :: l, x, hx => by
    have ih := eval_quot r hr (b :: l) x hx
    generalize hg : b :: l = g at *
    have hq : F.quot (c :: g) r = F.eval g r :: F.quot g r := by subst hg; rfl
    rw [hq]
    simp only [eval]
    have e1 : (c ^^^ F.mul x (F.eval g x)) ^^^ (c ^^^ F.mul r (F.eval g r)) = F.mul x (F.eval g x) ^^^ F.mul r (F.eval g r) := by
      rw [Px.xor_swap, Nat.xor_self, Nat.zero_xor]
    have e2 : F.eval g x = F.eval g r ^^^ F.mul (x ^^^ r) (F.eval (F.quot g r) x) := by rw [← ih, Nat.xor_comm (F.eval g x), Px.xor_self_cancel]
    rw [e1, e2, F.dist, F.dist, F.dist_r x r (F.eval g r)]
    rw [← F.assoc, ← F.assoc, F.comm x (x ^^^ r), Nat.xor_assoc, Nat.xor_assoc]
    congr 1
    rw [Nat.xor_comm]

theorem quot_zero {r : Nat} : ∀ (l : List Nat), (∀ c ∈ F.quot l r, c = 0) → F.eval l r = 0 → ∀ c ∈ l, c = 0
  | [], _, _ => by simp
  | [c], _, h => by
    intro d hd
    simp at hd; subst hd
    simpa [eval, F.mul_zero] using h
  | c :: b :: l, hq, h => by
    have hq1 : F.eval (b :: l) r = 0 := hq _ (by simp only [quot, List.mem_cons]; exact .inl trivial)
    have ih := quot_zero (b :: l) (fun d hd => hq d (by simp only [quot, List.mem_cons]; exact .inr hd)) hq1
    intro d hd
    rcases List.mem_cons.1 hd with rfl | hd
    · simp only [eval] at h hq1
      have h2 : F.mul r (b ^^^ F.mul r (F.eval l r)) = 0 := by rw [hq1, F.mul_zero]
      rw [h2, Nat.xor_zero] at h
      exact h
    · exact ih d hd

/-- A polynomial with as many roots as coefficients is none. -/
theorem roots : ∀ (n : Nat) (l xs : List Nat), l.length = n → n ≤ xs.length → (∀ c ∈ l, c < 2 ^ F.w) → (∀ x ∈ xs, x < 2 ^ F.w) → xs.Nodup → (∀ x ∈ xs, F.eval l x = 0) → ∀ c ∈ l, c = 0 := by
  intro n
  induction n with
  | zero =>
    intro l xs hl _ _ _ _ _
    have : l = [] := List.eq_nil_of_length_eq_zero hl
    subst this; simp
  | succ n ih =>
    intro l xs hl hn hc hx hnd hroot
    cases xs with
    | nil => simp at hn
    | cons r ys =>
      have hr := hx r (by simp)
      refine F.quot_zero l ?_ (hroot r (by simp))
      refine ih (F.quot l r) ys (by rw [F.quot_len, hl]; rfl) (by simp at hn; omega) (F.quot_mem hc r) (fun x hx' => hx x (by simp [hx'])) (List.nodup_cons.1 hnd).2 (fun y hy => ?_)
      have h1 := F.eval_quot r hr l y (hx y (by simp [hy]))
      rw [hroot y (by simp [hy]), hroot r (by simp), Nat.xor_self] at h1
      rcases F.nzd _ _ (Px.xor_lt (hx y (by simp [hy])) hr) (F.eval_lt (F.quot_mem hc r) y) h1.symm with h2 | h2
      · have := Px.xor_eq_zero h2
        subst this
        exact absurd hy (List.nodup_cons.1 hnd).1
      · exact h2

theorem eval_zeros (k : Nat) (l : List Nat) (x : Nat) (hx : x < 2 ^ F.w) (hl : ∀ c ∈ l, c < 2 ^ F.w) : F.eval (List.replicate k 0 ++ l) x = F.mul (F.pow x k) (F.eval l x) := by
  induction k with
  | zero => simp only [List.replicate_zero, List.nil_append, pow]; exact (F.one _ (F.eval_lt hl x)).symm
  | succ k ih =>
    rw [List.replicate_succ, List.cons_append, eval, ih, Nat.zero_xor, pow, ← F.assoc, F.comm x]

end Fld
end Go.Gam
