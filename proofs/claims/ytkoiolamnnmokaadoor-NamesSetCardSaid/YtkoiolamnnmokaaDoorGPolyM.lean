/- Irreducible and primitive polynomials over two elements: the code's tests and the document's agree. No program in sight. -/
import Derived.Test.YtkoiolamnnmokaaDoorGFld
import Derived.Test.YtkoiolamnnmokaaDoorGPolyW
set_option linter.unusedVariables false
set_option linter.unusedSimpArgs false
namespace Go.Gam
open Px

/-- Irreducible: each divisor is 1 or of the same degree. -/
def Irr (p : Nat) : Prop := 2 ≤ p ∧ ∀ q, 2 ≤ q → Dvd q p → Nat.log2 q = Nat.log2 p

theorem log2_pos {p : Nat} (h : 2 ≤ p) : 1 ≤ Nat.log2 p := by
  rcases Nat.eq_zero_or_pos (Nat.log2 p) with h0 | h0
  · have := (hb_log (show p ≠ 0 by omega)).2
    rw [h0] at this; omega
  · exact h0

theorem dvd_refl (p : Nat) : Dvd p p := ⟨1, (one_mul p).symm⟩
theorem dvd_trans {a b c : Nat} (h : Dvd a b) (k : Dvd b c) : Dvd a c := by
  obtain ⟨x, rfl⟩ := h
  obtain ⟨y, rfl⟩ := k
  exact ⟨mul y x, by rw [mul_assoc]⟩
theorem dvd_xor {a b c : Nat} (h : Dvd a b) (k : Dvd a c) : Dvd a (b ^^^ c) := by
  obtain ⟨x, rfl⟩ := h
  obtain ⟨y, rfl⟩ := k
  exact ⟨x ^^^ y, by rw [xor_mul]⟩
theorem dvd_mul (a b : Nat) {c : Nat} (h : Dvd c b) : Dvd c (mul a b) := by
  obtain ⟨x, rfl⟩ := h
  exact ⟨mul a x, by rw [mul_assoc]⟩
theorem dvd_log {a b : Nat} (h : Dvd a b) (hb' : b ≠ 0) : a ≠ 0 ∧ Nat.log2 a ≤ Nat.log2 b := by
  obtain ⟨x, rfl⟩ := h
  have ha : a ≠ 0 := by rintro rfl; exact hb' (mul_zero _)
  have hx : x ≠ 0 := by rintro rfl; exact hb' (zero_mul _)
  exact ⟨ha, by rw [log2_mul hx ha]; omega⟩
theorem dvd_one {a : Nat} (h : Dvd a 1) : a = 1 := by
  have h1 := dvd_log h (by decide)
  have h2 := (hb_log h1.1).2
  have : Nat.log2 1 = 0 := by decide
  have e : Nat.log2 a = 0 := by omega
  rw [e] at h2; omega

theorem mod_mod_dvd {q p : Nat} (a : Nat) (hp : p ≠ 0) (h : Dvd q p) : mod (mod a p) q = mod a q := by
  obtain ⟨x, rfl⟩ := h
  obtain ⟨_, y, e⟩ := mod_spec a _ hp
  conv => rhs; rw [e]
  rw [xor_mod, ← mul_assoc, mod_mul_self, Nat.zero_xor]

theorem gcd_dvd : ∀ (b a : Nat), Dvd (gcd a b) a ∧ Dvd (gcd a b) b := by
  intro b
  induction b using Nat.strongRecOn with
  | _ b ih =>
    intro a
    by_cases hb' : b = 0
    · subst hb'; rw [gcd_zero]; exact ⟨dvd_refl a, 0, (zero_mul a).symm⟩
    · rw [gcd_step a hb']
      obtain ⟨h1, h2⟩ := ih (mod a b) (mod_lt_self a hb') b
      refine ⟨?_, h1⟩
      obtain ⟨_, q, e⟩ := mod_spec a b hb'
      have h3 := dvd_xor (dvd_mul q b h1) h2
      rw [← e] at h3
      exact h3

theorem dvd_gcd {d : Nat} : ∀ (b a : Nat), Dvd d a → Dvd d b → Dvd d (gcd a b) := by
  intro b
  induction b using Nat.strongRecOn with
  | _ b ih =>
    intro a ha hb'
    by_cases h0 : b = 0
    · subst h0; rw [gcd_zero]; exact ha
    · rw [gcd_step a h0]
      refine ih _ (mod_lt_self a h0) b hb' ?_
      obtain ⟨_, q, e⟩ := mod_spec a b h0
      have h3 : mod a b = a ^^^ mul q b := by
        conv => rhs; lhs; rw [e]
        rw [Nat.xor_comm (mul q b), Nat.xor_assoc, Nat.xor_self, Nat.xor_zero]
      rw [h3]
      exact dvd_xor ha (dvd_mul q b hb')

/-- Modulo an irreducible one no product is 0 by chance. -/
theorem irr_nzd {p : Nat} (hp : Irr p) : ∀ (a b : Nat), a < 2 ^ Nat.log2 p → b < 2 ^ Nat.log2 p → mulMod a b p = 0 → a = 0 ∨ b = 0 := by
  have hp0 : p ≠ 0 := by have := hp.1; omega
  intro a
  induction a using Nat.strongRecOn with
  | _ a ih =>
    intro b ha hb' h
    by_cases ha0 : a = 0
    · exact .inl ha0
    by_cases ha1 : a = 1
    · subst ha1
      rw [mulMod_comm, mulMod_one hp0 hb'] at h
      exact .inr h
    have hr := mod_lt_self p ha0
    obtain ⟨hlt, q, e⟩ := mod_spec p a ha0
    have h1 : mulMod (mod p a) b p = 0 := by
      have e2 : mod p a = p ^^^ mul q a := by
        conv => rhs; lhs; rw [e]
        rw [Nat.xor_comm (mul q a), Nat.xor_assoc, Nat.xor_self, Nat.xor_zero]
      unfold mulMod at h ⊢
      rw [e2, xor_mul, xor_mod, mul_comm p b, mod_mul_self, Nat.zero_xor, mul_assoc, ← mod_mul_right, h, mul_zero, zero_mod]
    rcases ih _ hr b (by omega) hb' h1 with h2 | h2
    · have hd : Dvd a p := (mod_eq_zero ha0).1 h2
      have h3 := hp.2 a (by omega) hd
      have h4 := (hb_log ha0).1
      rw [h3] at h4; omega
    · exact .inr h2

/-- The field modulo an irreducible polynomial. -/
def irrFld (p : Nat) (hp : Irr p) : Fld where
  w := Nat.log2 p
  mul := fun a b => mulMod a b p
  lt := fun a b => mulMod_lt a b (by have := hp.1; omega)
  comm := fun a b => mulMod_comm a b p
  assoc := fun a b c => mulMod_assoc a b c p
  dist := fun a b c => mulMod_xor a b c p
  one := fun a h => by rw [mulMod_comm]; exact mulMod_one (by have := hp.1; omega) h
  nzd := irr_nzd hp
  pos := log2_pos hp.1

theorem fld_pow (p : Nat) (hp : Irr p) (a : Nat) : ∀ n, (irrFld p hp).pow a n = Px.pow a p n
  | 0 => by
    show 1 = mod 1 p
    exact (mod_small (by have := hp.1; omega) ((irrFld p hp).one_lt)).symm
  | n + 1 => by
    show mulMod ((irrFld p hp).pow a n) a p = mulMod (Px.pow a p n) a p
    rw [fld_pow p hp a n]

/-! ### powers -/
theorem pow_mod (a p : Nat) : ∀ n, mod (Px.pow a p n) p = Px.pow a p n
  | 0 => mod_mod 1 p
  | n + 1 => mod_mod _ p

theorem pow_base (a p : Nat) : ∀ n, Px.pow (mod a p) p n = Px.pow a p n
  | 0 => rfl
  | n + 1 => by
    show mulMod (Px.pow (mod a p) p n) (mod a p) p = mulMod (Px.pow a p n) a p
    rw [pow_base a p n]
    unfold mulMod; rw [mod_mul_right]

theorem mulMod_modr (a b p : Nat) : mulMod a (mod b p) p = mulMod a b p := by unfold mulMod; rw [mod_mul_right]
theorem mulMod_modl (a b p : Nat) : mulMod (mod a p) b p = mulMod a b p := by unfold mulMod; rw [mod_mul_left]

theorem pow_add (a p m : Nat) : ∀ n, Px.pow a p (m + n) = mulMod (Px.pow a p m) (Px.pow a p n) p
  | 0 => by
    show Px.pow a p m = mulMod (Px.pow a p m) (mod 1 p) p
    rw [mulMod_modr]; unfold mulMod; rw [mul_one, pow_mod]
  | n + 1 => by
    show mulMod (Px.pow a p (m + n)) a p = mulMod (Px.pow a p m) (mulMod (Px.pow a p n) a p) p
    rw [pow_add a p m n, mulMod_assoc]

theorem pow_sq (a p : Nat) : ∀ n, Px.pow (mulMod a a p) p n = Px.pow a p (2 * n)
  | 0 => rfl
  | n + 1 => by
    show mulMod (Px.pow (mulMod a a p) p n) (mulMod a a p) p = Px.pow a p (2 * n + 2)
    rw [pow_sq a p n, ← mulMod_assoc]
    rfl

/-- The loop of powers by squares is one factor behind the other. -/
theorem powB_eq (p : Nat) : ∀ (n a o : Nat), powB a p (mod o p) n = mulMod o (Px.pow a p n) p := by
  intro n
  induction n using Nat.strongRecOn with
  | _ n ih =>
    intro a o
    by_cases h0 : n = 0
    · subst h0
      rw [powB_zero]
      show mod o p = mulMod o (mod 1 p) p
      rw [mulMod_modr]; unfold mulMod; rw [mul_one]
    · by_cases h1 : n % 2 = 1
      · rw [powB_odd _ _ _ h1, mulMod_modl]
        unfold mulMod
        rw [ih (n / 2) (by omega)]
        show mulMod (mul o a) (Px.pow (mulMod a a p) p (n / 2)) p = mulMod o (Px.pow a p n) p
        rw [pow_sq]
        have e : n = 2 * (n / 2) + 1 := by omega
        conv => rhs; rw [e]
        show _ = mulMod o (mulMod (Px.pow a p (2 * (n / 2))) a p) p
        unfold mulMod
        rw [mod_mul_right, mul_assoc, mul_comm a]
      · rw [powB_even _ _ _ h0 h1, ih (n / 2) (by omega), pow_sq]
        congr 2; omega

theorem powB_one (a p n : Nat) : powB a p (mod 1 p) n = Px.pow a p n := by
  rw [powB_eq]; unfold mulMod; rw [one_mul, pow_mod]

theorem frob_pow (p : Nat) : ∀ (n a : Nat), mod a p = a → frob p n a = Px.pow a p (2 ^ n)
  | 0, a, h => by
    show a = mulMod (mod 1 p) a p
    rw [mulMod_modl]; unfold mulMod; rw [one_mul, h]
  | n + 1, a, h => by
    rw [frob, frob_pow p n (mulMod a a p) (mod_mod _ p), pow_sq, Nat.pow_succ, Nat.mul_comm]

theorem frob_dvd {q p : Nat} (hp : p ≠ 0) (h : Dvd q p) : ∀ n a b, mod a q = b → mod (frob p n a) q = frob q n b := by
  intro n
  induction n with
  | zero => intro a b hab; exact hab
  | succ n ih =>
    intro a b hab
    refine ih _ _ ?_
    subst hab
    unfold mulMod
    rw [mod_mod_dvd _ hp h, mod_mul_left, mod_mul_right]

/-! ### the tests of irreducible polynomials -/
theorem not_irr {p : Nat} (h2 : 2 ≤ p) (h : ¬ Irr p) : ∃ q, Irr q ∧ Dvd q p ∧ 1 ≤ Nat.log2 q ∧ Nat.log2 q ≤ Nat.log2 p / 2 := by
  have hp0 : p ≠ 0 := by omega
  have hex : ∃ q, 2 ≤ q ∧ Dvd q p ∧ Nat.log2 q < Nat.log2 p := by
    apply Classical.byContradiction
    intro hno
    refine h ⟨h2, fun q hq hd => ?_⟩
    have h1 := (dvd_log hd hp0).2
    apply Classical.byContradiction
    intro hne
    exact hno ⟨q, hq, hd, by omega⟩
  -- the least one
  obtain ⟨q, ⟨hq2, hqd, hql⟩, hmin⟩ : ∃ q, (2 ≤ q ∧ Dvd q p ∧ Nat.log2 q < Nat.log2 p) ∧ ∀ r, r < q → ¬ (2 ≤ r ∧ Dvd r p ∧ Nat.log2 r < Nat.log2 p) := by
    obtain ⟨q, hq⟩ := hex
    induction q using Nat.strongRecOn with
    | _ q ih =>
      by_cases hm : ∀ r, r < q → ¬ (2 ≤ r ∧ Dvd r p ∧ Nat.log2 r < Nat.log2 p)
      · exact ⟨q, hq, hm⟩
      · have hm' := Classical.not_forall.1 hm
        obtain ⟨r, hr⟩ := hm'
        have hr' := Classical.not_imp.1 hr
        exact ih r hr'.1 (Classical.not_not.1 hr'.2)
  have hq0 : q ≠ 0 := by omega
  have hl1 := log2_pos hq2
  refine ⟨q, ⟨hq2, fun r hr hd => ?_⟩, hqd, hl1, ?_⟩
  · have h1 := (dvd_log hd hq0).2
    apply Classical.byContradiction
    intro hne
    have h3 : r < q := by
      have := (hb_log (show r ≠ 0 by omega)).2
      have h4 := (hb_log hq0).1
      have : 2 ^ (Nat.log2 r + 1) ≤ 2 ^ Nat.log2 q := Nat.pow_le_pow_right (by decide) (by omega)
      omega
    exact hmin r h3 ⟨hr, dvd_trans hd hqd, by omega⟩
  · obtain ⟨r, hr⟩ := hqd
    have hr0 : r ≠ 0 := by rintro rfl; rw [zero_mul] at hr; exact hp0 hr
    have hlog : Nat.log2 p = Nat.log2 r + Nat.log2 q := by rw [hr]; exact log2_mul hr0 hq0
    have hr2 : 2 ≤ r := by
      have := (hb_log hr0).1
      have h5 : 2 ^ 1 ≤ 2 ^ Nat.log2 r := Nat.pow_le_pow_right (by decide) (by omega)
      omega
    have hle : q ≤ r := by
      rcases Nat.lt_or_ge r q with h6 | h6
      · exact absurd ⟨hr2, ⟨q, by rw [hr, mul_comm]⟩, by omega⟩ (hmin r h6)
      · exact h6
    have h7 : Nat.log2 q ≤ Nat.log2 r := by
      rcases Nat.lt_or_ge (Nat.log2 r) (Nat.log2 q) with h8 | h8
      · have h9 := (hb_log hr0).2
        have := (hb_log hq0).1
        have : 2 ^ (Nat.log2 r + 1) ≤ 2 ^ Nat.log2 q := Nat.pow_le_pow_right (by decide) h8
        omega
      · exact h8
    omega

theorem irrR_iff {p : Nat} (hr : 2 ≤ p ∧ p < 131072) : irrR p = true ↔ Irr p := by
  have hp0 : p ≠ 0 := by omega
  constructor
  · intro h
    apply Classical.byContradiction
    intro hno
    obtain ⟨q, hq, hd, h1, h2⟩ := not_irr hr.1 hno
    have hq2 := hq.1
    have hlt : q < 2 ^ (Nat.log2 p / 2 + 1) := Nat.lt_of_lt_of_le (hb_log (show q ≠ 0 by omega)).2 (Nat.pow_le_pow_right (by decide) (by omega))
    have hf := irrR_f (p := p) (q - 2) (by omega) (by rw [show q - 2 + 2 = q from by omega]; exact (mod_eq_zero (by omega)).2 hd)
    rw [h] at hf; cases hf
  · intro h
    refine irrR_t hr fun i hi he => ?_
    have hd := (mod_eq_zero (show i + 2 ≠ 0 by omega)).1 he
    have h1 := h.2 (i + 2) (by omega) hd
    have h2 := log2_lt (show i + 2 ≠ 0 by omega) hi
    have := log2_pos hr.1
    omega

theorem x_lt {p : Nat} (h : 2 ≤ Nat.log2 p) : mod 2 p = 2 := by
  have hp0 : p ≠ 0 := by rintro rfl; simp at h
  have h1 : 2 ^ 2 ≤ 2 ^ Nat.log2 p := Nat.pow_le_pow_right (by decide) h
  exact mod_small hp0 (by omega)

/-- Squared i times x is not x, if i is less than the degree. -/
theorem frob_ne {p : Nat} (hp : Irr p) {i : Nat} (h1 : 1 ≤ i) (h2 : i < Nat.log2 p) : frob p i (mod 2 p) ≠ mod 2 p := by
  intro he
  have hp0 : p ≠ 0 := by have := hp.1; omega
  let F := irrFld p hp
  have hF : ∀ a n, F.pow a n = Px.pow a p n := fld_pow p hp
  rw [frob_pow p i _ (mod_mod 2 p), ← hF] at he
  -- so is each number
  have add : ∀ (n a b : Nat), F.pow (a ^^^ b) (2 ^ n) = F.pow a (2 ^ n) ^^^ F.pow b (2 ^ n) ∨ ¬ (a < 2 ^ F.w ∧ b < 2 ^ F.w) := by
    intro n
    induction n with
    | zero =>
      intro a b
      by_cases hab : a < 2 ^ F.w ∧ b < 2 ^ F.w
      · left
        show F.pow (a ^^^ b) 1 = F.pow a 1 ^^^ F.pow b 1
        rw [F.pow_one _ (xor_lt hab.1 hab.2), F.pow_one _ hab.1, F.pow_one _ hab.2]
      · exact .inr hab
    | succ n ih =>
      intro a b
      by_cases hab : a < 2 ^ F.w ∧ b < 2 ^ F.w
      · left
        have e : ∀ c, F.pow c (2 ^ (n + 1)) = F.mul (F.pow c (2 ^ n)) (F.pow c (2 ^ n)) := by
          intro c; rw [Nat.pow_succ, Nat.mul_two, F.pow_add]
        rw [e, e, e, (ih a b).resolve_right (fun h => h hab), F.sq_xor]
      · exact .inr hab
  have fix : ∀ y, F.pow (mod y p) (2 ^ i) = mod y p := by
    intro y
    induction y using bit_ind with
    | h0 => rw [zero_mod]; exact F.zero_pow _ (by have := Nat.two_pow_pos i; omega)
    | h b c hc ih =>
      have hm2 : mod (2 * b) p = F.mul (mod 2 p) (mod b p) := by
        show mod (2 * b) p = mulMod (mod 2 p) (mod b p) p
        unfold mulMod
        rw [mod_mul_left, mod_mul_right, mul_comm, mul_two]
      have hcc : F.pow (mod c p) (2 ^ i) = mod c p := by
        have : c = 0 ∨ c = 1 := by omega
        rcases this with rfl | rfl
        · rw [zero_mod]; exact F.zero_pow _ (by have := Nat.two_pow_pos i; omega)
        · have e1 : mod 1 p = 1 := mod_small hp0 F.one_lt
          rw [e1]; exact F.one_pow _
      rw [two_add_xor b c hc, xor_mod, (add i _ _).resolve_right (fun h => h ⟨mod_lt _ hp0, mod_lt _ hp0⟩), hcc, hm2, F.mul_pow, he, ih]
  -- too many roots
  have hge : 2 ≤ 2 ^ i := by
    have : 2 ^ 1 ≤ 2 ^ i := Nat.pow_le_pow_right (by decide) h1
    exact this
  let l : List Nat := 0 :: 1 :: (List.replicate (2 ^ i - 2) 0 ++ [1])
  have hl1 : ∀ c ∈ l, c < 2 ^ F.w := by
    intro c hc
    have := F.one_lt
    simp only [l, List.mem_cons, List.mem_append, List.mem_replicate, List.not_mem_nil, or_false] at hc
    rcases hc with rfl | rfl | ⟨_, rfl⟩ | rfl <;> omega
  have hev : ∀ x, x < 2 ^ F.w → F.eval l x = x ^^^ F.pow x (2 ^ i) := by
    intro x hx
    have h1' : ∀ c ∈ [1], c < 2 ^ F.w := by intro c hc; simp at hc; subst hc; exact F.one_lt
    show 0 ^^^ F.mul x (1 ^^^ F.mul x (F.eval (List.replicate (2 ^ i - 2) 0 ++ [1]) x)) = _
    rw [F.eval_zeros _ _ x hx h1', Nat.zero_xor, F.dist, F.mul_one x hx]
    congr 1
    have e1 : F.eval [1] x = 1 := by show 1 ^^^ F.mul x 0 = 1; rw [F.mul_zero]; rfl
    rw [e1, F.mul_one _ (F.pow_lt _ _), F.comm x, F.comm x]
    have e2 : 2 ^ i = 2 ^ i - 2 + 1 + 1 := by omega
    conv => rhs; rw [e2]
    rfl
  have hpow : 2 ^ i < 2 ^ F.w := Nat.pow_lt_pow_right (by decide) h2
  have hroots := F.roots l.length l (List.range (2 ^ F.w)) rfl (by simp [l]; omega) hl1 (fun x hx => by simpa using hx) List.nodup_range (fun x hx => by
    have hx' : x < 2 ^ F.w := by simpa using hx
    have h5 := fix x
    rw [mod_small hp0 hx'] at h5
    rw [hev x hx', h5, Nat.xor_self])
  have := hroots 1 (by simp [l])
  omega

theorem irr_iff {p : Nat} (hr : 2 ≤ p ∧ p < 131072) : irr p = true ↔ Irr p := by
  have hp0 : p ≠ 0 := by omega
  constructor
  · intro h
    apply Classical.byContradiction
    intro hno
    obtain ⟨q, hq, hd, h1, h2⟩ := not_irr hr.1 hno
    unfold irr at h
    simp only [Bool.and_eq_true, List.all_eq_true, List.mem_range, beq_iff_eq] at h
    have hg := h.2 (Nat.log2 q - 1) (by omega)
    rw [show Nat.log2 q - 1 + 1 = Nat.log2 q from by omega] at hg
    have hq0 : q ≠ 0 := by have := hq.1; omega
    have h3 : Dvd q (frob p (Nat.log2 q) (mod 2 p) ^^^ 2) := by
      refine (mod_eq_zero hq0).1 ?_
      rw [xor_mod, frob_dvd hp0 hd (Nat.log2 q) (mod 2 p) (mod 2 q) (mod_mod_dvd 2 hp0 hd), frob_pow q _ _ (mod_mod 2 q), ← fld_pow q hq]
      have hsz : (irrFld q hq).pow (mod 2 q) (2 ^ Nat.log2 q) = mod 2 q := (irrFld q hq).pow_size (mod_lt 2 hq0)
      rw [hsz, Nat.xor_self]
    have h4 := dvd_gcd _ _ hd h3
    rw [hg] at h4
    have := dvd_one h4
    have := hq.1
    omega
  · intro h
    refine irr_t hr ?_ fun j hj => ?_
    · rw [frob_pow p _ _ (mod_mod 2 p), ← fld_pow p h]
      exact (irrFld p h).pow_size (mod_lt 2 hp0)
    · have hl2 : 2 ≤ Nat.log2 p := by omega
      have hne := frob_ne h (i := j + 1) (by omega) (by omega)
      rw [x_lt hl2] at hne ⊢
      have h22 : 2 ^ 2 ≤ 2 ^ Nat.log2 p := Nat.pow_le_pow_right (by decide) hl2
      have hlt : frob p (j + 1) 2 < 2 ^ Nat.log2 p := by rw [frob_succ]; exact mulMod_lt _ _ hp0
      have hg0 : frob p (j + 1) 2 ^^^ 2 ≠ 0 := fun e => hne (xor_eq_zero e)
      obtain ⟨hd1, hd2⟩ := gcd_dvd (frob p (j + 1) 2 ^^^ 2) p
      generalize gcd p (frob p (j + 1) 2 ^^^ 2) = g at *
      have hg := dvd_log hd1 hp0
      have hg2 := (dvd_log hd2 hg0).2
      have hlg : Nat.log2 (frob p (j + 1) 2 ^^^ 2) < Nat.log2 p := log2_lt hg0 (xor_lt hlt (by omega))
      apply Classical.byContradiction
      intro hne1
      have := h.2 g (by omega) hd1
      omega

theorem irr_same (p : Nat) : irr p = irrR p := by
  by_cases hr : 2 ≤ p ∧ p < 131072
  · have h := (irr_iff hr).trans (irrR_iff hr).symm
    cases h1 : irr p <;> cases h2 : irrR p <;> simp_all
  · rw [irr_out hr, irrR_out hr]

/-! ### primitive polynomials -/
open Classical in
/-- What the code asks: no power by a divisor of their number is 1. -/
noncomputable def prim (p : Nat) : Bool := decide (irr p = true ∧ mod 2 p ≠ 0 ∧ ∀ q, 2 ≤ q → q ∣ 2 ^ Nat.log2 p - 1 → Px.pow 2 p ((2 ^ Nat.log2 p - 1) / q) ≠ 1)
open Classical in
/-- What the document asks: the powers of x come back to 1 behind all others alone. -/
noncomputable def primR (p : Nat) : Bool := decide (irrR p = true ∧ Px.pow 2 p (2 ^ Nat.log2 p - 1) = 1 ∧ ∀ k, 1 ≤ k → k < 2 ^ Nat.log2 p - 1 → Px.pow 2 p k ≠ 1)

theorem irr_Irr {p : Nat} (h : irr p = true) : Irr p := by
  by_cases hr : 2 ≤ p ∧ p < 131072
  · exact (irr_iff hr).1 h
  · rw [irr_out hr] at h; cases h
theorem irr_range {p : Nat} (h : irr p = true) : 2 ≤ p ∧ p < 131072 := by
  by_cases hr : 2 ≤ p ∧ p < 131072
  · exact hr
  · rw [irr_out hr] at h; cases h

/-- The least power that is 1 divides each one that is. -/
theorem order_dvd (F : Fld) {a n k : Nat} (hn : 1 ≤ n) (h1 : F.pow a n = 1) (hmin : ∀ m, 1 ≤ m → m < n → F.pow a m ≠ 1) (hk : F.pow a k = 1) : n ∣ k := by
  have e := Nat.div_add_mod k n
  have h2 : F.pow a (k % n) = 1 := by
    rw [← e, F.pow_add, ← F.pow_mul, h1, F.one_pow, F.one _ (F.pow_lt _ _)] at hk
    exact hk
  apply Nat.dvd_of_mod_eq_zero
  apply Classical.byContradiction
  intro hne
  exact hmin (k % n) (by omega) (Nat.mod_lt _ hn) h2

theorem order_least (F : Fld) {a k : Nat} (hk : 1 ≤ k) (h : F.pow a k = 1) : ∃ n, 1 ≤ n ∧ n ≤ k ∧ F.pow a n = 1 ∧ ∀ m, 1 ≤ m → m < n → F.pow a m ≠ 1 := by
  induction k using Nat.strongRecOn with
  | _ k ih =>
    by_cases hm : ∀ m, 1 ≤ m → m < k → F.pow a m ≠ 1
    · exact ⟨k, hk, Nat.le_refl _, h, hm⟩
    · obtain ⟨m, hm⟩ := Classical.not_forall.1 hm
      obtain ⟨h1, hm⟩ := Classical.not_imp.1 hm
      obtain ⟨h2, hm⟩ := Classical.not_imp.1 hm
      obtain ⟨n, a1, a2, a3⟩ := ih m h2 h1 (Classical.not_not.1 hm)
      exact ⟨n, a1, by omega, a3⟩

theorem pow_x {p : Nat} (hp : Irr p) (n : Nat) : Px.pow 2 p n = (irrFld p hp).pow (mod 2 p) n := by rw [fld_pow, pow_base]

open Classical in
theorem prim_same (p : Nat) : prim p = primR p := by
  have key : (irr p = true ∧ mod 2 p ≠ 0 ∧ ∀ q, 2 ≤ q → q ∣ 2 ^ Nat.log2 p - 1 → Px.pow 2 p ((2 ^ Nat.log2 p - 1) / q) ≠ 1) ↔
      (irrR p = true ∧ Px.pow 2 p (2 ^ Nat.log2 p - 1) = 1 ∧ ∀ k, 1 ≤ k → k < 2 ^ Nat.log2 p - 1 → Px.pow 2 p k ≠ 1) := by
    rw [← irr_same]
    constructor
    · rintro ⟨h1, h2, h3⟩
      have hp := irr_Irr h1
      have hlt : mod 2 p < 2 ^ Nat.log2 p := mod_lt 2 (by have := hp.1; omega)
      have hf : (irrFld p hp).pow (mod 2 p) (2 ^ Nat.log2 p - 1) = 1 := (irrFld p hp).fermat hlt h2
      refine ⟨h1, by rw [pow_x hp]; exact hf, fun k hk1 hk2 hk => ?_⟩
      rw [pow_x hp] at hk
      obtain ⟨n, n1, n2, n3, n4⟩ := order_least _ hk1 hk
      obtain ⟨q, hq⟩ := order_dvd _ n1 n3 n4 hf
      have hq2 : 2 ≤ q := by
        rcases Nat.lt_or_ge q 2 with h | h
        · have : q = 0 ∨ q = 1 := by omega
          rcases this with rfl | rfl <;> simp at hq <;> omega
        · exact h
      refine h3 q hq2 ⟨n, by rw [hq, Nat.mul_comm]⟩ ?_
      rw [hq, Nat.mul_div_cancel _ (by omega), pow_x hp]
      exact n3
    · rintro ⟨h1, h2, h3⟩
      have hp := irr_Irr h1
      have hl := Nat.pow_le_pow_right (n := 2) (by decide) (log2_pos hp.1)
      refine ⟨h1, fun e => ?_, fun q hq hd he => ?_⟩
      · rw [pow_x hp, e] at h2
        by_cases hN : 2 ^ Nat.log2 p - 1 = 0
        · omega
        · rw [Fld.zero_pow _ _ hN] at h2; cases h2
      · obtain ⟨n, hn⟩ := hd
        rw [hn, Nat.mul_div_cancel_left _ (by omega)] at he
        have hn0 : n ≠ 0 := by rintro rfl; simp at hn; omega
        have : 2 * n ≤ q * n := Nat.mul_le_mul_right n hq
        exact h3 n (by omega) (by omega) he
  unfold prim primR
  rw [Bool.eq_iff_iff, decide_eq_true_iff, decide_eq_true_iff]
  exact key

open Classical in
/-- What the list of divisors must be good for. -/
theorem prim_list {p : Nat} {l : List Nat} (h1 : irr p = true) (h2 : mod 2 p ≠ 0) (hd : ∀ q ∈ l, 2 ≤ q ∧ q ∣ 2 ^ Nat.log2 p - 1) (hall : ∀ m, 2 ≤ m → m ∣ 2 ^ Nat.log2 p - 1 → ∃ q ∈ l, q ∣ m)
    (hne : ∀ q ∈ l, Px.pow 2 p ((2 ^ Nat.log2 p - 1) / q) ≠ 1) : prim p = true := by
  unfold prim
  rw [decide_eq_true_eq]
  refine ⟨h1, h2, fun q hq hqd he => ?_⟩
  have hp := irr_Irr h1
  obtain ⟨r, hr, c, rfl⟩ := hall q hq hqd
  obtain ⟨n, hn⟩ := hqd
  refine hne r hr ?_
  have hr0 := (hd r hr).1
  have hc0 : c ≠ 0 := by rintro rfl; simp at hq
  rw [hn, Nat.mul_div_cancel_left _ (by have := Nat.mul_pos (show 0 < r by omega) (show 0 < c by omega); omega), pow_x hp] at he
  rw [hn, Nat.mul_assoc, Nat.mul_div_cancel_left _ (by omega), pow_x hp, Nat.mul_comm, ← Fld.pow_mul, he, Fld.one_pow]

theorem prim_f1 {p : Nat} (h : irr p = false) : prim p = false := by unfold prim; simp [h]
theorem prim_f2 {p : Nat} (h : mod 2 p = 0) : prim p = false := by unfold prim; simp [h]
open Classical in
theorem prim_f3 {p q : Nat} (hq : 2 ≤ q) (hd : q ∣ 2 ^ Nat.log2 p - 1) (h : Px.pow 2 p ((2 ^ Nat.log2 p - 1) / q) = 1) : prim p = false := by
  unfold prim
  rw [decide_eq_false_iff_not]
  rintro ⟨_, _, h3⟩
  exact h3 q hq hd h


/-! ### the loop of the divisors -/
/-- What holds at a round's head: n is what is left of M, q what is tried. -/
structure DivAt (M n q : Nat) (l : List Nat) : Prop where
  pos : 1 ≤ n
  le : n ≤ M
  dv : n ∣ M
  two : 2 ≤ q
  no : ∀ d, 2 ≤ d → d < q → ¬ d ∣ n
  mem : ∀ r ∈ l, 2 ≤ r ∧ r ∣ M
  all : ∀ m, 2 ≤ m → m ∣ M → (∃ r ∈ l, r ∣ m) ∨ m ∣ n
  len : l.length + 2 ≤ q

theorem divAt_start {M : Nat} (h : 1 ≤ M) : DivAt M M 2 [] :=
  ⟨h, Nat.le_refl _, Nat.dvd_refl _, Nat.le_refl _, fun d h1 h2 => by omega, fun r hr => by simp at hr, fun m _ h => .inr h, by simp⟩

theorem divAt_le {M n q : Nat} {l : List Nat} (h : DivAt M n q l) (hn : 1 < n) : q ≤ n := by
  rcases Nat.lt_or_ge n q with h1 | h1
  · exact absurd (Nat.dvd_refl n) (h.no n (by omega) h1)
  · exact h1

theorem divAt_skip {M n q : Nat} {l : List Nat} (h : DivAt M n q l) (hq : ¬ q ∣ n) : DivAt M n (q + 1) l :=
  ⟨h.pos, h.le, h.dv, by have := h.two; omega, fun d h1 h2 => by
    by_cases e : d = q
    · subst e; exact hq
    · exact h.no d h1 (by omega), h.mem, h.all, by have := h.len; omega⟩

/-- q is found: it is laid to the list, and then divided out. -/
structure DivOut (M n q : Nat) (l : List Nat) : Prop where
  pos : 1 ≤ n
  le : n ≤ M
  dv : n ∣ M
  two : 2 ≤ q
  no : ∀ d, 2 ≤ d → d < q → ¬ d ∣ n
  mem : ∀ r ∈ l, 2 ≤ r ∧ r ∣ M
  all : ∀ m, 2 ≤ m → m ∣ M → (∃ r ∈ l, r ∣ m) ∨ m ∣ n
  len : l.length + 2 ≤ q + 1
  inn : q ∣ n → q ∈ l

theorem divAt_found {M n q : Nat} {l : List Nat} (h : DivAt M n q l) (hq : q ∣ n) : DivOut M n q (l ++ [q]) :=
  ⟨h.pos, h.le, h.dv, h.two, h.no, fun r hr => by
    rcases List.mem_append.1 hr with h1 | h1
    · exact h.mem r h1
    · simp at h1; subst h1; exact ⟨h.two, Nat.dvd_trans hq h.dv⟩, fun m h1 h2 => (h.all m h1 h2).imp (fun ⟨r, a, b⟩ => ⟨r, by simp [a], b⟩) id, by have := h.len; simp; omega, fun _ => by simp⟩

theorem divAt_none {M n q : Nat} {l : List Nat} (h : DivAt M n q l) (hq : ¬ q ∣ n) : DivOut M n q l :=
  ⟨h.pos, h.le, h.dv, h.two, h.no, h.mem, h.all, by have := h.len; omega, fun h1 => absurd h1 hq⟩

theorem divOut_step {M n q : Nat} {l : List Nat} (h : DivOut M n q l) (hq : q ∣ n) : DivOut M (n / q) q l ∧ n / q < n := by
  have h2 := h.two
  have hp := h.pos
  have hmul := Nat.div_mul_cancel hq
  have hlt : n / q < n := Nat.div_lt_self (by omega) (by omega)
  have hpos : 1 ≤ n / q := Nat.div_pos (Nat.le_of_dvd (by omega) hq) (by omega)
  have hdv : n / q ∣ n := ⟨q, hmul.symm⟩
  refine ⟨⟨hpos, by have := h.le; omega, Nat.dvd_trans hdv h.dv, h2, fun d h3 h4 h5 => h.no d h3 h4 (Nat.dvd_trans h5 hdv), h.mem, fun m h3 h4 => ?_, h.len, fun _ => h.inn hq⟩, hlt⟩
  rcases h.all m h3 h4 with h5 | h5
  · exact .inl h5
  · by_cases hqm : q ∣ m
    · exact .inl ⟨q, h.inn hq, hqm⟩
    · right
      have hc : Nat.Coprime m q := by
        have hg : Nat.gcd m q ∣ q := Nat.gcd_dvd_right m q
        have hgm : Nat.gcd m q ∣ m := Nat.gcd_dvd_left m q
        have hgn : Nat.gcd m q ∣ n := Nat.dvd_trans hg hq
        have hle := Nat.le_of_dvd (by omega) hg
        have hpos : 0 < Nat.gcd m q := Nat.gcd_pos_of_pos_left _ (by omega)
        apply Classical.byContradiction
        intro hne
        have hne' : Nat.gcd m q ≠ 1 := hne
        by_cases e : Nat.gcd m q = q
        · rw [e] at hgm; exact hqm hgm
        · exact h.no _ (by omega) (by omega) hgn
      rw [← hmul] at h5
      exact Nat.Coprime.dvd_of_dvd_mul_right hc h5

theorem divOut_end {M n q : Nat} {l : List Nat} (h : DivOut M n q l) (hq : ¬ q ∣ n) : DivAt M n (q + 1) l :=
  ⟨h.pos, h.le, h.dv, by have := h.two; omega, fun d h1 h2 => by
    by_cases e : d = q
    · subst e; exact hq
    · exact h.no d h1 (by omega), h.mem, h.all, h.len⟩

theorem divAt_end {M n q : Nat} {l : List Nat} (h : DivAt M n q l) (hn : ¬ 1 < n) : ∀ m, 2 ≤ m → m ∣ M → ∃ r ∈ l, r ∣ m := by
  intro m h1 h2
  rcases h.all m h1 h2 with h3 | h3
  · exact h3
  · have := Nat.le_of_dvd h.pos h3; have := h.pos; omega

theorem mod_dvd {n q : Nat} (h : ((n : Int) % (q : Int)) = 0) : q ∣ n := Nat.dvd_of_mod_eq_zero (by omega)
theorem mod_ndvd {n q : Nat} (h : ¬ ((n : Int) % (q : Int)) = 0) : ¬ q ∣ n := fun hd => h (by have := Nat.mod_eq_zero_of_dvd hd; omega)

open Classical in
/-- The document's count of powers. -/
theorem primR_t {p n : Nat} (h : irrR p = true) (hx : Px.pow 2 p n = 1) (hmin : ∀ k, 1 ≤ k → k < n → Px.pow 2 p k ≠ 1) (hn : n = 2 ^ Nat.log2 p - 1) : primR p = true := by
  unfold primR
  subst hn
  exact decide_eq_true ⟨h, hx, hmin⟩
open Classical in
theorem primR_f {p n : Nat} (hx : Px.pow 2 p n = 1) (h1 : 1 ≤ n) (hle : n ≤ 2 ^ Nat.log2 p - 1) (hn : n ≠ 2 ^ Nat.log2 p - 1) : primR p = false := by
  unfold primR
  rw [decide_eq_false_iff_not]
  rintro ⟨_, _, h⟩
  exact h n h1 (by omega) hx
open Classical in
theorem primR_f0 {p n : Nat} (h : irrR p = true) (h1 : 1 ≤ n) (hx : Px.pow 2 p n = 0) : primR p = false := by
  unfold primR
  rw [decide_eq_false_iff_not]
  rintro ⟨_, h2, _⟩
  rw [← irr_same] at h
  have hp := irr_Irr h
  have hlt : mod 2 p < 2 ^ Nat.log2 p := mod_lt 2 (by have := hp.1; omega)
  have hx0 : mod 2 p = 0 := by
    apply Classical.byContradiction
    intro h0
    rw [pow_x hp] at hx
    exact (irrFld p hp).pow_ne hlt h0 n hx
  have hl := Nat.pow_le_pow_right (n := 2) (by decide) (log2_pos hp.1)
  rw [pow_x hp, hx0, Fld.zero_pow _ _ (by omega)] at h2
  cases h2
theorem primR_fi {p : Nat} (h : irrR p = false) : primR p = false := by unfold primR; simp [h]

/-- There is an end to the powers. -/
theorem pow_ends {p : Nat} (h : irrR p = true) {n : Nat} (h1 : 1 ≤ n) (hn : Px.pow 2 p n ≠ 0) (hmin : ∀ k, 1 ≤ k → k ≤ n → Px.pow 2 p k ≠ 1) : n < 2 ^ Nat.log2 p - 1 := by
  rw [← irr_same] at h
  have hp := irr_Irr h
  have hlt : mod 2 p < 2 ^ Nat.log2 p := mod_lt 2 (by have := hp.1; omega)
  have hf := (irrFld p hp).fermat hlt fun h0 => hn (by rw [pow_x hp, h0, Fld.zero_pow _ _ (by omega)])
  rcases Nat.lt_or_ge n (2 ^ Nat.log2 p - 1) with h2 | h2
  · exact h2
  · have hl := Nat.pow_le_pow_right (n := 2) (by decide) (log2_pos hp.1)
    exact absurd (by rw [pow_x hp]; exact hf) (hmin (2 ^ Nat.log2 p - 1) (by omega) h2)

theorem pow_le_size {p n : Nat} (h : irrR p = true) (h1 : 1 ≤ n) (hx : Px.pow 2 p n = 1) (hmin : ∀ k, 1 ≤ k → k < n → Px.pow 2 p k ≠ 1) : n ≤ 2 ^ Nat.log2 p - 1 := by
  by_cases hn : n = 1
  · have := irr_Irr (p := p) (by rw [irr_same]; exact h)
    have hl := Nat.pow_le_pow_right (n := 2) (by decide) (log2_pos this.1)
    omega
  · have hp := irr_Irr (p := p) (by rw [irr_same]; exact h)
    have hne : Px.pow 2 p (n - 1) ≠ 0 := by
      intro e
      have e2 : Px.pow 2 p n = mulMod (Px.pow 2 p (n - 1)) 2 p := by
        obtain ⟨m, rfl⟩ : ∃ m, n = m + 1 := ⟨n - 1, by omega⟩
        rfl
      rw [e2, e] at hx
      unfold mulMod at hx
      rw [zero_mul, zero_mod] at hx
      cases hx
    have := pow_ends h (n := n - 1) (by omega) hne (fun k a b => hmin k a (by omega))
    omega

end Go.Gam
