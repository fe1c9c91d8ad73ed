/- Texts of the claim TopUpdates (part 2), put together in the order of their imports. -/
import Derived.Test.YtoabojbpeafdkaaGreatDoorKTopUpdates1
import Derived.Laws.CopyRow
import Derived.Deep.Matrix
set_option linter.all false
set_option maxRecDepth 100000
set_option maxHeartbeats 1000000
/- Irreducible and primitive polynomials over two elements: the code's tests and the document's agree. No program in sight. -/
namespace Go.Gam
open Px
def Irr (p : Nat) : Prop := 2 ≤ p ∧ ∀ q, 2 ≤ q → Dvd q p → Nat.log2 q = Nat.log2 p
theorem log2_pos {p : Nat} (h : 2 ≤ p) : 1 ≤ Nat.log2 p := by
 rcases Nat.eq_zero_or_pos (Nat.log2 p) with h0 | h0
 · have := (hb_log (show p ≠ 0 by omega)).2
   rw [h0] at this; omega
 exact h0
theorem dvd_refl (p : Nat) : Dvd p p := ⟨1, (one_mul p).symm⟩
theorem dvd_trans {a b c : Nat} (h : Dvd a b) (k : Dvd b c) : Dvd a c := by
 obtain ⟨x, rfl⟩ := h
 obtain ⟨y, rfl⟩ := k
 exact ⟨mul y x, by rw [mul_assoc]⟩
theorem dvd_xor {a b c : Nat} (h : Dvd a b) (k : Dvd a c) : Dvd a (b ^^^ c) := by
 obtain ⟨x, rfl⟩ := h
 obtain ⟨y, rfl⟩ := k
 exact ⟨x ^^^ y, by rw [xor_mul]⟩
theorem dvd_mul (a b : Nat) {c : Nat} (h : Dvd c b) : Dvd c (mul a b) := by
 obtain ⟨x, rfl⟩ := h
 exact ⟨mul a x, by rw [mul_assoc]⟩
theorem dvd_log {a b : Nat} (h : Dvd a b) (hb' : b ≠ 0) : a ≠ 0 ∧ Nat.log2 a ≤ Nat.log2 b := by
 obtain ⟨x, rfl⟩ := h
 have ha : a ≠ 0 := by rintro rfl; exact hb' (mul_zero _)
 have hx : x ≠ 0 := by rintro rfl; exact hb' (zero_mul _)
 exact ⟨ha, by rw [log2_mul hx ha]; omega⟩
theorem dvd_one {a : Nat} (h : Dvd a 1) : a = 1 := by
 have h1 := dvd_log h (by decide)
 have h2 := (hb_log h1.1).2
 have : Nat.log2 1 = 0 := by decide
 have e : Nat.log2 a = 0 := by omega
 rw [e] at h2; omega
theorem mod_mod_dvd {q p : Nat} (a : Nat) (hp : p ≠ 0) (h : Dvd q p) : mod (mod a p) q = mod a q := by
 obtain ⟨x, rfl⟩ := h
 obtain ⟨_, y, e⟩ := mod_spec a _ hp
 conv => rhs; rw [e]
 rw [xor_mod, ← mul_assoc, mod_mul_self, Nat.zero_xor]
theorem gcd_dvd : ∀ (b a : Nat), Dvd (gcd a b) a ∧ Dvd (gcd a b) b := by
 intro b
 induction b using Nat.strongRecOn with
 | _ b ih =>
  intro a
  by_cases hb' : b = 0
  · subst hb'; rw [gcd_zero]; exact ⟨dvd_refl a, 0, (zero_mul a).symm⟩
  rw [gcd_step a hb']
  obtain ⟨h1, h2⟩ := ih (mod a b) (mod_lt_self a hb') b
  refine ⟨?_, h1⟩
  obtain ⟨_, q, e⟩ := mod_spec a b hb'
  have h3 := dvd_xor (dvd_mul q b h1) h2
  rw [← e] at h3
  exact h3
theorem dvd_gcd {d : Nat} : ∀ (b a : Nat), Dvd d a → Dvd d b → Dvd d (gcd a b) := by
 intro b
 induction b using Nat.strongRecOn with
 | _ b ih =>
  intro a ha hb'
  by_cases h0 : b = 0
  · subst h0; rw [gcd_zero]; exact ha
  rw [gcd_step a h0]
  refine ih _ (mod_lt_self a h0) b hb' ?_
  obtain ⟨_, q, e⟩ := mod_spec a b h0
  have h3 : mod a b = a ^^^ mul q b := by
   conv => rhs; lhs; rw [e]
   rw [Nat.xor_comm (mul q b), Nat.xor_assoc, Nat.xor_self, Nat.xor_zero]
  rw [h3]
  exact dvd_xor ha (dvd_mul q b hb')
theorem irr_nzd {p : Nat} (hp : Irr p) : ∀ (a b : Nat), a < 2 ^ Nat.log2 p → b < 2 ^ Nat.log2 p → mulMod a b p = 0 → a = 0 ∨ b = 0 := by
 have hp0 : p ≠ 0 := by have := hp.1; omega
 intro a
 induction a using Nat.strongRecOn with
 | _ a ih =>
  intro b ha hb' h
  by_cases ha0 : a = 0
  · exact .inl ha0
  by_cases ha1 : a = 1
  · subst ha1
    rw [mulMod_comm, mulMod_one hp0 hb'] at h
    exact .inr h
  have hr := mod_lt_self p ha0
  obtain ⟨hlt, q, e⟩ := mod_spec p a ha0
  have h1 : mulMod (mod p a) b p = 0 := by
   have e2 : mod p a = p ^^^ mul q a := by
    conv => rhs; lhs; rw [e]
    rw [Nat.xor_comm (mul q a), Nat.xor_assoc, Nat.xor_self, Nat.xor_zero]
   unfold mulMod at h ⊢
   rw [e2, xor_mul, xor_mod, mul_comm p b, mod_mul_self, Nat.zero_xor, mul_assoc, ← mod_mul_right, h, mul_zero, zero_mod]
  rcases ih _ hr b (by omega) hb' h1 with h2 | h2
  ·
   have hd : Dvd a p := (mod_eq_zero ha0).1 h2
   have h3 := hp.2 a (by omega) hd
   have h4 := (hb_log ha0).1
   rw [h3] at h4; omega
  exact .inr h2
def irrFld (p : Nat) (hp : Irr p) : Fld where
 w := Nat.log2 p
 mul := fun a b => mulMod a b p
 lt := fun a b => mulMod_lt a b (by have := hp.1; omega)
 comm := fun a b => mulMod_comm a b p
 assoc := fun a b c => mulMod_assoc a b c p
 dist := fun a b c => mulMod_xor a b c p
 one := fun a h => by rw [mulMod_comm]; exact mulMod_one (by have := hp.1; omega) h
 nzd := irr_nzd hp
 pos := log2_pos hp.1
theorem fld_pow (p : Nat) (hp : Irr p) (a : Nat) : ∀ n, (irrFld p hp).pow a n = Px.pow a p n
 | 0 => by
  show 1 = mod 1 p
  exact (mod_small (by have := hp.1; omega) ((irrFld p hp).one_lt)).symm
 | n + 1 => by
  show mulMod ((irrFld p hp).pow a n) a p = mulMod (Px.pow a p n) a p
  rw [fld_pow p hp a n]
theorem pow_mod (a p : Nat) : ∀ n, mod (Px.pow a p n) p = Px.pow a p n
 | 0 => mod_mod 1 p
 | n + 1 => mod_mod _ p
theorem pow_base (a p : Nat) : ∀ n, Px.pow (mod a p) p n = Px.pow a p n
 | 0 => rfl
 | n + 1 => by
  show mulMod (Px.pow (mod a p) p n) (mod a p) p = mulMod (Px.pow a p n) a p
  rw [pow_base a p n]
  unfold mulMod; rw [mod_mul_right]
theorem mulMod_modr (a b p : Nat) : mulMod a (mod b p) p = mulMod a b p := by unfold mulMod; rw [mod_mul_right]
theorem mulMod_modl (a b p : Nat) : mulMod (mod a p) b p = mulMod a b p := by unfold mulMod; rw [mod_mul_left]
theorem pow_add (a p m : Nat) : ∀ n, Px.pow a p (m + n) = mulMod (Px.pow a p m) (Px.pow a p n) p
 | 0 => by
  show Px.pow a p m = mulMod (Px.pow a p m) (mod 1 p) p
  rw [mulMod_modr]; unfold mulMod; rw [mul_one, pow_mod]
 | n + 1 => by
  show mulMod (Px.pow a p (m + n)) a p = mulMod (Px.pow a p m) (mulMod (Px.pow a p n) a p) p
  rw [pow_add a p m n, mulMod_assoc]
theorem pow_sq (a p : Nat) : ∀ n, Px.pow (mulMod a a p) p n = Px.pow a p (2 * n)
 | 0 => rfl
 | n + 1 => by
  show mulMod (Px.pow (mulMod a a p) p n) (mulMod a a p) p = Px.pow a p (2 * n + 2)
  rw [pow_sq a p n, ← mulMod_assoc]
  rfl
theorem powB_eq (p : Nat) : ∀ (n a o : Nat), powB a p (mod o p) n = mulMod o (Px.pow a p n) p := by
 intro n
 induction n using Nat.strongRecOn with
 | _ n ih =>
  intro a o
  by_cases h0 : n = 0
  ·
   subst h0
   rw [powB_zero]
   show mod o p = mulMod o (mod 1 p) p
   rw [mulMod_modr]; unfold mulMod; rw [mul_one]
  by_cases h1 : n % 2 = 1
  ·
   rw [powB_odd _ _ _ h1, mulMod_modl]
   unfold mulMod
   rw [ih (n / 2) (by omega)]
   show mulMod (mul o a) (Px.pow (mulMod a a p) p (n / 2)) p = mulMod o (Px.pow a p n) p
   rw [pow_sq]
   have e : n = 2 * (n / 2) + 1 := by omega
   conv => rhs; rw [e]
   show _ = mulMod o (mulMod (Px.pow a p (2 * (n / 2))) a p) p
   unfold mulMod
   rw [mod_mul_right, mul_assoc, mul_comm a]
  rw [powB_even _ _ _ h0 h1, ih (n / 2) (by omega), pow_sq]
  congr 2; omega
theorem powB_one (a p n : Nat) : powB a p (mod 1 p) n = Px.pow a p n := by
 rw [powB_eq]; unfold mulMod; rw [one_mul, pow_mod]
theorem frob_pow (p : Nat) : ∀ (n a : Nat), mod a p = a → frob p n a = Px.pow a p (2 ^ n)
 | 0, a, h => by
  show a = mulMod (mod 1 p) a p
  rw [mulMod_modl]; unfold mulMod; rw [one_mul, h]
 | n + 1, a, h => by
  rw [frob, frob_pow p n (mulMod a a p) (mod_mod _ p), pow_sq, Nat.pow_succ, Nat.mul_comm]
theorem frob_dvd {q p : Nat} (hp : p ≠ 0) (h : Dvd q p) : ∀ n a b, mod a q = b → mod (frob p n a) q = frob q n b := by
 intro n
 induction n with
 | zero => intro a b hab; exact hab
 | succ n ih =>
  intro a b hab
  refine ih _ _ ?_
  subst hab
  unfold mulMod
  rw [mod_mod_dvd _ hp h, mod_mul_left, mod_mul_right]
theorem not_irr {p : Nat} (h2 : 2 ≤ p) (h : ¬ Irr p) : ∃ q, Irr q ∧ Dvd q p ∧ 1 ≤ Nat.log2 q ∧ Nat.log2 q ≤ Nat.log2 p / 2 := by
 have hp0 : p ≠ 0 := by omega
 have hex : ∃ q, 2 ≤ q ∧ Dvd q p ∧ Nat.log2 q < Nat.log2 p := by
  apply Classical.byContradiction
  intro hno
  refine h ⟨h2, fun q hq hd => ?_⟩
  have h1 := (dvd_log hd hp0).2
  apply Classical.byContradiction
  intro hne
  exact hno ⟨q, hq, hd, by omega⟩
 -- the least one
 obtain ⟨q, ⟨hq2, hqd, hql⟩, hmin⟩ : ∃ q, (2 ≤ q ∧ Dvd q p ∧ Nat.log2 q < Nat.log2 p) ∧ ∀ r, r < q → ¬ (2 ≤ r ∧ Dvd r p ∧ Nat.log2 r < Nat.log2 p) := by
  obtain ⟨q, hq⟩ := hex
  induction q using Nat.strongRecOn with
  | _ q ih =>
   by_cases hm : ∀ r, r < q → ¬ (2 ≤ r ∧ Dvd r p ∧ Nat.log2 r < Nat.log2 p)
   · exact ⟨q, hq, hm⟩
   have hm' := Classical.not_forall.1 hm
   obtain ⟨r, hr⟩ := hm'
   have hr' := Classical.not_imp.1 hr
   exact ih r hr'.1 (Classical.not_not.1 hr'.2)
 have hq0 : q ≠ 0 := by omega
 have hl1 := log2_pos hq2
 refine ⟨q, ⟨hq2, fun r hr hd => ?_⟩, hqd, hl1, ?_⟩
 ·
  have h1 := (dvd_log hd hq0).2
  apply Classical.byContradiction
  intro hne
  have h3 : r < q := by
   have := (hb_log (show r ≠ 0 by omega)).2
   have h4 := (hb_log hq0).1
   have : 2 ^ (Nat.log2 r + 1) ≤ 2 ^ Nat.log2 q := Nat.pow_le_pow_right (by decide) (by omega)
   omega
  exact hmin r h3 ⟨hr, dvd_trans hd hqd, by omega⟩
 obtain ⟨r, hr⟩ := hqd
 have hr0 : r ≠ 0 := by rintro rfl; rw [zero_mul] at hr; exact hp0 hr
 have hlog : Nat.log2 p = Nat.log2 r + Nat.log2 q := by rw [hr]; exact log2_mul hr0 hq0
 have hr2 : 2 ≤ r := by
  have := (hb_log hr0).1
  have h5 : 2 ^ 1 ≤ 2 ^ Nat.log2 r := Nat.pow_le_pow_right (by decide) (by omega)
  omega
 have hle : q ≤ r := by
  rcases Nat.lt_or_ge r q with h6 | h6
  · exact absurd ⟨hr2, ⟨q, by rw [hr, mul_comm]⟩, by omega⟩ (hmin r h6)
  exact h6
 have h7 : Nat.log2 q ≤ Nat.log2 r := by
  rcases Nat.lt_or_ge (Nat.log2 r) (Nat.log2 q) with h8 | h8
  ·
   have h9 := (hb_log hr0).2
   have := (hb_log hq0).1
   have : 2 ^ (Nat.log2 r + 1) ≤ 2 ^ Nat.log2 q := Nat.pow_le_pow_right (by decide) h8
   omega
  exact h8
 omega
theorem irrR_iff {p : Nat} (hr : 2 ≤ p ∧ p < 131072) : irrR p = true ↔ Irr p := by
 have hp0 : p ≠ 0 := by omega
 constructor
 ·
  intro h
  apply Classical.byContradiction
  intro hno
  obtain ⟨q, hq, hd, h1, h2⟩ := not_irr hr.1 hno
  have hq2 := hq.1
  have hlt : q < 2 ^ (Nat.log2 p / 2 + 1) := Nat.lt_of_lt_of_le (hb_log (show q ≠ 0 by omega)).2 (Nat.pow_le_pow_right (by decide) (by omega))
  have hf := irrR_f (p := p) (q - 2) (by omega) (by rw [show q - 2 + 2 = q from by omega]; exact (mod_eq_zero (by omega)).2 hd)
  rw [h] at hf; cases hf
 intro h
 refine irrR_t hr fun i hi he => ?_
 have hd := (mod_eq_zero (show i + 2 ≠ 0 by omega)).1 he
 have h1 := h.2 (i + 2) (by omega) hd
 have h2 := log2_lt (show i + 2 ≠ 0 by omega) hi
 have := log2_pos hr.1
 omega
theorem x_lt {p : Nat} (h : 2 ≤ Nat.log2 p) : mod 2 p = 2 := by
 have hp0 : p ≠ 0 := by rintro rfl; simp at h
 have h1 : 2 ^ 2 ≤ 2 ^ Nat.log2 p := Nat.pow_le_pow_right (by decide) h
 exact mod_small hp0 (by omega)
theorem frob_ne {p : Nat} (hp : Irr p) {i : Nat} (h1 : 1 ≤ i) (h2 : i < Nat.log2 p) : frob p i (mod 2 p) ≠ mod 2 p := by
 intro he
 have hp0 : p ≠ 0 := by have := hp.1; omega
 let F := irrFld p hp
 have hF : ∀ a n, F.pow a n = Px.pow a p n := fld_pow p hp
 rw [frob_pow p i _ (mod_mod 2 p), ← hF] at he
 -- so is each number
 have add : ∀ (n a b : Nat), F.pow (a ^^^ b) (2 ^ n) = F.pow a (2 ^ n) ^^^ F.pow b (2 ^ n) ∨ ¬ (a < 2 ^ F.w ∧ b < 2 ^ F.w) := by
  intro n
  induction n with
  | zero =>
   intro a b
   by_cases hab : a < 2 ^ F.w ∧ b < 2 ^ F.w
   · left
     show F.pow (a ^^^ b) 1 = F.pow a 1 ^^^ F.pow b 1
     rw [F.pow_one _ (xor_lt hab.1 hab.2), F.pow_one _ hab.1, F.pow_one _ hab.2]
   exact .inr hab
  | succ n ih =>
   intro a b
   by_cases hab : a < 2 ^ F.w ∧ b < 2 ^ F.w
   · left
     have e : ∀ c, F.pow c (2 ^ (n + 1)) = F.mul (F.pow c (2 ^ n)) (F.pow c (2 ^ n)) := by
      intro c; rw [Nat.pow_succ, Nat.mul_two, F.pow_add]
     rw [e, e, e, (ih a b).resolve_right (fun h => h hab), F.sq_xor]
   exact .inr hab
 have fix : ∀ y, F.pow (mod y p) (2 ^ i) = mod y p := by
  intro y
  induction y using bit_ind with
  | h0 => rw [zero_mod]; exact F.zero_pow _ (by have := Nat.two_pow_pos i; omega)
  | h b c hc ih =>
   have hm2 : mod (2 * b) p = F.mul (mod 2 p) (mod b p) := by
    show mod (2 * b) p = mulMod (mod 2 p) (mod b p) p
    unfold mulMod
    rw [mod_mul_left, mod_mul_right, mul_comm, mul_two]
   have hcc : F.pow (mod c p) (2 ^ i) = mod c p := by
    have : c = 0 ∨ c = 1 := by omega
    rcases this with rfl | rfl
    · rw [zero_mod]; exact F.zero_pow _ (by have := Nat.two_pow_pos i; omega)
    have e1 : mod 1 p = 1 := mod_small hp0 F.one_lt
    rw [e1]; exact F.one_pow _
   rw [two_add_xor b c hc, xor_mod, (add i _ _).resolve_right (fun h => h ⟨mod_lt _ hp0, mod_lt _ hp0⟩), hcc, hm2, F.mul_pow, he, ih]
 -- too many roots
 have hge : 2 ≤ 2 ^ i := by
  have : 2 ^ 1 ≤ 2 ^ i := Nat.pow_le_pow_right (by decide) h1
  exact this
 let l : List Nat := 0 :: 1 :: (List.replicate (2 ^ i - 2) 0 ++ [1])
 have hl1 : ∀ c ∈ l, c < 2 ^ F.w := by
  intro c hc
  have := F.one_lt
  simp only [l, List.mem_cons, List.mem_append, List.mem_replicate, List.not_mem_nil, or_false] at hc
  rcases hc with rfl | rfl | ⟨_, rfl⟩ | rfl <;> omega
 have hev : ∀ x, x < 2 ^ F.w → F.eval l x = x ^^^ F.pow x (2 ^ i) := by
  intro x hx
  have h1' : ∀ c ∈ [1], c < 2 ^ F.w := by intro c hc; simp at hc; subst hc; exact F.one_lt
  show 0 ^^^ F.mul x (1 ^^^ F.mul x (F.eval (List.replicate (2 ^ i - 2) 0 ++ [1]) x)) = _
  rw [F.eval_zeros _ _ x hx h1', Nat.zero_xor, F.dist, F.mul_one x hx]
  congr 1
  have e1 : F.eval [1] x = 1 := by show 1 ^^^ F.mul x 0 = 1; rw [F.mul_zero]; rfl
  rw [e1, F.mul_one _ (F.pow_lt _ _), F.comm x, F.comm x]
  have e2 : 2 ^ i = 2 ^ i - 2 + 1 + 1 := by omega
  conv => rhs; rw [e2]
  rfl
 have hpow : 2 ^ i < 2 ^ F.w := Nat.pow_lt_pow_right (by decide) h2
 have hroots := F.roots l.length l (List.range (2 ^ F.w)) rfl (by simp [l]; omega) hl1 (fun x hx => by simpa using hx) List.nodup_range (fun x hx => by
  have hx' : x < 2 ^ F.w := by simpa using hx
  have h5 := fix x
  rw [mod_small hp0 hx'] at h5
  rw [hev x hx', h5, Nat.xor_self])
 have := hroots 1 (by simp [l])
 omega
theorem irr_iff {p : Nat} (hr : 2 ≤ p ∧ p < 131072) : irr p = true ↔ Irr p := by
 have hp0 : p ≠ 0 := by omega
 constructor
 ·
  intro h
  apply Classical.byContradiction
  intro hno
  obtain ⟨q, hq, hd, h1, h2⟩ := not_irr hr.1 hno
  unfold irr at h
  simp only [Bool.and_eq_true, List.all_eq_true, List.mem_range, beq_iff_eq] at h
  have hg := h.2 (Nat.log2 q - 1) (by omega)
  rw [show Nat.log2 q - 1 + 1 = Nat.log2 q from by omega] at hg
  have hq0 : q ≠ 0 := by have := hq.1; omega
  have h3 : Dvd q (frob p (Nat.log2 q) (mod 2 p) ^^^ 2) := by
   refine (mod_eq_zero hq0).1 ?_
   rw [xor_mod, frob_dvd hp0 hd (Nat.log2 q) (mod 2 p) (mod 2 q) (mod_mod_dvd 2 hp0 hd), frob_pow q _ _ (mod_mod 2 q), ← fld_pow q hq]
   have hsz : (irrFld q hq).pow (mod 2 q) (2 ^ Nat.log2 q) = mod 2 q := (irrFld q hq).pow_size (mod_lt 2 hq0)
   rw [hsz, Nat.xor_self]
  have h4 := dvd_gcd _ _ hd h3
  rw [hg] at h4
  have := dvd_one h4
  have := hq.1
  omega
 intro h
 refine irr_t hr ?_ fun j hj => ?_
 · rw [frob_pow p _ _ (mod_mod 2 p), ← fld_pow p h]
   exact (irrFld p h).pow_size (mod_lt 2 hp0)
 have hl2 : 2 ≤ Nat.log2 p := by omega
 have hne := frob_ne h (i := j + 1) (by omega) (by omega)
 rw [x_lt hl2] at hne ⊢
 have h22 : 2 ^ 2 ≤ 2 ^ Nat.log2 p := Nat.pow_le_pow_right (by decide) hl2
 have hlt : frob p (j + 1) 2 < 2 ^ Nat.log2 p := by rw [frob_succ]; exact mulMod_lt _ _ hp0
 have hg0 : frob p (j + 1) 2 ^^^ 2 ≠ 0 := fun e => hne (xor_eq_zero e)
 obtain ⟨hd1, hd2⟩ := gcd_dvd (frob p (j + 1) 2 ^^^ 2) p
 generalize gcd p (frob p (j + 1) 2 ^^^ 2) = g at *
 have hg := dvd_log hd1 hp0
 have hg2 := (dvd_log hd2 hg0).2
 have hlg : Nat.log2 (frob p (j + 1) 2 ^^^ 2) < Nat.log2 p := log2_lt hg0 (xor_lt hlt (by omega))
 apply Classical.byContradiction
 intro hne1
 have := h.2 g (by omega) hd1
 omega
theorem irr_same (p : Nat) : irr p = irrR p := by
 by_cases hr : 2 ≤ p ∧ p < 131072
 · have h := (irr_iff hr).trans (irrR_iff hr).symm
   cases h1 : irr p <;> cases h2 : irrR p <;> simp_all
 rw [irr_out hr, irrR_out hr]
open Classical in
noncomputable def prim (p : Nat) : Bool := decide (irr p = true ∧ mod 2 p ≠ 0 ∧ ∀ q, 2 ≤ q → q ∣ 2 ^ Nat.log2 p - 1 → Px.pow 2 p ((2 ^ Nat.log2 p - 1) / q) ≠ 1)
open Classical in
noncomputable def primR (p : Nat) : Bool := decide (irrR p = true ∧ Px.pow 2 p (2 ^ Nat.log2 p - 1) = 1 ∧ ∀ k, 1 ≤ k → k < 2 ^ Nat.log2 p - 1 → Px.pow 2 p k ≠ 1)
theorem irr_Irr {p : Nat} (h : irr p = true) : Irr p := by
 by_cases hr : 2 ≤ p ∧ p < 131072
 · exact (irr_iff hr).1 h
 rw [irr_out hr] at h; cases h
theorem irr_range {p : Nat} (h : irr p = true) : 2 ≤ p ∧ p < 131072 := by
 by_cases hr : 2 ≤ p ∧ p < 131072
 · exact hr
 rw [irr_out hr] at h; cases h
theorem order_dvd (F : Fld) {a n k : Nat} (hn : 1 ≤ n) (h1 : F.pow a n = 1) (hmin : ∀ m, 1 ≤ m → m < n → F.pow a m ≠ 1) (hk : F.pow a k = 1) : n ∣ k := by
 have e := Nat.div_add_mod k n
 have h2 : F.pow a (k % n) = 1 := by
  rw [← e, F.pow_add, ← F.pow_mul, h1, F.one_pow, F.one _ (F.pow_lt _ _)] at hk
  exact hk
 apply Nat.dvd_of_mod_eq_zero
 apply Classical.byContradiction
 intro hne
 exact hmin (k % n) (by omega) (Nat.mod_lt _ hn) h2
theorem order_least (F : Fld) {a k : Nat} (hk : 1 ≤ k) (h : F.pow a k = 1) : ∃ n, 1 ≤ n ∧ n ≤ k ∧ F.pow a n = 1 ∧ ∀ m, 1 ≤ m → m < n → F.pow a m ≠ 1 := by
 induction k using Nat.strongRecOn with
 | _ k ih =>
  by_cases hm : ∀ m, 1 ≤ m → m < k → F.pow a m ≠ 1
  · exact ⟨k, hk, Nat.le_refl _, h, hm⟩
  obtain ⟨m, hm⟩ := Classical.not_forall.1 hm
  obtain ⟨h1, hm⟩ := Classical.not_imp.1 hm
  obtain ⟨h2, hm⟩ := Classical.not_imp.1 hm
  obtain ⟨n, a1, a2, a3⟩ := ih m h2 h1 (Classical.not_not.1 hm)
  exact ⟨n, a1, by omega, a3⟩
theorem pow_x {p : Nat} (hp : Irr p) (n : Nat) : Px.pow 2 p n = (irrFld p hp).pow (mod 2 p) n := by rw [fld_pow, pow_base]
open Classical in
theorem prim_same (p : Nat) : prim p = primR p := by
 have key : (irr p = true ∧ mod 2 p ≠ 0 ∧ ∀ q, 2 ≤ q → q ∣ 2 ^ Nat.log2 p - 1 → Px.pow 2 p ((2 ^ Nat.log2 p - 1) / q) ≠ 1) ↔
   (irrR p = true ∧ Px.pow 2 p (2 ^ Nat.log2 p - 1) = 1 ∧ ∀ k, 1 ≤ k → k < 2 ^ Nat.log2 p - 1 → Px.pow 2 p k ≠ 1) := by
  rw [← irr_same]
  constructor
  ·
   rintro ⟨h1, h2, h3⟩
   have hp := irr_Irr h1
   have hlt : mod 2 p < 2 ^ Nat.log2 p := mod_lt 2 (by have := hp.1; omega)
   have hf : (irrFld p hp).pow (mod 2 p) (2 ^ Nat.log2 p - 1) = 1 := (irrFld p hp).fermat hlt h2
   refine ⟨h1, by rw [pow_x hp]; exact hf, fun k hk1 hk2 hk => ?_⟩
   rw [pow_x hp] at hk
   obtain ⟨n, n1, n2, n3, n4⟩ := order_least _ hk1 hk
   obtain ⟨q, hq⟩ := order_dvd _ n1 n3 n4 hf
   have hq2 : 2 ≤ q := by
    rcases Nat.lt_or_ge q 2 with h | h
    · have : q = 0 ∨ q = 1 := by omega
      rcases this with rfl | rfl <;> simp at hq <;> omega
    exact h
   refine h3 q hq2 ⟨n, by rw [hq, Nat.mul_comm]⟩ ?_
   rw [hq, Nat.mul_div_cancel _ (by omega), pow_x hp]
   exact n3
  rintro ⟨h1, h2, h3⟩
  have hp := irr_Irr h1
  have hl := Nat.pow_le_pow_right (n := 2) (by decide) (log2_pos hp.1)
  refine ⟨h1, fun e => ?_, fun q hq hd he => ?_⟩
  ·
   rw [pow_x hp, e] at h2
   by_cases hN : 2 ^ Nat.log2 p - 1 = 0
   · omega
   rw [Fld.zero_pow _ _ hN] at h2; cases h2
  obtain ⟨n, hn⟩ := hd
  rw [hn, Nat.mul_div_cancel_left _ (by omega)] at he
  have hn0 : n ≠ 0 := by rintro rfl; simp at hn; omega
  have : 2 * n ≤ q * n := Nat.mul_le_mul_right n hq
  exact h3 n (by omega) (by omega) he
 unfold prim primR
 rw [Bool.eq_iff_iff, decide_eq_true_iff, decide_eq_true_iff]
 exact key
open Classical in
theorem prim_list {p : Nat} {l : List Nat} (h1 : irr p = true) (h2 : mod 2 p ≠ 0) (hd : ∀ q ∈ l, 2 ≤ q ∧ q ∣ 2 ^ Nat.log2 p - 1) (hall : ∀ m, 2 ≤ m → m ∣ 2 ^ Nat.log2 p - 1 → ∃ q ∈ l, q ∣ m)
  (hne : ∀ q ∈ l, Px.pow 2 p ((2 ^ Nat.log2 p - 1) / q) ≠ 1) : prim p = true := by
 unfold prim
 rw [decide_eq_true_eq]
 refine ⟨h1, h2, fun q hq hqd he => ?_⟩
 have hp := irr_Irr h1
 obtain ⟨r, hr, c, rfl⟩ := hall q hq hqd
 obtain ⟨n, hn⟩ := hqd
 refine hne r hr ?_
 have hr0 := (hd r hr).1
 have hc0 : c ≠ 0 := by rintro rfl; simp at hq
 rw [hn, Nat.mul_div_cancel_left _ (by have := Nat.mul_pos (show 0 < r by omega) (show 0 < c by omega); omega), pow_x hp] at he
 rw [hn, Nat.mul_assoc, Nat.mul_div_cancel_left _ (by omega), pow_x hp, Nat.mul_comm, ← Fld.pow_mul, he, Fld.one_pow]
theorem prim_f1 {p : Nat} (h : irr p = false) : prim p = false := by unfold prim; simp [h]
theorem prim_f2 {p : Nat} (h : mod 2 p = 0) : prim p = false := by unfold prim; simp [h]
open Classical in
theorem prim_f3 {p q : Nat} (hq : 2 ≤ q) (hd : q ∣ 2 ^ Nat.log2 p - 1) (h : Px.pow 2 p ((2 ^ Nat.log2 p - 1) / q) = 1) : prim p = false := by
 unfold prim
 rw [decide_eq_false_iff_not]
 rintro ⟨_, _, h3⟩
 exact h3 q hq hd h
structure DivAt (M n q : Nat) (l : List Nat) : Prop where
 pos : 1 ≤ n
 le : n ≤ M
 dv : n ∣ M
 two : 2 ≤ q
 no : ∀ d, 2 ≤ d → d < q → ¬ d ∣ n
 mem : ∀ r ∈ l, 2 ≤ r ∧ r ∣ M
 all : ∀ m, 2 ≤ m → m ∣ M → (∃ r ∈ l, r ∣ m) ∨ m ∣ n
 len : l.length + 2 ≤ q
theorem divAt_start {M : Nat} (h : 1 ≤ M) : DivAt M M 2 [] :=
 ⟨h, Nat.le_refl _, Nat.dvd_refl _, Nat.le_refl _, fun d h1 h2 => by omega, fun r hr => by simp at hr, fun m _ h => .inr h, by simp⟩
theorem divAt_le {M n q : Nat} {l : List Nat} (h : DivAt M n q l) (hn : 1 < n) : q ≤ n := by
 rcases Nat.lt_or_ge n q with h1 | h1
 · exact absurd (Nat.dvd_refl n) (h.no n (by omega) h1)
 exact h1
structure DivOut (M n q : Nat) (l : List Nat) : Prop where
 pos : 1 ≤ n
 le : n ≤ M
 dv : n ∣ M
 two : 2 ≤ q
 no : ∀ d, 2 ≤ d → d < q → ¬ d ∣ n
 mem : ∀ r ∈ l, 2 ≤ r ∧ r ∣ M
 all : ∀ m, 2 ≤ m → m ∣ M → (∃ r ∈ l, r ∣ m) ∨ m ∣ n
 len : l.length + 2 ≤ q + 1
 inn : q ∣ n → q ∈ l
theorem divAt_found {M n q : Nat} {l : List Nat} (h : DivAt M n q l) (hq : q ∣ n) : DivOut M n q (l ++ [q]) :=
 ⟨h.pos, h.le, h.dv, h.two, h.no, fun r hr => by
  rcases List.mem_append.1 hr with h1 | h1
  · exact h.mem r h1
  simp at h1; subst h1; exact ⟨h.two, Nat.dvd_trans hq h.dv⟩, fun m h1 h2 => (h.all m h1 h2).imp (fun ⟨r, a, b⟩ => ⟨r, by simp [a], b⟩) id, by have := h.len; simp; omega, fun _ => by simp⟩
theorem divAt_none {M n q : Nat} {l : List Nat} (h : DivAt M n q l) (hq : ¬ q ∣ n) : DivOut M n q l :=
 ⟨h.pos, h.le, h.dv, h.two, h.no, h.mem, h.all, by have := h.len; omega, fun h1 => absurd h1 hq⟩
theorem divOut_step {M n q : Nat} {l : List Nat} (h : DivOut M n q l) (hq : q ∣ n) : DivOut M (n / q) q l ∧ n / q < n := by
 have h2 := h.two
 have hp := h.pos
 have hmul := Nat.div_mul_cancel hq
 have hlt : n / q < n := Nat.div_lt_self (by omega) (by omega)
 have hpos : 1 ≤ n / q := Nat.div_pos (Nat.le_of_dvd (by omega) hq) (by omega)
 have hdv : n / q ∣ n := ⟨q, hmul.symm⟩
 refine ⟨⟨hpos, by have := h.le; omega, Nat.dvd_trans hdv h.dv, h2, fun d h3 h4 h5 => h.no d h3 h4 (Nat.dvd_trans h5 hdv), h.mem, fun m h3 h4 => ?_, h.len, fun _ => h.inn hq⟩, hlt⟩
 rcases h.all m h3 h4 with h5 | h5
 · exact .inl h5
 by_cases hqm : q ∣ m
 · exact .inl ⟨q, h.inn hq, hqm⟩
 right
 have hc : Nat.Coprime m q := by
  have hg : Nat.gcd m q ∣ q := Nat.gcd_dvd_right m q
  have hgm : Nat.gcd m q ∣ m := Nat.gcd_dvd_left m q
  have hgn : Nat.gcd m q ∣ n := Nat.dvd_trans hg hq
  have hle := Nat.le_of_dvd (by omega) hg
  have hpos : 0 < Nat.gcd m q := Nat.gcd_pos_of_pos_left _ (by omega)
  apply Classical.byContradiction
  intro hne
  have hne' : Nat.gcd m q ≠ 1 := hne
  by_cases e : Nat.gcd m q = q
  · rw [e] at hgm; exact hqm hgm
  exact h.no _ (by omega) (by omega) hgn
 rw [← hmul] at h5
 exact Nat.Coprime.dvd_of_dvd_mul_right hc h5
theorem divOut_end {M n q : Nat} {l : List Nat} (h : DivOut M n q l) (hq : ¬ q ∣ n) : DivAt M n (q + 1) l :=
 ⟨h.pos, h.le, h.dv, by have := h.two; omega, fun d h1 h2 => by
  by_cases e : d = q
  · subst e; exact hq
  exact h.no d h1 (by omega), h.mem, h.all, h.len⟩
theorem divAt_end {M n q : Nat} {l : List Nat} (h : DivAt M n q l) (hn : ¬ 1 < n) : ∀ m, 2 ≤ m → m ∣ M → ∃ r ∈ l, r ∣ m := by
 intro m h1 h2
 rcases h.all m h1 h2 with h3 | h3
 · exact h3
 have := Nat.le_of_dvd h.pos h3; have := h.pos; omega
theorem mod_dvd {n q : Nat} (h : ((n : Int) % (q : Int)) = 0) : q ∣ n := Nat.dvd_of_mod_eq_zero (by omega)
theorem mod_ndvd {n q : Nat} (h : ¬ ((n : Int) % (q : Int)) = 0) : ¬ q ∣ n := fun hd => h (by have := Nat.mod_eq_zero_of_dvd hd; omega)
end Go.Gam
/- The polynomials that the texts name: which are irreducible, which are primitive. By reckoning. No program in sight. -/
namespace Go.Gam
open Px
def mulF : Nat → Nat → Nat → Nat
 | 0, _, _ => 0
 | k + 1, a, b => (if b % 2 = 1 then a else 0) ^^^ (2 * mulF k a (b / 2))
theorem mulF_eq : ∀ (k a b : Nat), b < 2 ^ k → mulF k a b = mul a b
 | 0, a, b, h => by
  have : b = 0 := by simp at h; exact h
  subst this; rw [mul_zero]; rfl
 | k + 1, a, b, h => by
  rw [mulF, mulF_eq k a (b / 2) (by rw [Nat.pow_succ] at h; omega)]
  have := mul_step a (b / 2) (b % 2) (by omega)
  rw [show 2 * (b / 2) + b % 2 = b from by omega] at this
  exact this.symm
def mulModF (a b p : Nat) : Nat := mod (mulF 17 a b) p
theorem mulModF_eq {a b p : Nat} (h : b < 2 ^ 17) : mulModF a b p = mulMod a b p := by unfold mulModF mulMod; rw [mulF_eq _ _ _ h]
def frobF (p : Nat) : Nat → Nat → Nat
 | 0, a => a
 | k + 1, a => frobF p k (mulModF a a p)
theorem small17 {p : Nat} (hp : 2 ≤ p ∧ p < 131072) (a : Nat) : mod a p < 2 ^ 17 := by
 have h0 : p ≠ 0 := by omega
 have h1 := log2_lt h0 (k := 17) (by simpa using hp.2)
 exact Nat.lt_of_lt_of_le (mod_lt a h0) (Nat.pow_le_pow_right (by decide) (by omega))
theorem frobF_eq {p : Nat} (hp : 2 ≤ p ∧ p < 131072) : ∀ (k a : Nat), a < 2 ^ 17 → frobF p k a = frob p k a
 | 0, a, _ => rfl
 | k + 1, a, h => by rw [frobF, frob, mulModF_eq h]; exact frobF_eq hp k _ (small17 hp _)
def gcdF : Nat → Nat → Nat → Nat
 | 0, a, _ => a
 | k + 1, a, b => if b = 0 then a else gcdF k b (mod a b)
theorem gcdF_eq : ∀ (k a b : Nat), b < 2 ^ k → gcdF (k + 1) a b = gcd a b
 | 0, a, b, h => by
  have : b = 0 := by simp at h; exact h
  subst this; rw [gcd_zero]; rfl
 | k + 1, a, b, h => by
  rw [gcdF]
  by_cases hb' : b = 0
  · subst hb'; rw [if_pos rfl, gcd_zero]
  rw [if_neg hb', gcd_step a hb']
  refine gcdF_eq k b (mod a b) ?_
  have h1 := log2_lt hb' h
  exact Nat.lt_of_lt_of_le (mod_lt a hb') (Nat.pow_le_pow_right (by decide) (by omega))
def irrF (p : Nat) : Bool := decide (2 ≤ p ∧ p < 131072) && (frobF p (Nat.log2 p) (mod 2 p) == mod 2 p) && (List.range (Nat.log2 p / 2)).all fun i => gcdF 18 p (frobF p (i + 1) (mod 2 p) ^^^ 2) == 1
theorem irrF_eq (p : Nat) : irrF p = irr p := by
 by_cases hr : 2 ≤ p ∧ p < 131072
 ·
  have hx := small17 hr 2
  have h1 : ∀ i, gcdF 18 p (frob p (i + 1) (mod 2 p) ^^^ 2) = gcd p (frob p (i + 1) (mod 2 p) ^^^ 2) := by
   intro i
   exact gcdF_eq 17 _ _ (xor_lt (by rw [frob_succ]; exact small17 hr _) (by decide))
  unfold irrF irr
  simp only [h1, frobF_eq hr _ _ hx]
 rw [irr_out hr]; unfold irrF; simp only [hr, decide_false, Bool.false_and]
def powF (p : Nat) : Nat → Nat → Nat → Nat → Nat
 | 0, _, o, _ => o
 | k + 1, a, o, n => if n = 0 then o else powF p k (mulModF a a p) (if n % 2 = 1 then mulModF o a p else o) (n / 2)
theorem powF_eq {p : Nat} (hp : 2 ≤ p ∧ p < 131072) : ∀ (k a o n : Nat), n < 2 ^ k → a < 2 ^ 17 → powF p k a o n = powB a p o n
 | 0, a, o, n, h, _ => by
  have : n = 0 := by simp at h; exact h
  subst this; rw [powB_zero]; rfl
 | k + 1, a, o, n, h, ha => by
  rw [powF]
  by_cases h0 : n = 0
  · subst h0; rw [if_pos rfl, powB_zero]
  rw [if_neg h0, powB_step _ _ _ h0, mulModF_eq ha, mulModF_eq ha]
  exact powF_eq hp k _ _ _ (by rw [Nat.pow_succ] at h; omega) (small17 hp _)
theorem pow_F {p n : Nat} (hp : 2 ≤ p ∧ p < 131072) (h : n < 2 ^ 17) : Px.pow 2 p n = powF p 17 2 (mod 1 p) n := by
 rw [powF_eq hp 17 2 _ n h (by decide), powB_one]
theorem cop {q m : Nat} (hq : ∀ d, d ≤ q → d ∣ q → d = 1 ∨ d = q) (h0 : 0 < q) (h : ¬ q ∣ m) : Nat.Coprime m q := by
 have hg : Nat.gcd m q ∣ q := Nat.gcd_dvd_right m q
 rcases hq _ (Nat.le_of_dvd h0 hg) hg with h1 | h1
 · exact h1
 exact absurd (h1 ▸ Nat.gcd_dvd_left m q) h
theorem divs255 : ∀ m, 2 ≤ m → m ∣ 255 → ∃ q ∈ [3, 5, 17], q ∣ m := by
 intro m h1 h2
 apply Classical.byContradiction
 intro hno
 have h3 : ¬ 3 ∣ m := fun h => hno ⟨3, by simp, h⟩
 have h5 : ¬ 5 ∣ m := fun h => hno ⟨5, by simp, h⟩
 have h17 : ¬ 17 ∣ m := fun h => hno ⟨17, by simp, h⟩
 have a : m ∣ 3 * 85 := h2
 have b := Nat.Coprime.dvd_of_dvd_mul_left (cop (by decide) (by decide) h3) a
 have b' : m ∣ 5 * 17 := b
 have c := Nat.Coprime.dvd_of_dvd_mul_left (cop (by decide) (by decide) h5) b'
 have c' : m ∣ 17 * 1 := c
 have d := Nat.Coprime.dvd_of_dvd_mul_left (cop (by decide) (by decide) h17) c'
 have := Nat.le_of_dvd (by decide) d
 omega
theorem divs65535 : ∀ m, 2 ≤ m → m ∣ 65535 → ∃ q ∈ [3, 5, 17, 257], q ∣ m := by
 intro m h1 h2
 apply Classical.byContradiction
 intro hno
 have h3 : ¬ 3 ∣ m := fun h => hno ⟨3, by simp, h⟩
 have h5 : ¬ 5 ∣ m := fun h => hno ⟨5, by simp, h⟩
 have h17 : ¬ 17 ∣ m := fun h => hno ⟨17, by simp, h⟩
 have h257 : ¬ 257 ∣ m := fun h => hno ⟨257, by simp, h⟩
 have a : m ∣ 3 * 21845 := h2
 have b : m ∣ 5 * 4369 := Nat.Coprime.dvd_of_dvd_mul_left (cop (by decide) (by decide) h3) a
 have c : m ∣ 17 * 257 := Nat.Coprime.dvd_of_dvd_mul_left (cop (by decide) (by decide) h5) b
 have d : m ∣ 257 * 1 := Nat.Coprime.dvd_of_dvd_mul_left (cop (by decide) (by decide) h17) c
 have e := Nat.Coprime.dvd_of_dvd_mul_left (cop (by decide +kernel) (by decide) h257) d
 have := Nat.le_of_dvd (by decide) e
 omega
theorem prim8 {p : Nat} (hi : irrF p = true) (h2 : Nat.log2 p = 8) (h : powF p 17 2 (mod 1 p) 85 ≠ 1 ∧ powF p 17 2 (mod 1 p) 51 ≠ 1 ∧ powF p 17 2 (mod 1 p) 15 ≠ 1) : prim p = true := by
 rw [irrF_eq] at hi
 have hr := irr_range hi
 refine prim_list (l := [3, 5, 17]) hi (by rw [x_lt (by omega)]; decide) ?_ ?_ ?_
 · rw [h2]; decide
 · rw [h2]; exact divs255
 rw [h2]
 intro q hq
 simp at hq
 rcases hq with rfl | rfl | rfl <;> rw [pow_F hr (by decide)]
 · exact h.1
 · exact h.2.1
 exact h.2.2
theorem prim16 {p : Nat} (hi : irrF p = true) (h2 : Nat.log2 p = 16) (h : powF p 17 2 (mod 1 p) 21845 ≠ 1 ∧ powF p 17 2 (mod 1 p) 13107 ≠ 1 ∧ powF p 17 2 (mod 1 p) 3855 ≠ 1 ∧ powF p 17 2 (mod 1 p) 255 ≠ 1) : prim p = true := by
 rw [irrF_eq] at hi
 have hr := irr_range hi
 refine prim_list (l := [3, 5, 17, 257]) hi (by rw [x_lt (by omega)]; decide) ?_ ?_ ?_
 · rw [h2]; decide
 · rw [h2]; exact divs65535
 rw [h2]
 intro q hq
 simp at hq
 rcases hq with rfl | rfl | rfl | rfl <;> rw [pow_F hr (by decide)]
 · exact h.1
 · exact h.2.1
 · exact h.2.2.1
 exact h.2.2.2
theorem prim_285 : prim 285 = true := prim8 (by decide +kernel) (by decide +kernel) (by decide +kernel)
theorem prim_69643 : prim 69643 = true := prim16 (by decide +kernel) (by decide +kernel) (by decide +kernel)
end Go.Gam
/- Slices that the walk makes, appends to, stores into; regions whose order is open. No program in sight. -/
namespace Go.Gam
open Go
theorem fill_idx : ∀ (vs pre post : List Value) (A : Array Value), A.toList = pre ++ post → post.length = vs.length → (∀ v ∈ vs, v.cells = #[v]) →
  Instr.fill (fun i => some (i * 1, 1)) A (idx vs pre.length) = some (pre ++ vs).toArray := by
 intro vs
 induction vs with
 | nil =>
  intro pre post A hA hl _
  have : post = [] := List.eq_nil_of_length_eq_zero (by simpa using hl)
  subst this
  simp only [idx, Instr.fill, List.append_nil] at hA ⊢
  rw [← hA]
 | cons v r ih =>
  intro pre post A hA hl hc
  obtain ⟨p, post', rfl⟩ : ∃ p post', post = p :: post' := by cases post with | nil => simp at hl | cons p q => exact ⟨p, q, rfl⟩
  have hv : v.cells = #[v] := hc v (by simp)
  have hsz : A.size = pre.length + (post'.length + 1) := by rw [← Array.length_toList, hA]; simp
  simp only [idx, Instr.fill, Nat.mul_one, hv]
  rw [if_neg (by simp [hsz])]
  have := ih (pre ++ [v]) post' (A.setIfInBounds pre.length v) (by simp [hA]) (by simpa using hl) (fun u hu => hc u (by simp [hu]))
  simp only [List.length_append, List.length_cons, List.length_nil, Nat.zero_add, List.append_assoc, List.cons_append, List.nil_append, Nat.mul_one] at this
  simpa using this
def evp (F : Fs) : List (Nat × Operand) → Nat → Option (List Value)
 | [], _ => some []
 | (i, x) :: r, j => bif Nat.beq i j then (match ev F x, evp F r (j + 1) with | some v, some vs => some (v :: vs) | _, _ => none) else none
theorem Reads.parts {F : Fs} {ρ : Operand → Value} (h : Reads F ρ) : ∀ (l : List (Nat × Operand)) (j : Nat) (vs : List Value), evp F l j = some vs → (l.map fun (i, x) => (i, ρ x)) = idx vs j := by
 intro l
 induction l with
 | nil => intro j vs hv; simp [evp] at hv; simp [hv, idx]
 | cons p r ih =>
  obtain ⟨i, x⟩ := p
  intro j vs hv
  simp only [evp] at hv
  cases hb : Nat.beq i j with
  | false => rw [hb] at hv; cases hv
  | true =>
   have hij := Nat.eq_of_beq_eq_true hb
   subst hij
   rw [hb, cond_true] at hv
   split at hv
   · rename_i v vs' h1 h2
     obtain rfl := Option.some.inj hv
     simp [idx, h x v h1, ih (i + 1) vs' h2]
   cases hv
section
variable {P : Program} {ops : Array Oper} {K : Kont} {rest : List Oper} {n : NN} {F : Fs} {T : TypeId} {pp : String} {af : Array Edge} {v : Value} {d : Nat} {a : Act} {w : World} {x : Operand} {D : FD} {B : Nat}
theorem own_new {N e cap : Nat} {w' : World} {cs xs : List Value} {g : Nat} (hg : w'.heap[g]? = some (.cells cs.toArray e (0, 0))) (hN : N ≤ g) (hB : B ≤ g) (hx : cs.take xs.length = xs) (hl : xs.length ≤ cap) (hc : cs.length = cap) (hm : cap ≤ maxLen) (hp : Priv D B w' g) :
  Own D B N w' e (.slice (some ⟨g, 0, none⟩) xs.length cap) (some g) xs :=
 .inr ⟨g, cap, cs.toArray, rfl, rfl, hN, hB, hg, hl, hm, by simpa using hc, by simpa using hx, hp⟩
theorem s_bs {t e by_ len : Nat} {z : Value} {parts : List (Nat × Operand)} {vs : List Value} (hF : Fr n F a) (ht : Sl P t e z by_) (hx : evp F parts 0 = some vs) (hlen : vs.length = len) (hsm : len ≤ 16777216)
  (hc : ∀ v ∈ vs, v.cells = #[v]) (he : e ≠ D.T) (hI : Inv D B w) (hd : Nat.blt d n.n = true)
  (k : ∀ w' a, Mb D B none w w' → Inv D B w' → Own D B w.heap.size w' e (.slice (some ⟨w.heap.size, 0, none⟩) len len) (some w.heap.size) vs → Fr n ((d, .slice (some ⟨w.heap.size, 0, none⟩) len len) :: F) a → WL P ops K rest a w') :
  WL P ops K (⟨some d, .buildSlice t len parts.toArray, T, pp, af, none⟩ :: rest) a w := by
 obtain ⟨h1, hz, i, h2, h3, h4, h5⟩ := ht
 have hmb := Mb.alloc D B w vs.toArray e (0, 0) he
 have hI' := hmb.inv hI
 refine s_run (w' := w.alloc (.cells vs.toArray e)) hF (fun ρ h => ?_) hd fun a hF => k _ a hmb hI' ?_ hF
 ·
  have hp := h.parts parts 0 vs hx
  have hfill := fill_idx vs [] ((List.range len).map fun _ => z) ((Array.range len).map fun _ => z) (by simp) (by simp [hlen]) hc
  simp only [List.length_nil, List.nil_append] at hfill
  have hbig : ¬ (16777216 < len) := by omega
  by_cases h0 : len = 0
  ·
   subst h0
   have : vs = [] := List.eq_nil_of_length_eq_zero hlen
   subst this
   simp [execOp, Instr.buildSlice, run_underlying h1, sizeOf, typeInfo, zeroValue, h2, h3, h4, hp, idx, Instr.fill, newRow]
   exact congrArg (fun c => w.alloc (Obj.cells c e)) (by simp)
  have e1 : ((Array.range len).map fun x => z.cells[x % z.cells.size]!) = (Array.range len).map fun _ => z := by
   have : ∀ x, z.cells[x % z.cells.size]! = z := fun x => by rw [hz]; simp [Nat.mod_one]
   simp [this]
  simp only [Nat.mul_one] at hfill
  simp [execOp, Instr.buildSlice, run_underlying h1, sizeOf, typeInfo, zeroValue, h2, h3, h4, hp, h0, hbig, e1, hfill, newRow]
 subst hlen
 exact own_new (alloc_new w _) (Nat.le_refl _) hI.1 (by simp) (Nat.le_refl _) rfl (by simp only [maxLen]; omega) (hmb.priv (hI.priv_new (Nat.le_refl _)))
theorem run_mk {t e by_ m : Nat} {z : Value} {k1 k2 : IntKind} (ht : Sl P t e z by_) (hb : m * by_ ≤ 281474976710656) (hm : m ≤ maxLen) :
  (Instr.makeSlice t (.int k1 (m : Int)) (.int k2 (m : Int))).run P w = .ok (.slice (some ⟨w.heap.size, 0, none⟩) m m) (w.alloc (.cells (List.replicate m z).toArray e)) := by
 obtain ⟨h1, hz, i, h2, h3, h4, h5⟩ := ht
 have hw : IntKind.i64.wrap (m : Int) = (m : Int) := wrap_i64 _ (by simp only [maxLen] at hm; omega)
 have h6 : ¬ (281474976710656 < (i.bytes : Int) * (m : Int)) := by
  rw [h5]
  have : ((by_ : Int) * (m : Int)) = ((m * by_ : Nat) : Int) := by rw [Nat.mul_comm]; simp
  rw [this]; omega
 have h7 : ¬ ((m : Int) < 0) := by omega
 have h9 : ((Array.range m).map fun x => z.cells[x % z.cells.size]!) = (List.replicate m z).toArray := by
  have : ∀ x, z.cells[x % z.cells.size]! = z := fun x => by rw [hz]; simp [Nat.mod_one]
  apply Array.toList_inj.1
  simp [this, List.map_const']
 have h10 : ∀ W : World, (askRoom (m * i.bytes)).run P W = .ok () W := by
  intro W; unfold askRoom; split <;> simp [mark, Sem.run]
 by_cases h0 : m = 0
 ·
  subst h0
  have hw0 : IntKind.i64.wrap 0 = 0 := hw
  have h10' : ∀ W : World, (askRoom 0).run P W = .ok () W := by simp only [Nat.zero_mul] at h10; exact h10
  have e0 : (Array.range 0).map (fun _ => (default : Value)) = #[] := by simp
  simp [Instr.makeSlice, hw0, h10', e0, run_underlying h1, sizeOf, typeInfo, zeroValue, h2, h3, h4, asInt, asIntOf, hw, h10, newRow]
 simp [Instr.makeSlice, run_underlying h1, sizeOf, typeInfo, zeroValue, h2, h3, h4, asInt, asIntOf, hw, h6, h7, h10, h0, h9, newRow]
theorem s_mk {t e by_ m : Nat} {z : Value} {k1 k2 : IntKind} {y : Operand} {M : Int} (hF : Fr n F a) (ht : Sl P t e z by_) (hx : ev F x = some (.int k1 M)) (hy : ev F y = some (.int k2 M)) (hM : M = (m : Int))
  (hb : m * by_ ≤ 281474976710656) (hm : m ≤ maxLen) (he : e ≠ D.T) (hI : Inv D B w) (hd : Nat.blt d n.n = true)
  (k : ∀ w' a, Mb D B none w w' → Inv D B w' → Own D B w.heap.size w' e (.slice (some ⟨w.heap.size, 0, none⟩) m m) (some w.heap.size) (List.replicate m z) → Fr n ((d, .slice (some ⟨w.heap.size, 0, none⟩) m m) :: F) a → WL P ops K rest a w') :
  WL P ops K (⟨some d, .makeSlice t x y, T, pp, af, none⟩ :: rest) a w := by
 subst hM
 have hmb := Mb.alloc D B w (List.replicate m z).toArray e (0, 0) he
 refine s_run (w' := w.alloc (.cells (List.replicate m z).toArray e)) hF (fun ρ h => ?_) hd fun a hF => k _ a hmb (hmb.inv hI) ?_ hF
 · simp [execOp, h x _ hx, h y _ hy, run_mk ht hb hm]
 have := own_new (D := D) (B := B) (N := w.heap.size) (cap := m) (xs := List.replicate m z) (alloc_new w (.cells (List.replicate m z).toArray e)) (Nat.le_refl _) hI.1 (by simp) (by simp) (by simp) hm (hmb.priv (hI.priv_new (Nat.le_refl _)))
 simpa using this
theorem Mb.setRow {g : Nat} {cur cs : Array Value} {e : TypeId} {fr : Nat × Nat} (hg : w.heap[g]? = some (.cells cur e fr)) (he : e ≠ D.T) (hB : B ≤ g) (hp : Priv D B w g) : Mb D B (some g) w (w.setRow g cs) := by
 refine ⟨rfl, rfl, rfl, by simp [World.setRow], fun k _ hk => setRow_other w g k cs (fun e => hk (by rw [e])), fun k hk c fr' hc => ?_, fun k e' => ?_⟩
 · have : (w.setRow g cs).heap.size = w.heap.size := by simp [World.setRow]
   have := heap_lt hc; omega
 obtain rfl := Option.some.inj e'
 refine ⟨heap_lt hg, hB, fun c fr' hc => ?_, fun c fr' hc => ?_, hp⟩
 · rw [hg] at hc; exact he (Obj.cells.inj (Option.some.inj hc)).2.1
 rw [setRow_heap w g cur cs e fr hg] at hc; exact he (Obj.cells.inj (Option.some.inj hc)).2.1
theorem Mb.weak {b : Option Nat} {w' : World} (h : Mb D B none w w') (ho : ∀ k, b = some k → k < w.heap.size ∧ B ≤ k ∧ notT D w k ∧ Priv D B w k) : Mb D B b w w' :=
 ⟨h.os, h.tape, h.output, h.size, fun k hk _ => h.keep k hk (by simp), h.typ, fun k e => let ⟨h1, h2, h3, h4⟩ := ho k e; ⟨h1, h2, h3, notT_of (h.keep k h1 (by simp)) h3, h4⟩⟩
theorem Own.who {N : Nat} {E : TypeId} {b : Option Nat} {xs : List Value} (h : Own D B N w E v b xs) (hE : E ≠ D.T) : ∀ k, b = some k → k < w.heap.size ∧ B ≤ k ∧ notT D w k ∧ Priv D B w k := by
 rintro k rfl
 rcases h with ⟨_, h, _⟩ | ⟨g, cap, cur, rfl, hb, h1, hB, h2, h3, h4, h5, h6, h7⟩
 · cases h
 obtain rfl := Option.some.inj hb
 exact ⟨heap_lt h2, hB, fun c fr hc => by rw [h2] at hc; exact hE (Obj.cells.inj (Option.some.inj hc)).2.1, h7⟩
theorem Mb.drew_alloc (cs : Array Value) (e : TypeId) (he : e ≠ D.T) : Mb D B none w (w.drew.alloc (.cells cs e)) :=
 let h := Mb.alloc D B w cs e (0, 0) he
 ⟨h.os, h.tape, h.output, h.size, h.keep, h.typ, h.own⟩
theorem run_app {t ty e by_ N M : Nat} {z : Value} {b : Option Nat} {xs news : List Value} {xv : Value} (ht : Sl P t e z by_) (he : e ≠ D.T) (hI : Inv D B w) (hown : Own D B N w e v b xs) (hx : Row D B M w xv news)
  (h1 : ∀ u ∈ news, u.oneCell' = true) (hb : (xs.length + news.length) * by_ ≤ 140737488355328) (hm : xs.length + news.length ≤ maxLen) (hN : N ≤ w.heap.size) :
  ∃ v' b' w', (Builtin.append_ #[t, t] ty #[v, xv]).run P w = .ok v' w' ∧ Own D B N w' e v' b' (xs ++ news) ∧ Mb D B b w w' ∧ (b' = b ∨ b' = some w.heap.size) := by
 have ht' := ht
 obtain ⟨t1, tz, i, t2, t3, t4, t5⟩ := ht
 by_cases h0 : news = []
 ·
  subst h0
  refine ⟨v, b, w, ?_, by simpa using hown, ⟨rfl, rfl, rfl, Nat.le_refl _, fun _ _ _ => rfl, fun k hk c fr hc => by have := heap_lt hc; omega, fun k e' => let ⟨p1, p2, p3, p4⟩ := hown.who he k e'; ⟨p1, p2, p3, p3, p4⟩⟩, .inl rfl⟩
  obtain ⟨xa, xc, rfl, _⟩ := hx.shape
  have hz : ∀ (o : Option Addr) (l c : Nat), (Builtin.firstCells 1 0 (.slice o l c)).run P w = .ok #[] w := by
   intro o l c; cases o <;> simp [Builtin.firstCells, loadCells, loadCellsFrom]
  rcases hown with ⟨rfl, -, rfl⟩ | ⟨g, cap, cur, rfl, rfl, h1', hB, h2, h3, h4, h5, h6, h7⟩
  · simp [Builtin.append_, run_underlying t1, sizeOf, typeInfo, t2, t3, Builtin.lenOf, hz]
  simp [Builtin.append_, run_underlying t1, sizeOf, typeInfo, t2, t3, Builtin.lenOf, hz, h3, storeCells]
 have hpos : 0 < news.length := by cases news with | nil => exact absurd rfl h0 | cons => simp
 rcases hx with ⟨_, _, -, h⟩ | ⟨xg, xo, xcap, rfl, x0, x1, x2, x3, x4⟩
 · exact absurd h h0
 have hnews : ∀ j u, news[j]? = some u → w.cell? ((⟨xg, xo, none⟩ : Addr).add j) = some u := fun j u hu => by rw [Addr.add_eq]; exact x4 j u hu
 have hsm : xs.length + news.length ≤ 9223372036854775807 := by simp only [maxLen] at hm; omega
 have hsz : ∀ k, (Builtin.zeroCells z.cells k).size = k := by intro k; rw [size_zeroCells, tz]; simp
 have hpn : Priv D B w w.heap.size := hI.priv_new (Nat.le_refl _)
 have grown : ∀ old, old < xs.length + news.length → ∀ c, c = grownCap w (xs.length + news.length) old e → ∀ cs, cs = xs.toArray ++ news.toArray ++ Builtin.zeroCells z.cells (c - (xs.length + news.length)) →
   Own D B N (w.drew.alloc (.cells cs e)) e (.slice (some ⟨w.heap.size, 0, none⟩) (xs ++ news).length c) (some w.heap.size) (xs ++ news) := by
  intro old ho c hc cs hcs
  have hge := grownCap_ge w (xs.length + news.length) old e
  have hcm := grownCap_le_maxLen w (xs.length + news.length) old e hm
  refine .inr ⟨w.heap.size, c, cs, rfl, rfl, hN, hI.1, alloc_new w.drew _, by simp; omega, by omega, ?_, ?_, (Mb.drew_alloc cs e he).priv hpn⟩
  · rw [hcs]; simp [hsz]; omega
  rw [hcs]; simp only [Array.toList_append]; rw [List.take_append_of_le_length (by simp)]; exact List.take_of_length_le (by simp)
 rcases hown with ⟨rfl, rfl, rfl⟩ | ⟨g, cap, cur, rfl, rfl, h1', hB, h2, h3, h4, h5, h6, h7⟩
 ·
  have hr := run_append_nil (P := P) w t ty e i z t1 t2 t4 ⟨xg, xo, none⟩ news.length xcap news (by simp [t3]) hnews hpos (by simp only [List.length_nil] at hsm; omega) (by rw [t5]; simp only [List.length_nil, Nat.zero_add] at hb; omega)
  have hg := grown 0 (by simpa using hpos) _ rfl _ rfl
  simp only [List.length_nil, Nat.zero_add, List.nil_append] at hg hr ⊢
  refine ⟨_, _, _, hr, ?_, Mb.drew_alloc _ e he, .inr rfl⟩
  simpa using hg
 have hmw := Own.who (D := D) (B := B) (.inr ⟨g, cap, cur, rfl, rfl, h1', hB, h2, h3, h4, h5, h6, h7⟩ : Own D B N w e (.slice (some ⟨g, 0, none⟩) xs.length cap) (some g) xs) he
 by_cases hroom : xs.length + news.length ≤ cap
 ·
  have hr := run_append_room (P := P) w t ty e i t1 t2 g xs.length cap cur h2 ⟨xg, xo, none⟩ news.length xcap news (by simp [t3]) hnews h1 hroom (by rw [t3, h5]; omega)
  have hmb := Mb.setRow (D := D) (B := B) (cs := (cur.toList.take (xs.length * i.size) ++ news ++ cur.toList.drop (xs.length * i.size + news.length)).toArray) h2 he hB h7
  refine ⟨_, _, _, hr, .inr ⟨g, cap, _, by simp, rfl, h1', hB, setRow_heap w g cur _ e _ h2, by simpa using hroom, h4, ?_, ?_, hmb.priv h7⟩, hmb, .inl rfl⟩
  · rw [t3, Nat.mul_one]
    simp only [List.size_toArray, List.length_append, List.length_take, List.length_drop, Array.length_toList]
    omega
  rw [t3, Nat.mul_one, h6]
  rw [List.take_append_of_le_length (by simp)]
  exact List.take_of_length_le (by simp)
 have holds : ∀ j u, xs[j]? = some u → w.cell? ((⟨g, 0, none⟩ : Addr).add j) = some u := by
  intro j u hu
  rw [Addr.add_eq]
  have hj := (List.getElem?_eq_some_iff.1 hu).1
  rw [← h6, List.getElem?_take, if_pos hj] at hu
  simp only [World.cell?, h2]
  simpa using hu
 have hr := run_append_grow (P := P) w t ty e i z t1 t2 t4 ⟨g, 0, none⟩ xs.length cap xs (by simp [t3]) holds ⟨xg, xo, none⟩ news.length xcap news (by simp [t3]) hnews (by omega) (by omega) (growslice_fits (by omega) (by rw [t5]; exact hb))
 have hg := grown cap (by omega) _ rfl _ rfl
 refine ⟨_, _, _, hr, ?_, (Mb.drew_alloc _ e he).weak hmw, .inr rfl⟩
 simpa using hg
theorem s_app {t e by_ N M : Nat} {ats : Array TypeId} {z : Value} {b : Option Nat} {xs news : List Value} {xv : Value} {s : Operand} (hF : Fr n F a) (hat : ats = #[t, t]) (ht : Sl P t e z by_) (hs : ev F s = some v) (hx : ev F x = some xv)
  (hown : Own D B N w e v b xs) (hrow : Row D B M w xv news) (h1 : ∀ u ∈ news, u.oneCell' = true) (hb : (xs.length + news.length) * by_ ≤ 140737488355328) (hm : xs.length + news.length ≤ maxLen) (hN : N ≤ w.heap.size) (he : e ≠ D.T) (hI : Inv D B w) (hd : Nat.blt d n.n = true)
  (k : ∀ v' b' w' a, Own D B N w' e v' b' (xs ++ news) → Mb D B b w w' → Inv D B w' → (b' = b ∨ b' = some w.heap.size) → Fr n ((d, v') :: F) a → WL P ops K rest a w') :
  WL P ops K (⟨some d, .call ⟨.builtin .append, #[s, x], ats⟩, T, pp, af, none⟩ :: rest) a w := by
 subst hat
 obtain ⟨v', b', w', hr, ho, hmb, hb'⟩ := run_app (ty := T) ht he hI hown hrow h1 hb hm hN
 refine s_run (w' := w') hF (fun ρ h => ?_) hd fun a hF => k v' b' w' a ho hmb (hmb.inv hI) hb' hF
 simp [execOp, resolve, invoke, builtin, h s _ hs, h x _ hx, hr]
@[simp] theorem ints_length (l : List Nat) : (ints l).length = l.length := by simp [ints]
theorem ints_snoc (l : List Nat) (n : Nat) : ints (l ++ [n]) = ints l ++ [.int .i64 (n : Int)] := by simp [ints]
theorem ints_at {l : List Nat} {i n : Nat} (h : l[i]? = some n) : (ints l)[i]? = some (.int .i64 (n : Int)) := by simp [ints, h]
theorem Row.at {M len cap : Nat} {sa : Option Addr} {xs : List Value} {i : Nat} {u : Value} (h : Row D B M w (.slice sa len cap) xs) (hi : xs[i]? = some u) : len = xs.length ∧ ∃ g o, sa = some ⟨g, o, none⟩ ∧ w.cell? ⟨g, o + i, none⟩ = some u := by
 rcases h with ⟨_, _, h1, rfl⟩ | ⟨g, o, cap', h1, h0, h2, h3, h4, h5⟩
 · simp at hi
 obtain ⟨rfl, rfl, rfl⟩ := Value.slice.inj h1
 exact ⟨rfl, g, o, rfl, h5 i u hi⟩
theorem v_slHi {t e by_ len cap h : Nat} {z : Value} {sa : Option Addr} {k : IntKind} (ht : Sl P t e z by_) (hx : ev F x = some (.slice sa len cap)) {y : Operand} (hy : ev F y = some (.int k (h : Int))) (h1 : h ≤ cap) (_ : 0 ≤ cap) :
  Val P (.slice t x none (some y) none) T F w (.slice sa h cap) :=
 fun ρ hρ d p af g => by
  obtain ⟨h2, _, i, h3, h4, _⟩ := ht
  have e1 : (if cap = 0 then sa else sa.map (·.add 0)) = sa := by
   split
   · rfl
   cases sa with
   | none => rfl
   | some a => simp [Addr.add]
  simp [execOp, hρ x _ hx, hρ y _ hy, Instr.sliceAt, Instr.slice, Instr.sliceBounds, Instr.sliceBound, asIntOf, underlying, h2, sizeOf, typeInfo, h3, h4, program, Sem.run, h1]
  first | done | exact e1 | (simpa using e1) | (split <;> rename_i hh <;> first | rfl | (cases sa <;> simp_all [Addr.add]))
theorem v_maxI {k : IntKind} {X Y : Int} {ats : Array TypeId} {n : Nat} {y : Operand} (hat : ats.size = n) (hx : ev F x = some (.int k X)) (hy : ev F y = some (.int k Y)) : Val P (.call ⟨.builtin .max, #[x, y], ats⟩) T F w (.int k (max X Y)) :=
 fun ρ h d p af g => by
  have e : (if Y > X then Y else X) = max X Y := by split <;> omega
  simp [execOp, resolve, invoke, builtin, Builtin.max_, Builtin.max2, h x _ hx, h y _ hy]
  first | done | exact e | omega
theorem Row.sl {M : Nat} {v : Value} {xs : List Value} (h : Row D B M w v xs) : ∃ sa sc, v = .slice sa xs.length sc := by
 obtain ⟨a, c, h1, _⟩ := h.shape
 exact ⟨a, c, h1⟩
end
end Go.Gam
/- Plain laws that the statements' walks take. No program in sight. -/
namespace Go.Gam
open Px
theorem two_pow16 {d : Nat} (h : d ≤ 16) : 2 ^ d ≤ 65536 := Nat.pow_le_pow_right (n := 2) (by decide) h
end Go.Gam
/- The fields of the program: the powers of x, the tables, what each function of a field tells. No program in sight. -/
namespace Go.Gam
open Px
structure Prm (wb p : Nat) : Prop where
 w : wb = 8 ∨ wb = 16
 pr : prim p = true
 lg : Nat.log2 p = wb
namespace Prm
variable {wb p : Nat} (h : Prm wb p)
include h
open Classical in
theorem irr' : irr p = true := by
 have := h.pr
 unfold prim at this
 exact (of_decide_eq_true this).1
theorem irrP : Irr p := irr_Irr h.irr'
theorem p0 : p ≠ 0 := by have := irr_range h.irr'; omega
theorem lt : p < 131072 := (irr_range h.irr').2
theorem size : 256 ≤ 2 ^ wb ∧ 2 ^ wb ≤ 65536 := by rcases h.w with rfl | rfl <;> decide
theorem order : 255 ≤ 2 ^ wb - 1 := by have := h.size; omega
def fld : Fld := irrFld p h.irrP
theorem fld_w : h.fld.w = wb := h.lg
theorem pw_pow : ∀ n, pw p n = h.fld.pow 2 n
 | 0 => rfl
 | n + 1 => by rw [pw, Fld.pow, pw_pow n]; rfl
theorem two_lt : 2 < 2 ^ h.fld.w := by rw [h.fld_w]; have := h.size; omega
theorem pw_lt (n : Nat) : pw p n < 2 ^ wb := by rw [h.pw_pow]; have := h.fld.pow_lt 2 n; rw [h.fld_w] at this; exact this
theorem pw_ne (n : Nat) : pw p n ≠ 0 := by rw [h.pw_pow]; exact h.fld.pow_ne h.two_lt (by decide) n
theorem pw_add (m n : Nat) : pw p (m + n) = mulMod (pw p m) (pw p n) p := by rw [h.pw_pow, h.pw_pow, h.pw_pow, Fld.pow_add]; rfl
theorem mod2 : mod 2 p = 2 := x_lt (by rw [h.lg]; rcases h.w with rfl | rfl <;> decide)
theorem pw_x (n : Nat) : Px.pow 2 p n = pw p n := by rw [pow_x h.irrP, h.mod2, h.pw_pow]; rfl
open Classical in
theorem pw_prim : pw p (2 ^ wb - 1) = 1 ∧ ∀ k, 1 ≤ k → k < 2 ^ wb - 1 → pw p k ≠ 1 := by
 have := h.pr
 rw [prim_same] at this
 unfold primR at this
 obtain ⟨_, h2, h3⟩ := of_decide_eq_true this
 rw [h.lg] at h2 h3
 exact ⟨by rw [← h.pw_x]; exact h2, fun k a b => by rw [← h.pw_x]; exact h3 k a b⟩
theorem pw_mod (n : Nat) : pw p (n % (2 ^ wb - 1)) = pw p n := by
 have e := Nat.div_add_mod n (2 ^ wb - 1)
 conv => rhs; rw [← e]
 rw [h.pw_pow, h.pw_pow, Fld.pow_add, ← Fld.pow_mul, ← h.pw_pow (2 ^ wb - 1), h.pw_prim.1, Fld.one_pow, Fld.one]
 rw [h.fld_w, ← h.pw_pow]; exact h.pw_lt _
theorem pw_inj {i j : Nat} (hi : i < 2 ^ wb - 1) (hj : j < 2 ^ wb - 1) (e : pw p i = pw p j) : i = j := by
 have key : ∀ i j, i < j → j < 2 ^ wb - 1 → pw p i = pw p j → False := by
  intro i j hij hj e
  have h1 : pw p j = mulMod (pw p i) (pw p (j - i)) p := by rw [← h.pw_add]; congr 1; omega
  have h2 : pw p (j - i) = 1 := by
   refine h.fld.cancel (c := pw p i) (by rw [h.fld_w]; exact h.pw_lt _) h.fld.one_lt (by rw [h.fld_w]; exact h.pw_lt _) (h.pw_ne i) ?_
   rw [h.fld.one _ (by rw [h.fld_w]; exact h.pw_lt _), h.fld.comm]
   show mulMod _ _ p = _
   rw [← h1, e]
  exact h.pw_prim.2 (j - i) (by omega) (by omega) h2
 rcases Nat.lt_trichotomy i j with h1 | h1 | h1
 · exact (key i j h1 hj e).elim
 · exact h1
 exact (key j i h1 hi e.symm).elim
theorem pw_onto {a : Nat} (ha : a < 2 ^ wb) (h0 : a ≠ 0) : ∃ i, i < 2 ^ wb - 1 ∧ pw p i = a := by
 have hnd : ((List.range (2 ^ wb - 1)).map (pw p)).Nodup := by
  unfold List.Nodup
  rw [List.pairwise_map]
  exact List.Pairwise.imp_of_mem (fun {a b} ha hb hab => fun e => hab (h.pw_inj (List.mem_range.1 ha) (List.mem_range.1 hb) e)) List.nodup_range
 have hp := Fld.perm_of_sub _ (List.range' 1 (2 ^ wb - 1)) hnd (fun x hx => by
  obtain ⟨i, _, rfl⟩ := List.mem_map.1 hx
  have h1 := h.pw_lt i
  have h2 := h.pw_ne i
  exact List.mem_range'_1.2 ⟨by omega, by omega⟩) (by simp)
 have hm : a ∈ List.range' 1 (2 ^ wb - 1) := List.mem_range'_1.2 ⟨by omega, by omega⟩
 obtain ⟨i, hi, e⟩ := List.mem_map.1 (hp.mem_iff.2 hm)
 exact ⟨i, List.mem_range.1 hi, e⟩
end Prm
theorem expL_zero (w p : Nat) : expL w p 0 = List.replicate (2 ^ w) 0 := by simp [expL]
theorem expL_len {w p k : Nat} (hk : k ≤ 2 ^ w) : (expL w p k).length = 2 ^ w := by simp [expL]; omega
theorem expL_step {w p k : Nat} (hk : k < 2 ^ w) : (expL w p k).set k (pw p k) = expL w p (k + 1) := by
 apply List.ext_getElem?
 intro i
 have hl : k < (expL w p k).length := by rw [expL_len (by omega)]; exact hk
 rw [List.getElem?_set]
 unfold expL
 simp only [List.getElem?_append, List.length_map, List.length_range, List.getElem?_map, List.getElem?_replicate]
 by_cases h1 : k = i
 ·
  subst h1
  have : k < ((List.range k).map (pw p) ++ List.replicate (2 ^ w - k) 0).length := by simp; omega
  rw [if_pos rfl, if_pos (by simp [expL] at hl ⊢; omega), if_pos (by omega)]
  simp
 rw [if_neg h1]
 by_cases h2 : i < k
 · simp [h2, show i < k + 1 by omega]
 have h3 : ¬ i < k + 1 := by omega
 simp only [h2, if_false, h3]
 by_cases h4 : i - k < 2 ^ w - k
 · rw [if_pos h4, if_pos (by omega)]
 rw [if_neg h4, if_neg (by omega)]
theorem expL_at {w p k i : Nat} (hi : i < k) : (expL w p k)[i]? = some (pw p i) := by
 unfold expL
 rw [List.getElem?_append_left (by simpa using hi)]
 simp [hi]
theorem logL_len (w p : Nat) : ∀ k, (logL w p k).length = 2 ^ w
 | 0 => by simp [logL]
 | k + 1 => by rw [logL, List.length_set, logL_len w p k]
theorem logL_at {w p : Nat} (h : Prm w p) : ∀ {k i : Nat}, k ≤ 2 ^ w - 1 → i < k → (logL w p k)[pw p i]? = some i
 | 0, i, _, hi => by omega
 | k + 1, i, hk, hi => by
  rw [logL, List.getElem?_set, logL_len]
  by_cases e : i = k
  · subst e; simp [h.pw_lt]
  rw [if_neg (fun e2 => e (h.pw_inj (by omega) (by omega) e2.symm)), logL_at h (by omega) (by omega)]
theorem ints_set (l : List Nat) (i n : Nat) : (ints l).set i (.int .i64 (n : Int)) = ints (l.set i n) := by simp [ints, List.map_set]
abbrev Fq := Option (Nat × Nat)
def fsz : Fq → Nat
 | none => 0
 | some q => 2 ^ q.1
def inF (o : Fq) (a : Int) : Bool := decide (0 ≤ a ∧ a < (fsz o : Int))
def fmul : Fq → Nat → Nat → Nat
 | none, _, _ => 0
 | some q, a, b => mulMod a b q.2
def gmul (o : Fq) (a b : Int) : Int := if inF o a = true ∧ inF o b = true then (fmul o a.toNat b.toNat : Int) else 0
def fpow : Fq → Nat → Nat → Nat
 | none, _, _ => 0
 | some q, a, n => Px.pow a q.2 n
def gpow (o : Fq) (a n : Int) : Int := if inF o a = true ∧ 0 ≤ n then (fpow o a.toNat n.toNat : Int) else 0
def ginvb (o : Fq) (a : Int) : Bool := inF o a && !decide (a = 0)
def ginv (o : Fq) (a : Int) : Int := if ginvb o a = true then gpow o a ((fsz o : Int) - 2) else 0
def Fo (D : FD) (B : Nat) (w : World) (v : Value) : Fq → Prop
 | none => v = .pointer none
 | some q => Prm q.1 q.2 ∧ ∃ k, v = .pointer (some ⟨k, 0, none⟩) ∧ FOK D B w k q.1 q.2
theorem Fo.st {D : FD} {B : Nat} {w w' : World} {v : Value} {o : Fq} (h : Fo D B w v o) (hs : St D B w w') : Fo D B w' v o := by
 cases o with
 | none => exact h
 | some q => obtain ⟨h1, k, h2, h3⟩ := h; exact ⟨h1, k, h2, h3.st hs⟩
theorem Fo.mb {D : FD} {B : Nat} {b : Option Nat} {w w' : World} {v : Value} {o : Fq} (h : Fo D B w v o) (hm : Mb D B b w w') : Fo D B w' v o := by
 cases o with
 | none => exact h
 | some q => obtain ⟨h1, k, h2, h3⟩ := h; exact ⟨h1, k, h2, hm.fok h3⟩
theorem FOK.w0 {D : FD} {B : Nat} {w : World} {k wb p : Nat} (h : FOK D B w k wb p) : w.cell? ⟨k, 0, none⟩ = some (.int .i64 (wb : Int)) := by
 rcases h.2 with h | ⟨e, l, h, _⟩ <;> simp [World.cell?, h, fcells]
theorem FOK.p0 {D : FD} {B : Nat} {w : World} {k wb p : Nat} (h : FOK D B w k wb p) : w.cell? ⟨k, 1, none⟩ = some (.int .u32 (p : Int)) := by
 rcases h.2 with h | ⟨e, l, h, _⟩ <;> simp [World.cell?, h, fcells]
theorem fsz_le {D : FD} {B : Nat} {w : World} {v : Value} {o : Fq} (h : Fo D B w v o) : fsz o ≤ 65536 := by
 cases o with
 | none => simp [fsz]
 | some q => exact h.1.size.2
theorem St.field {D : FD} {B : Nat} {w : World} (hI : Inv D B w) (wb p : Nat) :
  St D B w (w.alloc (.cells (fcells wb p 0 (.slice none 0 0) (.slice none 0 0)) D.T)) ∧ FOK D B (w.alloc (.cells (fcells wb p 0 (.slice none 0 0) (.slice none 0 0)) D.T)) w.heap.size wb p := by
 have hold : ∀ k, k < w.heap.size → (w.alloc (.cells (fcells wb p 0 (.slice none 0 0) (.slice none 0 0)) D.T)).heap[k]? = w.heap[k]? := fun k hk => RowKit.Below.heap_alloc w _ k hk
 have hnew := alloc_new w (.cells (fcells wb p 0 (.slice none 0 0) (.slice none 0 0)) D.T)
 generalize hw' : w.alloc (.cells (fcells wb p 0 (.slice none 0 0) (.slice none 0 0)) D.T) = w' at *
 have hsz : w'.heap.size = w.heap.size + 1 := by rw [← hw']; simp
 have hos : w'.os = w.os ∧ w'.tape = w.tape ∧ w'.output = w.output := by rw [← hw']; exact ⟨rfl, rfl, rfl⟩
 have htab : ∀ v xs, Tab D.E B w v xs → Tab D.E B w' v xs := by
  rintro v xs ⟨g, h1, h2, h3⟩
  exact ⟨g, h1, h2, by rw [hold g (heap_lt h3)]; exact h3⟩
 have hmade : ∀ k wb p e l, Made D B w k wb p e l → Made D B w' k wb p e l := by
  rintro k wb p e l ⟨h1, h2, h3, h4⟩
  exact ⟨h1, by rw [hold k (heap_lt h2)]; exact h2, htab _ _ h3, htab _ _ h4⟩
 have hfok : ∀ k wb p, FOK D B w k wb p → FOK D B w' k wb p := by
  rintro k wb p ⟨h1, h2 | h2⟩
  · exact ⟨h1, .inl (by rw [hold k (heap_lt h2)]; exact h2)⟩
  obtain ⟨e, l, h2, h3, h4⟩ := h2
  exact ⟨h1, .inr ⟨e, l, by rw [hold k (heap_lt h2)]; exact h2, htab _ _ h3, htab _ _ h4⟩⟩
 have hT : ∀ k c fr, w'.heap[k]? = some (.cells c D.T fr) → (w.heap[k]? = some (.cells c D.T fr)) ∨ (k = w.heap.size ∧ c = fcells wb p 0 (.slice none 0 0) (.slice none 0 0)) := by
  intro k c fr hc
  by_cases hk : k < w.heap.size
  · exact .inl (by rw [← hold k hk]; exact hc)
  have : k = w.heap.size := by have := heap_lt hc; omega
  subst this
  rw [hnew] at hc
  exact .inr ⟨rfl, (Obj.cells.inj (Option.some.inj hc)).1.symm⟩
 have hF : FOK D B w' w.heap.size wb p := ⟨hI.1, .inl hnew⟩
 refine ⟨⟨⟨hos.1, hos.2.1, hos.2.2, by omega, fun k hk _ => hold k hk, hfok, fun b hb hp k hk c fr hc => ?_, hmade⟩, ⟨by have := hI.1; omega, fun k hk c fr hc => ?_⟩⟩, hF⟩
 ·
  rcases hT k c fr hc with h | ⟨rfl, rfl⟩
  · exact hp k hk c fr h
  intro a n m hm
  simp [fcells] at hm
 rcases hT k c fr hc with h | ⟨rfl, rfl⟩
 · obtain ⟨wb, p, h⟩ := hI.2 k hk c fr h
   exact ⟨wb, p, hfok _ _ _ h⟩
 exact ⟨wb, p, hF⟩
section
variable {P : Program} {ops : Array Oper} {K : Kont} {rest : List Oper} {n : NN} {F : Fs} {T : TypeId} {pp : String} {af : Array Edge} {v : Value} {d : Nat} {a : Act} {w : World} {x : Operand} {D : FD} {B : Nat}
theorem s_field {e wb p : Nat} (hF : Fr n F a) (he : e = D.T) (hx : ev F x = some (.agg (fcells wb p 0 (.slice none 0 0) (.slice none 0 0)))) (hI : Inv D B w) (hd : Nat.blt d n.n = true)
  (k : ∀ w' a, St D B w w' → FOK D B w' w.heap.size wb p → Fr n ((d, .pointer (some ⟨w.heap.size, 0, none⟩)) :: F) a → WL P ops K rest a w') :
  WL P ops K (⟨some d, .box e x, T, pp, af, none⟩ :: rest) a w := by
 subst he
 have h := St.field hI wb p
 refine s_run (w' := w.alloc (.cells (fcells wb p 0 (.slice none 0 0) (.slice none 0 0)) D.T)) hF (fun ρ h => ?_) hd fun a hF => k _ a h.1 h.2 hF
 simp [execOp, Instr.box, h x _ hx, newVar, newRow, newObj, Sem.run]
 rfl
end
theorem shl_i64 {d : Nat} (h : d ≤ 62) : IntKind.wrap .i64 (1 * 2 ^ (min (d : Int).toNat IntKind.i64.bits)) = ((2 ^ d : Nat) : Int) := by
 have h1 : min (d : Int).toNat IntKind.i64.bits = d := by show min d 64 = d; omega
 rw [h1, Int.one_mul, show ((2:Int) ^ d) = ((2 ^ d : Nat) : Int) from (Int.natCast_pow 2 d).symm]
 refine wrap_i64 _ ?_
 have := Nat.pow_le_pow_right (n := 2) (by decide) h
 have h2 : (((2:Nat) ^ d : Nat) : Int) ≤ ((2 ^ 62 : Nat) : Int) := by exact_mod_cast this
 have h3 : ((2 ^ 62 : Nat) : Int) = 4611686018427387904 := by decide
 have h4 := Int.natCast_nonneg (2 ^ d)
 rw [h3] at h2
 omega
noncomputable def newF (W : Int) (p : Nat) : Fq := if (W = 8 ∨ W = 16) ∧ deg p = W ∧ prim p = true then some (W.toNat, p) else none
theorem newF_t {W : Int} {p : Nat} (h : (W = 8 ∨ W = 16) ∧ deg p = W ∧ prim p = true) : newF W p = some (W.toNat, p) := if_pos h
theorem newF_f {W : Int} {p : Nat} (h : ¬ ((W = 8 ∨ W = 16) ∧ deg p = W ∧ prim p = true)) : newF W p = none := if_neg h
theorem newF_prm {W : Int} {p : Nat} (h : (W = 8 ∨ W = 16) ∧ deg p = W ∧ prim p = true) : Prm W.toNat p := by
 refine ⟨by omega, h.2.2, ?_⟩
 have h2 := h.2.1
 have : p ≠ 0 := fun e => by rw [e, deg_zero] at h2; omega
 rw [deg_pos this] at h2
 omega
theorem FOK.cases {D : FD} {B : Nat} {w : World} {k wb p : Nat} (h : FOK D B w k wb p) :
  (B ≤ k ∧ w.heap[k]? = some (.cells (fcells wb p 0 (.slice none 0 0) (.slice none 0 0)) D.T (0, 0))) ∨ ∃ ge gl, Made D B w k wb p ge gl := by
 obtain ⟨hB, h | ⟨e, l, h, ⟨g, rfl, h1, h2⟩, ⟨g', rfl, h3, h4⟩⟩⟩ := h
 · exact .inl ⟨hB, h⟩
 refine .inr ⟨g, g', hB, ?_, ⟨g, ?_, h1, h2⟩, ⟨g', ?_, h3, h4⟩⟩
 · rw [h]; simp only [tv, ints_length, expL_len (Nat.sub_le (2 ^ wb) 1), logL_len]
 · simp only [tv, ints_length, expL_len (Nat.sub_le (2 ^ wb) 1)]
 simp only [tv, ints_length, logL_len]
theorem Made.c2 {D : FD} {B : Nat} {w : World} {k wb p ge gl : Nat} (h : Made D B w k wb p ge gl) : w.cell? ⟨k, 2, none⟩ = some (.int .u32 1) := by simp [World.cell?, h.2.1, fcells]
theorem Made.c5 {D : FD} {B : Nat} {w : World} {k wb p ge gl : Nat} (h : Made D B w k wb p ge gl) : w.cell? ⟨k, 5, none⟩ = some (tv wb ge) := by simp [World.cell?, h.2.1, fcells]
theorem Made.c6 {D : FD} {B : Nat} {w : World} {k wb p ge gl : Nat} (h : Made D B w k wb p ge gl) : w.cell? ⟨k, 6, none⟩ = some (tv wb gl) := by simp [World.cell?, h.2.1, fcells]
theorem Made.exp {D : FD} {B : Nat} {w : World} {k wb p ge gl i : Nat} (h : Made D B w k wb p ge gl) (hi : i < 2 ^ wb - 1) : w.cell? ⟨ge, i, none⟩ = some (.int .i64 (pw p i : Int)) := by
 obtain ⟨_, _, ⟨g, h1, _, h2⟩, _⟩ := h
 simp only [tv, Value.slice.injEq, Option.some.injEq, Addr.mk.injEq] at h1
 obtain ⟨⟨rfl, _⟩, _⟩ := h1
 simp [World.cell?, h2, ints, expL_at hi]
theorem Made.log {D : FD} {B : Nat} {w : World} {k wb p ge gl a n : Nat} (h : Made D B w k wb p ge gl) (hi : (logL wb p (2 ^ wb - 1))[a]? = some n) : w.cell? ⟨gl, a, none⟩ = some (.int .i64 (n : Int)) := by
 obtain ⟨_, _, _, ⟨g, h1, _, h2⟩⟩ := h
 simp only [tv, Value.slice.injEq, Option.some.injEq, Addr.mk.injEq] at h1
 obtain ⟨⟨rfl, _⟩, _⟩ := h1
 simp [World.cell?, h2, ints, hi]
end Go.Gam
/- Regions whose order is open. No program in sight. -/
namespace Go.Gam
open Go
def WA (P : Program) (D : FD) (B : Nat) (ops : Array Oper) (K : Kont) (fuel : Nat) (L : Array Bool) (a : Act) (w : World) : Prop :=
 wpAnyH P .any ops (Qof K [] (fun _ _ => False)) (fun w' => Ext D B w w') fuel L a w
section
variable {P : Program} {D : FD} {B : Nat} {N : Kont} {X : List (Nat × Kont)} {R : Kont} {a : Act} {w : World} {ops : Array Oper} {K : Kont} {fuel : Nat} {L : Array Bool} {n : NN} {F : Fs} {op : Op} {T : TypeId} {pp : String} {af : Array Edge} {v : Value} {d : Nat}
theorem ext_drew (D : FD) (B : Nat) (w : World) : Ext D B w { w with drawn := w.drawn + 1 } :=
 ⟨rfl, rfl, rfl, Nat.le_refl _, fun _ _ _ => rfl, fun _ _ _ h => h, fun _ _ h => h, fun _ _ _ _ _ h => h⟩
theorem St.drew {D : FD} {B : Nat} {w : World} (hI : Inv D B w) : St D B w { w with drawn := w.drawn + 1 } := ⟨ext_drew D B w, hI⟩
theorem W_draw {id m : Nat} (hsz : ops.size = m) (hm : P.follows .mixedOrders = true) (hI : Inv D B w)
  (h : ∀ K : Kont, (∀ a w, N a w → K a w) → ∀ w', St D B w w' → w'.heap = w.heap → WA P D B ops K m (Array.replicate m false) a w') : W P (.region id ops true) N X R a w := by
 subst hsz
 refine wp_mono (wp_region_held hm (h N (fun _ _ h => h) { w with drawn := w.drawn + 1 } ⟨ext_drew D B w, hI⟩ rfl)) fun e a w hq => ?_
 cases e with
 | exit i => simp [Qof, lookX] at hq
 | normal => exact hq
 | ret => exact hq.elim
 | goto l => exact hq.elim
 | panic c => exact hq.elim
 | outgrown => exact hq.elim
theorem W_sd {id m : Nat} {y : Code} (hsz : ops.size = m) (hm : P.follows .mixedOrders = true) (hI : Inv D B w)
  (h : ∀ K : Kont, (∀ a w, W P y N X R a w → K a w) → ∀ w', St D B w w' → w'.heap = w.heap → WA P D B ops K m (Array.replicate m false) a w') : W P (.seq (.region id ops true) y) N X R a w :=
 W_seq (W_draw hsz hm hI h)
def okv (ops : Array Oper) (L : Array Bool) (i : Nat) : Bool := Region.noSelect ops && Region.free .any ops L i && (Region.ready .any ops L).contains i
theorem a_take {i : Nat} {o : Oper} (hi : nth ops.toList i = some o) (hk : okv ops L i = true) (hy : YieldsIf P ops (fun w' => Ext D B w w') o v a)
  (k : WA P D B ops K fuel (L.setIfInBounds i true) (a.put o.dst v) w) : WA P D B ops K (fuel + 1) L a w := by
 simp only [okv, Bool.and_eq_true] at hk
 rw [nth_eq, Array.getElem?_toList] at hi
 exact wpAnyH_take hi hk.1.1 hk.1.2 hk.2 (fun _ _ _ h => h) hy (Ext.refl _ _ _) k
theorem a_v {i : Nat} (hi : nth ops.toList i = some ⟨some d, op, T, pp, af, none⟩) (hk : okv ops L i = true) (hF : Fr n F a) (hv : ∀ w', Ext D B w w' → Val P op T F w' v) (hd : Nat.blt d n.n = true)
  (k : ∀ a, Fr n ((d, v) :: F) a → WA P D B ops K fuel (L.setIfInBounds i true) a w) : WA P D B ops K (fuel + 1) L a w :=
 a_take hi hk (.inl ⟨by simp [Region.wanted], fun w' hw => hv w' hw a.eval hF.reads _ _ _ _⟩) (k _ (hF.put hd))
theorem upon_congr {o : Oper} {next : Act → World → Prop} {Q Q' : Exit → Act → World → Prop} (hp : ∀ c a w, Q (.panic c) a w → Q' (.panic c) a w) (hl : LetsOut Q → LetsOut Q') {r : Result Next} (h : o.upon P a next Q r) : o.upon P a next Q' r := by
 cases r with
 | ok nx w' =>
  cases nx <;> simp only [Oper.upon] at h ⊢ <;> first
   | exact h
   | exact Calls.mono h (fun e w'' he => by cases e <;> first | exact he | exact hp _ _ _ he | exact hl he)
 | halt x w' => cases x <;> simp only [Oper.upon] at h ⊢ <;> first | exact hp _ _ _ h | exact h
theorem a_e {i : Nat} {o : Oper} (hi : nth ops.toList i = some o) (hr : Region.ready .any ops L = [i]) (h : WL P ops (fun a' w' => Ext D B w w' ∧ WA P D B ops K fuel (L.setIfInBounds i true) a' w') [o] a w) : WA P D B ops K (fuel + 1) L a w := by
 rw [nth_eq, Array.getElem?_toList] at hi
 have strong : ∀ w1, Ext D B w w1 → ∀ (m : Nat) (L : Array Bool) (a : Act) (w2 : World), wpAnyH P .any ops (Qof K [] (fun _ _ => False)) (fun w' => Ext D B w1 w') m L a w2 →
   wpAnyH P .any ops (Qof K [] (fun _ _ => False)) (fun w' => Ext D B w w') m L a w2 := by
  intro w1 h1 m
  induction m with
  | zero => intro L a w2 h; exact h
  | succ m ih => intro L a w2 h; exact ⟨h.1, fun i hi => wpOp_mono (fun a' w' h' => ⟨h1.trans h'.1, ih _ _ _ h'.2⟩) (h.2 i hi)⟩
 refine wpAnyH_all hr (by simp) ?_
 intro j hj
 obtain rfl : j = i := by simpa using hj
 unfold wpOp
 simp only [hi]
 have hno : ∀ K' : Kont, ¬ LetsOut (Qof K' [] (fun _ _ => False)) := fun K' ⟨a, w, h⟩ => h
 unfold WL wpList at h
 split
 ·
  rename_i hw
  rw [if_pos hw] at h
  rcases h with h | ⟨_, h⟩
  ·
   refine .inl ?_
   refine Oper.wp_mono (K := wpList P ops (Qof (fun a' w' => Ext D B w w' ∧ WA P D B ops K fuel (L.setIfInBounds j true) a' w') [] (fun _ _ => False)) []) (fun a' w' hk => ?_) (upon_congr (fun _ _ _ h => h) (fun h => absurd h (hno _)) h)
   obtain ⟨h1, h2⟩ : Ext D B w w' ∧ WA P D B ops K fuel (L.setIfInBounds j true) a' w' := hk
   exact ⟨h1, strong w' h1 fuel _ a' w' h2⟩
  exact absurd h (hno _)
 rename_i hw
 rw [if_neg hw] at h
 obtain ⟨h1, h2⟩ : Ext D B w w ∧ WA P D B ops K fuel (L.setIfInBounds j true) (a.put o.dst undef) w := h
 exact ⟨h1, h2⟩
theorem a_done (hr : Region.ready .any ops L = []) (h : K a w) : WA P D B ops K fuel L a w := wpAnyH_done hr h fuel
end
end Go.Gam
/- Stores into blocks, and regions of open order that store: for the making of a field's tables. No program in sight. -/
namespace Go.Gam
open Go Px
structure Upd (w w' : World) (b : Nat) (o : Obj) : Prop where
 os : w'.os = w.os
 tape : w'.tape = w.tape
 output : w'.output = w.output
 size : w'.heap.size = w.heap.size
 new : w'.heap[b]? = some o
 keep : ∀ j, j ≠ b → w'.heap[j]? = w.heap[j]?
theorem Upd.setRow {w : World} {g : Nat} {cur cs : Array Value} {t : TypeId} {fr : Nat × Nat} (hg : w.heap[g]? = some (.cells cur t fr)) : Upd w (w.setRow g cs) g (.cells cs t fr) :=
 ⟨rfl, rfl, rfl, by simp [World.setRow], setRow_heap w g cur cs t fr hg, fun j hj => setRow_other w g j cs hj⟩
section
variable {P : Program} {ops : Array Oper} {K : Kont} {rest : List Oper} {n : NN} {F : Fs} {T : TypeId} {pp : String} {af : Array Edge} {v : Value} {d : Nat} {a : Act} {w : World} {x y : Operand}
def One (P : Program) (t : TypeId) : Prop := (P.info? t).map (·.size) = some 1
theorem run_size1 {t : TypeId} (h : One P t) (w : World) : (sizeOf t).run P w = .ok 1 w := by
 unfold One at h
 cases hi : P.info? t with
 | none => rw [hi] at h; cases h
 | some i =>
  rw [hi] at h
  have : i.size = 1 := by simpa using h
  simp [sizeOf, typeInfo, hi, program, Sem.run, this]
theorem s_st {t b o : Nat} {E : TypeId} {cur : Array Value} (hF : Fr n F a) (ht : One P t) (hx : ev F x = some (.pointer (some ⟨b, o, none⟩))) (hy : ev F y = some v) (hv : v.oneCell' = true)
  (hb : w.heap[b]? = some (.cells cur E (0, 0))) (ho : o < cur.size) (k : ∀ w', Upd w w' b (.cells (cur.setIfInBounds o v) E (0, 0)) → WL P ops K rest a w') :
  WL P ops K (⟨none, .store t x y, T, pp, af, none⟩ :: rest) a w := by
 have hc : v.cells = #[v] := by cases v <;> first | rfl | simp [Value.oneCell'] at hv
 have hst := run_storeCells_at P b o E [v] 0 cur w hb (by simp; omega) (by simpa using hv)
 have hset : (cur.toList.take (o + 0) ++ [v] ++ cur.toList.drop (o + 0 + [v].length)).toArray = cur.setIfInBounds o v := by
  apply Array.toList_inj.1
  rw [Array.toList_setIfInBounds, List.set_eq_take_append_cons_drop, if_pos (by simpa using ho)]
  simp
 rw [hset] at hst
 have hrun : (execOp a.eval ⟨none, .store t x y, T, pp, af, none⟩).run P w = .ok .skip (w.setRow b (cur.setIfInBounds o v)) := by
  simp only [execOp, hF.reads x _ hx, hF.reads y _ hy, Instr.storeAt, Instr.sureAddr, storeVar, hc]
  simp [run_size1 ht, hst]
 unfold WL wpList
 rw [if_pos (by simp [Region.wanted])]
 refine .inl ?_
 unfold Oper.wp
 rw [hrun]
 exact k _ (Upd.setRow hb)
end
def WS (P : Program) (S : World → Prop) (ops : Array Oper) (K : Kont) (fuel : Nat) (L : Array Bool) (a : Act) (w : World) : Prop :=
 wpAnyH P .any ops (Qof K [] (fun _ _ => False)) S fuel L a w
section
variable {P : Program} {S : World → Prop} {N : Kont} {X : List (Nat × Kont)} {R : Kont} {a : Act} {w : World} {ops : Array Oper} {K : Kont} {fuel : Nat} {L : Array Bool} {n : NN} {F : Fs} {op : Op} {T : TypeId} {pp : String} {af : Array Edge} {v : Value} {d : Nat}
theorem W_dS (S : World → Prop) {id m : Nat} (hsz : ops.size = m) (hm : P.follows .mixedOrders = true)
  (h : ∀ K : Kont, (∀ a w, N a w → K a w) → WS P S ops K m (Array.replicate m false) a { w with drawn := w.drawn + 1 }) : W P (.region id ops true) N X R a w := by
 subst hsz
 refine wp_mono (wp_region_held hm (h N (fun _ _ h => h))) fun e a w hq => ?_
 cases e with
 | exit i => simp [Qof, lookX] at hq
 | normal => exact hq
 | ret => exact hq.elim
 | goto l => exact hq.elim
 | panic c => exact hq.elim
 | outgrown => exact hq.elim
theorem b_v {i : Nat} (hi : nth ops.toList i = some ⟨some d, op, T, pp, af, none⟩) (hk : okv ops L i = true) (hF : Fr n F a) (hv : ∀ w', S w' → Val P op T F w' v) (hd : Nat.blt d n.n = true) (hS : S w)
  (k : ∀ a, Fr n ((d, v) :: F) a → WS P S ops K fuel (L.setIfInBounds i true) a w) : WS P S ops K (fuel + 1) L a w := by
 simp only [okv, Bool.and_eq_true] at hk
 rw [nth_eq, Array.getElem?_toList] at hi
 exact wpAnyH_take hi hk.1.1 hk.1.2 hk.2 (fun _ _ _ h => h) (.inl ⟨by simp [Region.wanted], fun w' hw => hv w' hw a.eval hF.reads _ _ _ _⟩) hS (k _ (hF.put hd))
theorem of_WL {i : Nat} {o : Oper} (hi : nth ops.toList i = some o) (h : WL P ops (fun a' w' => S w' ∧ WS P S ops K fuel (L.setIfInBounds i true) a' w') [o] a w) :
  wpOp P ops (Qof K [] (fun _ _ => False)) i (fun a' w' => S w' ∧ wpAnyH P .any ops (Qof K [] (fun _ _ => False)) S fuel (L.setIfInBounds i true) a' w') a w := by
 rw [nth_eq, Array.getElem?_toList] at hi
 unfold wpOp
 simp only [hi]
 have hno : ∀ K' : Kont, ¬ LetsOut (Qof K' [] (fun _ _ => False)) := fun K' ⟨a, w, h⟩ => h
 unfold WL wpList at h
 split
 ·
  rename_i hw
  rw [if_pos hw] at h
  rcases h with h | ⟨_, h⟩
  · refine .inl ?_
    exact Oper.wp_mono (K := wpList P ops (Qof (fun a' w' => S w' ∧ WS P S ops K fuel (L.setIfInBounds i true) a' w') [] (fun _ _ => False)) []) (fun a' w' hk => hk) (upon_congr (fun _ _ _ h => h) (fun h => absurd h (hno _)) h)
  exact absurd h (hno _)
 rename_i hw
 rw [if_neg hw] at h
 exact h
theorem b_e {i : Nat} {o : Oper} (hr : Region.ready .any ops L = [i]) (hi : nth ops.toList i = some o) (h : WL P ops (fun a' w' => S w' ∧ WS P S ops K fuel (L.setIfInBounds i true) a' w') [o] a w) : WS P S ops K (fuel + 1) L a w :=
 wpAnyH_all hr (by simp) fun j hj => by obtain rfl : j = i := by simpa using hj
                                        exact of_WL hi h
theorem b_e2 {i i' : Nat} {o o' : Oper} (hr : Region.ready .any ops L = [i, i']) (hi : nth ops.toList i = some o) (hi' : nth ops.toList i' = some o') (h : WL P ops (fun a' w' => S w' ∧ WS P S ops K fuel (L.setIfInBounds i true) a' w') [o] a w)
  (h' : WL P ops (fun a' w' => S w' ∧ WS P S ops K fuel (L.setIfInBounds i' true) a' w') [o'] a w) : WS P S ops K (fuel + 1) L a w :=
 wpAnyH_all hr (by simp) fun j hj => by
  have : j = i ∨ j = i' := by simpa using hj
  rcases this with rfl | rfl
  · exact of_WL hi h
  exact of_WL hi' h'
theorem b_done (hr : Region.ready .any ops L = []) (h : K a w) : WS P S ops K fuel L a w := wpAnyH_done hr h fuel
end
structure Mid (E T m : Nat) (w w1 : World) (k : Nat) (C : Array Value) (gs : List Nat) : Prop where
 os : w1.os = w.os
 tape : w1.tape = w.tape
 output : w1.output = w.output
 size : w1.heap.size = w.heap.size + gs.length
 keep : ∀ j, j < w.heap.size → j ≠ k → w1.heap[j]? = w.heap[j]?
 blk : w1.heap[k]? = some (.cells C T (0, 0))
 old : k < w.heap.size
 new : ∀ g ∈ gs, w.heap.size ≤ g ∧ g < w1.heap.size ∧ w1.heap[g]? = some (.cells (ints (List.replicate m 0)).toArray E (0, 0))
theorem Mid.start {E T m : Nat} {w : World} {k : Nat} {C : Array Value} (h : w.heap[k]? = some (.cells C T (0, 0))) : Mid E T m w { w with drawn := w.drawn + 1 } k C [] :=
 ⟨rfl, rfl, rfl, rfl, fun _ _ _ => rfl, h, heap_lt h, fun g hg => by cases hg⟩
theorem Mid.make {E T m : Nat} {w w1 : World} {k : Nat} {C : Array Value} {gs : List Nat} (h : Mid E T m w w1 k C gs) : Mid E T m w (w1.alloc (.cells (ints (List.replicate m 0)).toArray E)) k C (w1.heap.size :: gs) := by
 have hold : ∀ j, j < w1.heap.size → (w1.alloc (.cells (ints (List.replicate m 0)).toArray E)).heap[j]? = w1.heap[j]? := fun j hj => RowKit.Below.heap_alloc w1 _ j hj
 have hsz : (w1.alloc (.cells (ints (List.replicate m 0)).toArray E)).heap.size = w1.heap.size + 1 := by simp
 refine ⟨h.os, h.tape, h.output, by rw [hsz, h.size]; simp; omega, fun j hj hk => ?_, ?_, h.old, fun g hg => ?_⟩
 · rw [hold j (by have := h.size; omega)]; exact h.keep j hj hk
 · rw [hold k (heap_lt h.blk)]; exact h.blk
 rcases List.mem_cons.1 hg with rfl | hg
 · exact ⟨by have := h.size; omega, by omega, alloc_new _ _⟩
 obtain ⟨a, b, c⟩ := h.new g hg
 exact ⟨a, by omega, by rw [hold g b]; exact c⟩
theorem Mid.store {E T m : Nat} {w w1 w2 : World} {k : Nat} {C C' : Array Value} {gs : List Nat} (h : Mid E T m w w1 k C gs) (hu : Upd w1 w2 k (.cells C' T (0, 0))) : Mid E T m w w2 k C' gs := by
 refine ⟨hu.os.trans h.os, hu.tape.trans h.tape, hu.output.trans h.output, hu.size.trans h.size, fun j hj hk => (hu.keep j hk).trans (h.keep j hj hk), hu.new, h.old, fun g hg => ?_⟩
 obtain ⟨a, b, c⟩ := h.new g hg
 have hgk : g ≠ k := fun e => by have := h.old; omega
 exact ⟨a, by rw [hu.size]; exact b, by rw [hu.keep g hgk]; exact c⟩
section
variable {P : Program} {ops : Array Oper} {K : Kont} {rest : List Oper} {n : NN} {F : Fs} {T : TypeId} {pp : String} {af : Array Edge} {v : Value} {d : Nat} {a : Act} {w w1 : World} {x y : Operand}
theorem s_mkM {E Tf t by_ m k : Nat} {C : Array Value} {gs : List Nat} {k1 k2 : IntKind} (hF : Fr n F a) (ht : Sl P t E (.int .i64 0) by_) (hx : ev F x = some (.int k1 (m : Int))) (hy : ev F y = some (.int k2 (m : Int)))
  (hb : m * by_ ≤ 281474976710656) (hm : m ≤ maxLen) (hd : Nat.blt d n.n = true) (hM : Mid E Tf m w w1 k C gs)
  (kk : ∀ w' a g, (∀ g' ∈ gs, g' < g) → Mid E Tf m w w' k C (g :: gs) → Fr n ((d, .slice (some ⟨g, 0, none⟩) m m) :: F) a → WL P ops K rest a w') :
  WL P ops K (⟨some d, .makeSlice t x y, T, pp, af, none⟩ :: rest) a w1 := by
 refine s_run (w' := w1.alloc (.cells (List.replicate m (Value.int .i64 0)).toArray E)) hF (fun ρ h => ?_) hd fun a hF => kk _ a _ (fun g' hg => (hM.new g' hg).2.1) ?_ hF
 · simp [execOp, h x _ hx, h y _ hy, run_mk ht hb hm]
 have := hM.make
 simpa [ints] using this
end
structure Tst (D : FD) (w w1 : World) (k : Nat) (C : Array Value) (g1 g2 : Nat) (xs ls : List Nat) : Prop where
 os : w1.os = w.os
 tape : w1.tape = w.tape
 output : w1.output = w.output
 size : w.heap.size + 2 ≤ w1.heap.size
 keep : ∀ j, j < w.heap.size → j ≠ k → w1.heap[j]? = w.heap[j]?
 blk : w1.heap[k]? = some (.cells C D.T (0, 0))
 old : k < w.heap.size
 n1 : w.heap.size ≤ g1 ∧ g1 < w.heap.size + 2
 n2 : w.heap.size ≤ g2 ∧ g2 < w.heap.size + 2
 ne : g1 ≠ g2
 b1 : w1.heap[g1]? = some (.cells (ints xs).toArray D.E (0, 0))
 b2 : w1.heap[g2]? = some (.cells (ints ls).toArray D.E (0, 0))
 inv : Inv D (w.heap.size + 2) w1
theorem Mid.tst {D : FD} {m : Nat} {w w1 : World} {k : Nat} {C : Array Value} {g1 g2 : Nat} (h : Mid D.E D.T m w w1 k C [g2, g1]) (hne : g1 ≠ g2) : Tst D w w1 k C g1 g2 (List.replicate m 0) (List.replicate m 0) := by
 obtain ⟨a1, b1, c1⟩ := h.new g1 (by simp)
 obtain ⟨a2, b2, c2⟩ := h.new g2 (by simp)
 have hs : w1.heap.size = w.heap.size + 2 := h.size
 exact ⟨h.os, h.tape, h.output, by omega, h.keep, h.blk, h.old, ⟨a1, by omega⟩, ⟨a2, by omega⟩, hne, c1, c2, by rw [← hs]; exact ⟨Nat.le_refl _, fun j hj c fr hc => by have := heap_lt hc; omega⟩⟩
theorem Mid.swap {E T m : Nat} {w w1 : World} {k : Nat} {C : Array Value} {g1 g2 : Nat} (h : Mid E T m w w1 k C [g1, g2]) : Mid E T m w w1 k C [g2, g1] :=
 ⟨h.os, h.tape, h.output, h.size, h.keep, h.blk, h.old, fun g hg => h.new g (by simp at hg ⊢; omega)⟩
theorem Tst.step {D : FD} {w w1 w2 : World} {k : Nat} {C : Array Value} {g1 g2 : Nat} {xs ls : List Nat} (h : Tst D w w1 k C g1 g2 xs ls) (hs : St D (w.heap.size + 2) w1 w2) : Tst D w w2 k C g1 g2 xs ls := by
 have hb := hs.ext.below h.inv.1
 have hk : ∀ j, j < w.heap.size + 2 → w2.heap[j]? = w1.heap[j]? := fun j hj => hb.block j hj
 refine ⟨hs.ext.os.trans h.os, hs.ext.tape.trans h.tape, hs.ext.output.trans h.output, Nat.le_trans h.size hs.ext.size, fun j hj hjk => ?_, ?_, h.old, h.n1, h.n2, h.ne, ?_, ?_, hs.inv⟩
 · rw [hk j (by omega)]; exact h.keep j hj hjk
 · rw [hk k (by have := h.old; omega)]; exact h.blk
 · rw [hk g1 h.n1.2]; exact h.b1
 rw [hk g2 h.n2.2]; exact h.b2
theorem Inv.upd {D : FD} {B b : Nat} {w w' : World} {o : Obj} (hI : Inv D B w) (hu : Upd w w' b o) (hb : b < B) : Inv D B w' := by
 refine ⟨by rw [hu.size]; exact hI.1, fun k hk c fr hc => ?_⟩
 rw [hu.keep k (by omega)] at hc
 obtain ⟨wb, p, h1, h2⟩ := hI.2 k hk c fr hc
 have htab : ∀ v xs, Tab D.E B w v xs → Tab D.E B w' v xs := by
  rintro v xs ⟨g, h1, h2, h3⟩
  exact ⟨g, h1, h2, by rw [hu.keep g (by omega)]; exact h3⟩
 refine ⟨wb, p, h1, ?_⟩
 rw [hu.keep k (by omega)]
 exact h2.imp id fun ⟨e, l, h3, h4, h5⟩ => ⟨e, l, h3, htab _ _ h4, htab _ _ h5⟩
theorem Tst.exp {D : FD} {w w1 w2 : World} {k : Nat} {C : Array Value} {g1 g2 i n : Nat} {xs ls : List Nat} (h : Tst D w w1 k C g1 g2 xs ls) (hu : Upd w1 w2 g1 (.cells ((ints xs).toArray.setIfInBounds i (.int .i64 (n : Int))) D.E (0, 0))) :
  Tst D w w2 k C g1 g2 (xs.set i n) ls := by
 have hkg : k ≠ g1 := fun e => by have := h.old; have := h.n1; omega
 refine ⟨hu.os.trans h.os, hu.tape.trans h.tape, hu.output.trans h.output, by rw [hu.size]; exact h.size, fun j hj hjk => ?_, ?_, h.old, h.n1, h.n2, h.ne, ?_, ?_, h.inv.upd hu h.n1.2⟩
 · rw [hu.keep j (by have := h.n1; omega)]; exact h.keep j hj hjk
 · rw [hu.keep k hkg]; exact h.blk
 · rw [hu.new, ← ints_set]; simp
 rw [hu.keep g2 (Ne.symm h.ne)]; exact h.b2
theorem Tst.log {D : FD} {w w1 w2 : World} {k : Nat} {C : Array Value} {g1 g2 i n : Nat} {xs ls : List Nat} (h : Tst D w w1 k C g1 g2 xs ls) (hu : Upd w1 w2 g2 (.cells ((ints ls).toArray.setIfInBounds i (.int .i64 (n : Int))) D.E (0, 0))) :
  Tst D w w2 k C g1 g2 xs (ls.set i n) := by
 have hkg : k ≠ g2 := fun e => by have := h.old; have := h.n2; omega
 refine ⟨hu.os.trans h.os, hu.tape.trans h.tape, hu.output.trans h.output, by rw [hu.size]; exact h.size, fun j hj hjk => ?_, ?_, h.old, h.n1, h.n2, h.ne, ?_, ?_, h.inv.upd hu h.n2.2⟩
 · rw [hu.keep j (by have := h.n2; omega)]; exact h.keep j hj hjk
 · rw [hu.keep k hkg]; exact h.blk
 · rw [hu.keep g1 h.ne]; exact h.b1
 rw [hu.new, ← ints_set]; simp
theorem Mid.S {E T m : Nat} {w w1 : World} {k pb : Nat} {C : Array Value} {gs : List Nat} {u v : Value} (h : Mid E T m w w1 k C gs) (hc : w.cell? ⟨pb, 0, none⟩ = some v) (hne : k ≠ pb) (hu : C[0]? = some u) :
  w1.cell? ⟨pb, 0, none⟩ = some v ∧ w1.cell? ⟨k, 0, none⟩ = some u := by
 have hlt : pb < w.heap.size := by
  apply Classical.byContradiction
  intro hn
  simp [World.cell?, Array.getElem?_eq_none (show w.heap.size ≤ pb by omega)] at hc
 refine ⟨(cell_of_heap (a := ⟨pb, 0, none⟩) (h.keep pb hlt (Ne.symm hne))).trans hc, ?_⟩
 simp [World.cell?, h.blk, hu]
theorem Tst.c {D : FD} {w w1 : World} {k : Nat} {C : Array Value} {g1 g2 : Nat} {xs ls : List Nat} (h : Tst D w w1 k C g1 g2 xs ls) (i : Nat) {u : Value} (hu : C[i]? = some u) : w1.cell? ⟨k, i, none⟩ = some u := by
 simp [World.cell?, h.blk, hu]
theorem Tst.pb {D : FD} {w w1 : World} {k pb : Nat} {C : Array Value} {g1 g2 : Nat} {xs ls : List Nat} {v : Value} (h : Tst D w w1 k C g1 g2 xs ls) (hc : w.cell? ⟨pb, 0, none⟩ = some v) (hne : k ≠ pb) : w1.cell? ⟨pb, 0, none⟩ = some v := by
 have hlt : pb < w.heap.size := by
  apply Classical.byContradiction
  intro hn
  simp [World.cell?, Array.getElem?_eq_none (show w.heap.size ≤ pb by omega)] at hc
 exact (cell_of_heap (a := ⟨pb, 0, none⟩) (h.keep pb hlt (Ne.symm hne))).trans hc
theorem Tst.drew {D : FD} {w w1 : World} {k : Nat} {C : Array Value} {g1 g2 : Nat} {xs ls : List Nat} (h : Tst D w w1 k C g1 g2 xs ls) : Tst D w { w1 with drawn := w1.drawn + 1 } k C g1 g2 xs ls :=
 h.step ⟨ext_drew D _ w1, h.inv⟩
theorem setCell_heap {w : World} {k i : Nat} {C : Array Value} {T : TypeId} {fr : Nat × Nat} (v : Value) (h : w.heap[k]? = some (.cells C T fr)) : Upd w (w.setCell ⟨k, i, none⟩ v) k (.cells (C.setIfInBounds i v) T fr) := by
 refine ⟨rfl, rfl, rfl, by simp [World.setCell], ?_, fun j hj => ?_⟩
 · simp [World.setCell, Array.getElem?_modify, h]
 simp only [World.setCell, Array.getElem?_modify]
 rw [if_neg (Ne.symm hj)]
theorem Tst.done {D : FD} {B wb p k g1 g2 : Nat} {w w2 : World} (hI : Inv D B w) (hB : B ≤ k) (hk : w.heap[k]? = some (.cells (fcells wb p 0 (.slice none 0 0) (.slice none 0 0)) D.T (0, 0)))
  (hT : Tst D (w.setCell ⟨k, 3, none⟩ (.int .i32 1)) w2 k #[.int .i64 (wb : Int), .int .u32 (p : Int), .int .u32 0, .int .i32 1, .int .u32 0, .slice (some ⟨g1, 0, none⟩) (2 ^ wb) (2 ^ wb), .slice (some ⟨g2, 0, none⟩) (2 ^ wb) (2 ^ wb)] g1 g2 (expL wb p (2 ^ wb - 1)) (logL wb p (2 ^ wb - 1))) :
  St D B w ((w2.drew.setCell ⟨k, 2, none⟩ (.int .u32 1)).setCell ⟨k, 3, none⟩ (.int .i32 0)) ∧ Made D B ((w2.drew.setCell ⟨k, 2, none⟩ (.int .u32 1)).setCell ⟨k, 3, none⟩ (.int .i32 0)) k wb p g1 g2 := by
 have hu0 := setCell_heap (i := 3) (.int .i32 1) hk
 have hu1 := setCell_heap (w := w2.drew) (i := 2) (.int .u32 1) hT.blk
 have hu2 := setCell_heap (i := 3) (.int .i32 0) hu1.new
 generalize (w2.drew.setCell ⟨k, 2, none⟩ (.int .u32 1)).setCell ⟨k, 3, none⟩ (.int .i32 0) = w' at *
 generalize w.setCell ⟨k, 3, none⟩ (.int .i32 1) = w0 at *
 have hs0 : w0.heap.size = w.heap.size := hu0.size
 have hs2 : w'.heap.size = w2.heap.size := by rw [hu2.size, hu1.size]; rfl
 have hsz : w.heap.size + 2 ≤ w'.heap.size := by have := hT.size; omega
 have hkl : k < w.heap.size := heap_lt hk
 have heq2 : ∀ j, j ≠ k → w'.heap[j]? = w2.heap[j]? := fun j hj => (hu2.keep j hj).trans (hu1.keep j hj)
 have heq : ∀ j, j < w.heap.size → j ≠ k → w'.heap[j]? = w.heap[j]? := fun j hj hjk => (heq2 j hjk).trans ((hT.keep j (by omega) hjk).trans (hu0.keep j hjk))
 have hblk : w'.heap[k]? = some (.cells (fcells wb p 1 (.slice (some ⟨g1, 0, none⟩) (2 ^ wb) (2 ^ wb)) (.slice (some ⟨g2, 0, none⟩) (2 ^ wb) (2 ^ wb))) D.T (0, 0)) := hu2.new
 have n1 := hT.n1
 have n2 := hT.n2
 have c1 : w'.heap[g1]? = some (.cells (ints (expL wb p (2 ^ wb - 1))).toArray D.E (0, 0)) := by rw [heq2 g1 (by omega)]; exact hT.b1
 have c2 : w'.heap[g2]? = some (.cells (ints (logL wb p (2 ^ wb - 1))).toArray D.E (0, 0)) := by rw [heq2 g2 (by omega)]; exact hT.b2
 have l1 : (ints (expL wb p (2 ^ wb - 1))).length = 2 ^ wb := by rw [ints_length, expL_len (Nat.sub_le _ _)]
 have l2 : (ints (logL wb p (2 ^ wb - 1))).length = 2 ^ wb := by rw [ints_length, logL_len]
 have hBs := hI.1
 have hmade : Made D B w' k wb p g1 g2 := ⟨hB, hblk, ⟨g1, by rw [l1]; rfl, by omega, c1⟩, ⟨g2, by rw [l2]; rfl, by omega, c2⟩⟩
 have htab : ∀ v xs, Tab D.E B w v xs → Tab D.E B w' v xs := by
  rintro v xs ⟨g, h1, h2, h3⟩
  refine ⟨g, h1, h2, ?_⟩
  rw [heq g (heap_lt h3) (fun e => ?_)]
  · exact h3
  subst e; rw [hk] at h3; exact D.ne (Obj.cells.inj (Option.some.inj h3)).2.1.symm
 have hne1 : ∀ j wb' p' e l, w.heap[j]? = some (.cells (fcells wb' p' 1 e l) D.T (0, 0)) → j ≠ k := by
  rintro j wb' p' e l h2 rfl
  rw [hk] at h2; have := (Obj.cells.inj (Option.some.inj h2)).1; simp [fcells] at this
 have hmades : ∀ j wb p e l, Made D B w j wb p e l → Made D B w' j wb p e l := by
  rintro j wb p e l ⟨h1, h2, h3, h4⟩
  exact ⟨h1, by rw [heq j (heap_lt h2) (hne1 _ _ _ _ _ h2)]; exact h2, htab _ _ h3, htab _ _ h4⟩
 have hfok : ∀ j wb p, FOK D B w j wb p → FOK D B w' j wb p := by
  intro j wb' p' h
  obtain ⟨h1, h2 | h2⟩ := h
  ·
   by_cases e : j = k
   ·
    subst e
    rw [hk] at h2
    have := (Obj.cells.inj (Option.some.inj h2)).1
    simp [fcells] at this
    obtain ⟨e1, e2⟩ := this
    have e1' : wb = wb' := by omega
    have e2' : p = p' := by omega
    subst e1' e2'
    exact hmade.fok
   exact ⟨h1, .inl (by rw [heq j (heap_lt h2) e]; exact h2)⟩
  obtain ⟨e, l, h2, h3, h4⟩ := h2
  exact ⟨h1, .inr ⟨e, l, by rw [heq j (heap_lt h2) (hne1 _ _ _ _ _ h2)]; exact h2, htab _ _ h3, htab _ _ h4⟩⟩
 have hnew : ∀ j c fr, w.heap.size ≤ j → w'.heap[j]? = some (.cells c D.T fr) → w.heap.size + 2 ≤ j ∧ ∃ wb p, FOK D (w.heap.size + 2) w2 j wb p ∧ w2.heap[j]? = some (.cells c D.T fr) := by
  intro j c fr hj hc
  have hjk : j ≠ k := by omega
  have h12 : j ≠ g1 ∧ j ≠ g2 := by
   constructor
   · rintro rfl; rw [c1] at hc; exact D.ne (Obj.cells.inj (Option.some.inj hc)).2.1
   rintro rfl; rw [c2] at hc; exact D.ne (Obj.cells.inj (Option.some.inj hc)).2.1
  have hne := hT.ne
  have hj2 : w.heap.size + 2 ≤ j := by omega
  rw [heq2 j hjk] at hc
  obtain ⟨wb, p, h⟩ := hT.inv.2 j (by omega) c fr hc
  rw [hs0] at h
  exact ⟨hj2, wb, p, h, hc⟩
 have hlift : ∀ j wb p, w.heap.size + 2 ≤ j → FOK D (w.heap.size + 2) w2 j wb p → FOK D B w' j wb p := by
  rintro j wb p hj ⟨h1, h2⟩
  have ht2 : ∀ v xs, Tab D.E (w.heap.size + 2) w2 v xs → Tab D.E B w' v xs := by
   rintro v xs ⟨g, a1, a2, a3⟩
   exact ⟨g, a1, by omega, by rw [heq2 g (by omega)]; exact a3⟩
  refine ⟨by omega, ?_⟩
  rw [heq2 j (by omega)]
  exact h2.imp id fun ⟨e, l, h3, h4, h5⟩ => ⟨e, l, h3, ht2 _ _ h4, ht2 _ _ h5⟩
 refine ⟨⟨⟨?_, ?_, ?_, by omega, fun j hj hc => ?_, hfok, fun b hb hp j hj c fr hc => ?_, hmades⟩, ⟨by omega, fun j hj c fr hc => ?_⟩⟩, hmade⟩
 · exact hu2.os.trans (hu1.os.trans (hT.os.trans hu0.os))
 · exact hu2.tape.trans (hu1.tape.trans (hT.tape.trans hu0.tape))
 · exact hu2.output.trans (hu1.output.trans (hT.output.trans hu0.output))
 ·
  refine heq j hj ?_
  rintro rfl
  rcases hc with hc | hc
  · omega
  exact hc _ _ hk
 ·
  by_cases hjk : j = k
  ·
   subst hjk
   rw [hblk] at hc
   obtain ⟨rfl, -, -⟩ := Obj.cells.inj (Option.some.inj hc)
   intro a n m hm
   simp [fcells] at hm
   rcases hm with ⟨rfl, _⟩ | ⟨rfl, _⟩ <;> simp <;> omega
  by_cases hlt : j < w.heap.size
  · rw [heq j hlt hjk] at hc
    exact hp j hj c fr hc
  obtain ⟨hj2, wb', p', ⟨h1, h2⟩, h3⟩ := hnew j c fr (by omega) hc
  intro a n m hm
  rcases h2 with h2 | ⟨e, l, h2, ⟨g, rfl, hg, _⟩, ⟨g', rfl, hg', _⟩⟩
  · rw [h2] at h3
    obtain ⟨rfl, -, -⟩ := Obj.cells.inj (Option.some.inj h3)
    simp [fcells] at hm
  rw [h2] at h3
  obtain ⟨rfl, -, -⟩ := Obj.cells.inj (Option.some.inj h3)
  simp [fcells] at hm
  rcases hm with ⟨rfl, _⟩ | ⟨rfl, _⟩ <;> simp <;> omega
 by_cases hjk : j = k
 · subst hjk; exact ⟨wb, p, hmade.fok⟩
 by_cases hlt : j < w.heap.size
 ·
  rw [heq j hlt hjk] at hc
  obtain ⟨wb', p', h⟩ := hI.2 j hj c fr hc
  exact ⟨wb', p', hfok _ _ _ h⟩
 obtain ⟨hj2, wb', p', h, h3⟩ := hnew j c fr (by omega) hc
 exact ⟨wb', p', hlift j wb' p' hj2 h⟩
end Go.Gam
/- What the functions of a field tell: plain laws for their walks. No program in sight. -/
namespace Go.Gam
open Px
theorem inF_some {wb p : Nat} {a : Int} : inF (some (wb, p)) a = true ↔ 0 ≤ a ∧ a < ((2 ^ wb : Nat) : Int) := by unfold inF fsz; exact decide_eq_true_iff
theorem inF_none (a : Int) : inF none a = false := by
 have : inF none a = decide (0 ≤ a ∧ a < ((0 : Nat) : Int)) := rfl
 rw [this]; exact decide_eq_false (by omega)
theorem inF_nat {wb p : Nat} {a : Int} (h : inF (some (wb, p)) a = true) : ∃ x : Nat, a = (x : Int) ∧ x < 2 ^ wb := by
 rw [inF_some] at h
 exact ⟨a.toNat, by omega, by omega⟩
theorem inF_of {wb p x : Nat} (h : x < 2 ^ wb) : inF (some (wb, p)) (x : Int) = true := inF_some.2 ⟨by omega, by omega⟩
theorem fo_some {D : FD} {B : Nat} {w : World} {v : Value} {o : Fq} {a : Int} (h : Fo D B w v o) (ha : inF o a = true) : ∃ wb p k, o = some (wb, p) ∧ v = .pointer (some ⟨k, 0, none⟩) ∧ Prm wb p ∧ FOK D B w k wb p := by
 cases o with
 | none => rw [inF_none] at ha; cases ha
 | some q => obtain ⟨h1, k, h2, h3⟩ := h; exact ⟨q.1, q.2, k, rfl, h2, h1, h3⟩
theorem all1 {o : Fq} {a : Int} : ([a].all (inF o)) = inF o a := by simp
theorem all2 {o : Fq} {a b : Int} : ([a, b].all (inF o)) = (inF o a && inF o b) := by simp
theorem gmul_out {o : Fq} {a b : Int} (h : ([a, b].all (inF o)) = false) : gmul o a b = 0 := by
 rw [all2] at h
 unfold gmul
 rw [if_neg (by intro hh; rw [hh.1, hh.2] at h; cases h)]
theorem fmul_zl (o : Fq) (b : Nat) : fmul o 0 b = 0 := by cases o with | none => rfl | some q => simp only [fmul]; unfold mulMod; rw [zero_mul, zero_mod]
theorem fmul_zr (o : Fq) (a : Nat) : fmul o a 0 = 0 := by cases o with | none => rfl | some q => simp only [fmul]; unfold mulMod; rw [mul_zero, zero_mod]
theorem gmul_zl (o : Fq) (b : Int) : gmul o 0 b = 0 := by unfold gmul; split <;> simp [fmul_zl]
theorem gmul_zr (o : Fq) (a : Int) : gmul o a 0 = 0 := by unfold gmul; split <;> simp [fmul_zr]
theorem gmul_in {wb p x y : Nat} (hx : x < 2 ^ wb) (hy : y < 2 ^ wb) : gmul (some (wb, p)) (x : Int) (y : Int) = (mulMod x y p : Int) := by
 unfold gmul
 rw [if_pos ⟨inF_of hx, inF_of hy⟩]
 rfl
theorem gpow_out {o : Fq} {a n : Int} (h : inF o a = false ∨ n < 0) : gpow o a n = 0 := by
 unfold gpow
 rw [if_neg]
 rintro ⟨h1, h2⟩
 rcases h with h | h
 · rw [h] at h1; cases h1
 omega
theorem gpow_in {wb p x n : Nat} (hx : x < 2 ^ wb) : gpow (some (wb, p)) (x : Int) (n : Int) = (Px.pow x p n : Int) := by
 unfold gpow
 rw [if_pos ⟨inF_of hx, by omega⟩]
 rfl
theorem Prm.mod1 {wb p : Nat} (h : Prm wb p) : mod 1 p = 1 := mod_small h.p0 (by rw [h.lg]; have := h.size; omega)
theorem Prm.mulMod_lt {wb p : Nat} (h : Prm wb p) (a b : Nat) : mulMod a b p < 2 ^ wb := by have := Px.mulMod_lt a b h.p0; rwa [h.lg] at this
theorem Prm.pow_lt {wb p : Nat} (h : Prm wb p) (a n : Nat) : Px.pow a p n < 2 ^ wb := by
 cases n with
 | zero => unfold Px.pow; rw [h.mod1]; have := h.size; omega
 | succ n => exact h.mulMod_lt _ _
theorem exp_index (n : Int) {m : Nat} (hm : 1 ≤ m) : ((n.tmod (m : Int)) + (m : Int)) % (m : Int) = n % (m : Int) := by
 rw [Int.add_emod_right]
 have e := Int.mul_tdiv_add_tmod n (m : Int)
 conv => rhs; rw [← e]
 rw [Int.mul_add_emod_self_left]
theorem tmod_bd (n : Int) {m : Nat} (hm : 1 ≤ m) : -(m : Int) < n.tmod (m : Int) ∧ n.tmod (m : Int) < (m : Int) := by
 refine ⟨?_, Int.tmod_lt_of_pos n (by omega)⟩
 have := Int.lt_tmod_of_pos n (b := (m : Int)) (by omega)
 exact this
theorem Prm.pw_sum {wb p : Nat} (h : Prm wb p) {x y i j : Nat} (hi : pw p i = x) (hj : pw p j = y) : pw p ((((i : Int) + (j : Int)) % ((2 ^ wb - 1 : Nat) : Int)).toNat) = mulMod x y p := by
 have : ((((i : Int) + (j : Int)) % ((2 ^ wb - 1 : Nat) : Int)).toNat) = (i + j) % (2 ^ wb - 1) := by
  have e : ((i : Int) + (j : Int)) % ((2 ^ wb - 1 : Nat) : Int) = (((i + j) % (2 ^ wb - 1) : Nat) : Int) := by rw [Int.natCast_emod]; congr 1
  rw [e]; rfl
 rw [this, h.pw_mod, h.pw_add, hi, hj]
theorem ginvb_out {o : Fq} {a : Int} (h : inF o a = false ∨ a = 0) : ginvb o a = false := by
 unfold ginvb
 rcases h with h | h
 · rw [h]; rfl
 subst h; simp
theorem ginv_out {o : Fq} {a : Int} (h : inF o a = false ∨ a = 0) : ginv o a = 0 := by unfold ginv; rw [ginvb_out h]; rfl
theorem ginvb_in {o : Fq} {a : Int} (h : inF o a = true) (h0 : a ≠ 0) : ginvb o a = true := by unfold ginvb; rw [h]; simp [h0]
theorem ginv_in {o : Fq} {a : Int} (h : inF o a = true) (h0 : a ≠ 0) : ginv o a = gpow o a ((fsz o : Int) - 2) := by unfold ginv; rw [ginvb_in h h0]; rfl
theorem Prm.log_of {wb p x : Nat} (h : Prm wb p) (hx : x < 2 ^ wb) (h0 : x ≠ 0) : ∃ i, i < 2 ^ wb - 1 ∧ pw p i = x ∧ (logL wb p (2 ^ wb - 1))[x]? = some i := by
 obtain ⟨i, hi, e⟩ := h.pw_onto hx h0
 exact ⟨i, hi, e, by rw [← e]; exact logL_at h (Nat.le_refl _) hi⟩
theorem gmul_bd {D : FD} {B : Nat} {w : World} {v : Value} {o : Fq} (h : Fo D B w v o) (a b : Int) : 0 ≤ gmul o a b ∧ gmul o a b < 65536 := by
 cases o with
 | none => unfold gmul; rw [if_neg (by rw [inF_none]; simp)]; omega
 | some q =>
  have := h.1.mulMod_lt a.toNat b.toNat
  have := h.1.size
  unfold gmul
  split
  · simp only [fmul]; omega
  omega
theorem own_in {D : FD} {B N E len cap : Nat} {w : World} {sa : Option Addr} {b : Option Nat} {zs : List Int} (h : Own D B N w E (.slice sa len cap) b (zs.map (Value.int .i64))) (hE : E ≠ D.T) :
  ∀ (i : Nat) (z : Int), zs[i]? = some z → ∃ g o, sa = some ⟨g, o, none⟩ ∧ w.cell? ⟨g, o + i, none⟩ = some (.int .i64 z) := fun i z hz =>
 let ⟨_, g, o, h1, h2⟩ := (h.row hE).at (i := i) (u := .int .i64 z) (by simp [hz])
 ⟨g, o, h1, h2⟩
end Go.Gam
/- Bytes as numbers of a field: stores into rows of the walk's own; what the functions of regions tell. No program in sight. -/
namespace Go.Gam
open Px
section
variable {P : Program} {ops : Array Oper} {K : Kont} {rest : List Oper} {n : NN} {F : Fs} {T : TypeId} {pp : String} {af : Array Edge} {v : Value} {d : Nat} {a : Act} {w : World} {x y : Operand} {D : FD} {B : Nat}
theorem Own.ptr {N E : Nat} {b : Option Nat} {xs : List Value} (h : Own D B N w E v b xs) (h0 : 0 < xs.length) : ∃ g cap, v = .slice (some ⟨g, 0, none⟩) xs.length cap ∧ b = some g := by
 rcases h with ⟨_, _, rfl⟩ | ⟨g, cap, cur, rfl, rfl, _⟩
 · simp at h0
 exact ⟨g, cap, rfl, rfl⟩
theorem s_set {t N E g o : Nat} {u : Value} {xs : List Value} (hF : Fr n F a) (ht : One P t) (hx : ev F x = some (.pointer (some ⟨g, o, none⟩))) (ho : o < xs.length) (hy : ev F y = some u) (hu : u.oneCell' = true)
  (hO : Own D B N w E v (some g) xs) (hE : E ≠ D.T) (hI : Inv D B w) (k : ∀ w', Mb D B (some g) w w' → Inv D B w' → Own D B N w' E v (some g) (xs.set o u) → WL P ops K rest a w') :
  WL P ops K (⟨none, .store t x y, T, pp, af, none⟩ :: rest) a w := by
 rcases hO with ⟨_, hb, _⟩ | ⟨g', cap, cur, rfl, hb, h1, hB, h2, h3, h4, h5, h6, h7⟩
 · cases hb
 obtain rfl := Option.some.inj hb
 have hc : u.cells = #[u] := by cases u <;> first | rfl | simp [Value.oneCell'] at hu
 have hst := run_storeCells_at P g o E [u] 0 cur w h2 (by simp; omega) (by simpa using hu)
 have hset : (cur.toList.take (o + 0) ++ [u] ++ cur.toList.drop (o + 0 + [u].length)).toArray = cur.setIfInBounds o u := by
  apply Array.toList_inj.1
  rw [Array.toList_setIfInBounds, List.set_eq_take_append_cons_drop, if_pos (by simp; omega)]
  simp
 rw [hset] at hst
 have hrun : (execOp a.eval ⟨none, .store t x y, T, pp, af, none⟩).run P w = .ok .skip (w.setRow g (cur.setIfInBounds o u)) := by
  simp only [execOp, hF.reads x _ hx, hF.reads y _ hy, Instr.storeAt, Instr.sureAddr, storeVar, hc]
  simp [run_size1 ht, hst]
 have hm : Mb D B (some g) w (w.setRow g (cur.setIfInBounds o u)) := Mb.setRow h2 hE hB h7
 unfold WL wpList
 rw [if_pos (by simp [Region.wanted])]
 refine .inl ?_
 unfold Oper.wp
 rw [hrun]
 refine k _ hm (hm.inv hI) (.inr ⟨g, cap, cur.setIfInBounds o u, by simp, rfl, h1, hB, setRow_heap w g cur _ E _ h2, by simpa using h3, h4, by simpa using h5, ?_, hm.priv h7⟩)
 rw [List.length_set, Array.toList_setIfInBounds, List.take_set, h6]
end
theorem Own.cast {D : FD} {B N E : Nat} {w : World} {v : Value} {b : Option Nat} {xs ys : List Value} (h : Own D B N w E v b xs) (e : xs = ys) : Own D B N w E v b ys := e ▸ h
def byt (l : List Nat) : List Value := l.map fun (n : Nat) => Value.int .u8 (n : Int)
@[simp] theorem byt_length (l : List Nat) : (byt l).length = l.length := by simp [byt]
theorem byt_at {l : List Nat} {i n : Nat} (h : l[i]? = some n) : (byt l)[i]? = some (.int .u8 (n : Int)) := by simp [byt, h]
def zints (l : List Int) : List Value := l.map (Value.int .i64)
@[simp] theorem zints_length (l : List Int) : (zints l).length = l.length := by simp [zints]
theorem zints_at {l : List Int} {i : Nat} {z : Int} (h : l[i]? = some z) : (zints l)[i]? = some (.int .i64 z) := by simp [zints, h]
theorem ints_zints (l : List Nat) : ints l = zints (l.map fun (n : Nat) => (n : Int)) := by simp [ints, zints]
def wrun (n : Nat) (bs : List Nat) : Nat → List Nat
 | 0 => List.replicate (bs.length / n) 0
 | i + 1 => (wrun n bs i).set (i / n) (if i % n = 0 then bs.getD i 0 else (wrun n bs i).getD (i / n) 0 + 256 * bs.getD i 0)
theorem wrun_len (n : Nat) (bs : List Nat) : ∀ i, (wrun n bs i).length = bs.length / n
 | 0 => by simp [wrun]
 | i + 1 => by rw [wrun, List.length_set, wrun_len n bs i]
def wordsN (n : Nat) (bs : List Nat) : List Nat := (List.range (bs.length / n)).map fun j => if n = 2 then bs.getD (2 * j) 0 + 256 * bs.getD (2 * j + 1) 0 else bs.getD j 0
def bytesN (n : Nat) (l : List Nat) : List Nat := l.flatMap fun a => if n = 2 then [a % 256, a / 256] else [a % 256]
theorem wrun1 (bs : List Nat) : ∀ i, i ≤ bs.length → ∀ j, j < bs.length → (wrun 1 bs i).getD j 0 = if j < i then bs.getD j 0 else 0
 | 0, _, j, hj => by simp [wrun, hj]
 | i + 1, hi, j, hj => by
  have ih := wrun1 bs i (by omega) j hj
  have hl := wrun_len 1 bs i
  simp only [Nat.div_one] at hl
  rw [wrun, Nat.mod_one, if_pos rfl, Nat.div_one]
  simp only [List.getD_eq_getElem?_getD, List.getElem?_set] at ih ⊢
  by_cases e : i = j
  · subst e; simp [hl, hj]
  rw [if_neg e, ih]
  by_cases h1 : j < i
  · rw [if_pos h1, if_pos (by omega)]
  rw [if_neg h1, if_neg (by omega)]
theorem wrun2 (bs : List Nat) : ∀ i, i ≤ bs.length → ∀ j, j < bs.length / 2 → (wrun 2 bs i).getD j 0 = (if 2 * j < i then bs.getD (2 * j) 0 else 0) + (if 2 * j + 1 < i then 256 * bs.getD (2 * j + 1) 0 else 0)
 | 0, _, j, hj => by simp [wrun, hj]
 | i + 1, hi, j, hj => by
  have ih := wrun2 bs i (by omega) j hj
  have hl := wrun_len 2 bs i
  rw [wrun]
  generalize wrun 2 bs i = ys at *
  have key : (ys.set (i / 2) (if i % 2 = 0 then bs.getD i 0 else ys.getD (i / 2) 0 + 256 * bs.getD i 0)).getD j 0 = if i / 2 = j then (if i % 2 = 0 then bs.getD i 0 else ys.getD j 0 + 256 * bs.getD i 0) else ys.getD j 0 := by
   simp only [List.getD_eq_getElem?_getD, List.getElem?_set]
   by_cases e : i / 2 = j
   · subst e; simp [hl, hj]
   simp [e]
  rw [key, ih]
  by_cases e : i / 2 = j
  ·
   rw [if_pos e]
   by_cases h2 : i % 2 = 0
   · have : i = 2 * j := by omega
     subst this
     rw [if_pos h2, if_pos (by omega), if_neg (by omega)]; rfl
   have : i = 2 * j + 1 := by omega
   subst this
   rw [if_neg h2, if_pos (by omega), if_neg (by omega), if_pos (by omega), if_pos (by omega)]; rfl
  rw [if_neg e]
  by_cases h1 : 2 * j < i
  · rw [if_pos h1, if_pos (by omega), if_pos (by omega), if_pos (by omega)]
  rw [if_neg h1, if_neg (by omega), if_neg (by omega), if_neg (by omega)]
theorem wrun_all {n : Nat} (hn : n = 1 ∨ n = 2) (bs : List Nat) : wrun n bs bs.length = wordsN n bs ∨ bs.length % n ≠ 0 := by
 by_cases hm : bs.length % n = 0
 ·
  left
  apply List.ext_getElem
  · simp [wrun_len, wordsN]
  intro j h1 h2
  rw [wrun_len] at h1
  have e1 : (wrun n bs bs.length)[j] = (wrun n bs bs.length).getD j 0 := by rw [List.getD_eq_getElem?_getD, List.getElem?_eq_getElem]; rfl
  rw [e1]
  rcases hn with rfl | rfl
  · rw [Nat.div_one] at h1
    rw [wrun1 bs _ (Nat.le_refl _) j h1, if_pos h1]
    simp [wordsN]
  rw [wrun2 bs _ (Nat.le_refl _) j h1, if_pos (by omega), if_pos (by omega)]
  simp [wordsN]
 exact .inr hm
theorem getD_lt {bs : List Nat} (h : ∀ x ∈ bs, x < 256) (i : Nat) : bs.getD i 0 < 256 := by
 rw [List.getD_eq_getElem?_getD]
 cases e : bs[i]? with
 | none => simp
 | some x => exact h x (List.mem_of_getElem? e)
theorem wrun_lt {n : Nat} (hn : n = 1 ∨ n = 2) {bs : List Nat} (h : ∀ x ∈ bs, x < 256) {i : Nat} (hi : i ≤ bs.length) (j : Nat) : (wrun n bs i).getD j 0 < 65536 := by
 by_cases hj : j < bs.length / n
 ·
  have a := getD_lt h
  rcases hn with rfl | rfl
  · rw [wrun1 bs i hi j (by simpa using hj)]; split <;> have := a j <;> omega
  rw [wrun2 bs i hi j hj]
  have h1 := a (2 * j)
  have h2 := a (2 * j + 1)
  split <;> split <;> omega
 rw [List.getD_eq_getElem?_getD, List.getElem?_eq_none (by rw [wrun_len]; omega)]; simp
theorem div_lt_n {n i len : Nat} (hn : n = 1 ∨ n = 2) (hm : len % n = 0) (hi : i < len) : i / n < len / n := by rcases hn with rfl | rfl <;> omega
def errV {α : Type} (s : Option α) : Int := if s.isSome then 0 else 1
def rwords : Fq → List Nat → Option (List Nat)
 | none, _ => none
 | some q, bs => if bs.length % (q.1 / 8) = 0 then some (wordsN (q.1 / 8) bs) else none
def rbytes : Fq → List Int → Option (List Nat)
 | none, _ => none
 | some q, zs => if zs.all (inF (some q)) = true then some (bytesN (q.1 / 8) (zs.map Int.toNat)) else none
def rmul (o : Fq) (c : Int) (bs : List Nat) : Option (List Nat) := (rwords o bs).bind fun l => if inF o c = true then rbytes o (l.map fun (a : Nat) => gmul o c (a : Int)) else none
theorem rwords_t {wb p nn : Nat} {bs : List Nat} (hn : nn = wb / 8) (h : bs.length % nn = 0) : rwords (some (wb, p)) bs = some (wordsN nn bs) := by subst hn; exact if_pos h
theorem rwords_f {wb p nn : Nat} {bs : List Nat} (hn : nn = wb / 8) (h : bs.length % nn ≠ 0) : rwords (some (wb, p)) bs = none := by subst hn; exact if_neg h
theorem errV_ne {α : Type} {s : Option α} (h : errV s ≠ 0) : s = none := by cases s with | none => rfl | some x => exact absurd rfl h
theorem errV_eq {α : Type} {s : Option α} (h : errV s = 0) : ∃ x, s = some x := by cases s with | none => exact absurd (show (1 : Int) = 0 from h) (by decide) | some x => exact ⟨x, rfl⟩
theorem bytesN_len (n : Nat) (l : List Nat) : (bytesN n l).length ≤ 2 * l.length := by
 induction l with
 | nil => simp [bytesN]
 | cons a l ih =>
  have e : bytesN n (a :: l) = (if n = 2 then [a % 256, a / 256] else [a % 256]) ++ bytesN n l := rfl
  rw [e, List.length_append, List.length_cons]
  split <;> simp <;> omega
theorem bytes_step (n : Nat) {zs : List Int} {i x : Nat} (hz : zs[i]? = some (x : Int)) :
  bytesN n ((zs.take (i + 1)).map Int.toNat) = bytesN n ((zs.take i).map Int.toNat) ++ (if n = 2 then [x % 256, x / 256] else [x % 256]) := by
 rw [List.take_add_one, hz]
 simp [bytesN]
theorem rbytes_t {wb p nn : Nat} {zs : List Int} (hn : nn = wb / 8) (h : zs.all (inF (some (wb, p))) = true) : rbytes (some (wb, p)) zs = some (bytesN nn (zs.map Int.toNat)) := by subst hn; exact if_pos h
theorem rbytes_f {wb p : Nat} {zs : List Int} (h : zs.all (inF (some (wb, p))) = false) : rbytes (some (wb, p)) zs = none := if_neg (by rw [h]; simp)
def mrun (o : Fq) (c : Int) (ws : List Nat) (i : Nat) : List Int := ((ws.take i).map fun (a : Nat) => gmul o c (a : Int)) ++ (ws.drop i).map fun (a : Nat) => (a : Int)
theorem mrun_len (o : Fq) (c : Int) (ws : List Nat) (i : Nat) : (mrun o c ws i).length = ws.length := by simp [mrun]; omega
theorem mrun_at {o : Fq} {c : Int} {ws : List Nat} {i a : Nat} (h : ws[i]? = some a) : (mrun o c ws i)[i]? = some (a : Int) := by
 have hl := (List.getElem?_eq_some_iff.1 h).1
 unfold mrun
 rw [List.getElem?_append_right (by simp; omega), List.getElem?_map, List.getElem?_drop]
 simp [Nat.min_eq_left (Nat.le_of_lt hl), h]
theorem mrun_step {o : Fq} {c : Int} {ws : List Nat} {i a : Nat} (h : ws[i]? = some a) : (mrun o c ws i).set i (gmul o c (a : Int)) = mrun o c ws (i + 1) := by
 obtain ⟨hl, ha⟩ := List.getElem?_eq_some_iff.1 h
 have e1 : ((ws.drop i).map fun (a : Nat) => (a : Int)) = (a : Int) :: (ws.drop (i + 1)).map fun (a : Nat) => (a : Int) := by rw [List.drop_eq_getElem_cons hl, ha]; rfl
 have e2 : ((ws.take (i + 1)).map fun (a : Nat) => gmul o c (a : Int)) = ((ws.take i).map fun (a : Nat) => gmul o c (a : Int)) ++ [gmul o c (a : Int)] := by rw [List.take_add_one, h]; simp
 unfold mrun
 rw [e1, e2, List.set_append_right _ _ (by simp; omega)]
 have : i - ((ws.take i).map fun (a : Nat) => gmul o c (a : Int)).length = 0 := by simp; omega
 rw [this, List.set_cons_zero, List.append_assoc]; rfl
theorem mrun_all (o : Fq) (c : Int) (ws : List Nat) : mrun o c ws ws.length = ws.map fun (a : Nat) => gmul o c (a : Int) := by simp [mrun]
theorem mrun_zero (o : Fq) (c : Int) (ws : List Nat) : zints (mrun o c ws 0) = ints ws := by rw [ints_zints]; simp [mrun]
theorem zints_set (l : List Int) (i : Nat) (z : Int) : (zints l).set i (.int .i64 z) = zints (l.set i z) := by simp [zints, List.map_set]
theorem wordsN_len (n : Nat) (bs : List Nat) : (wordsN n bs).length = bs.length / n := by simp [wordsN]
theorem rwords_len {o : Fq} {bs ws : List Nat} (h : rwords o bs = some ws) : ws.length ≤ bs.length := by
 cases o with
 | none => cases h
 | some q =>
  simp only [rwords] at h
  split at h
  · obtain rfl := Option.some.inj h; rw [wordsN_len]; exact Nat.div_le_self _ _
  cases h
theorem rmul_none {o : Fq} {c : Int} {bs : List Nat} (h : rwords o bs = none ∨ inF o c = false) : rmul o c bs = none := by
 unfold rmul
 rcases h with h | h
 · rw [h]; rfl
 cases rwords o bs with | none => rfl | some x => simp [h]
theorem rmul_some {o : Fq} {c : Int} {bs ws : List Nat} (h : rwords o bs = some ws) (hc : inF o c = true) : rmul o c bs = rbytes o (ws.map fun (a : Nat) => gmul o c (a : Int)) := by
 unfold rmul; rw [h]; simp [hc]
def Rows2 (D : FD) (B M : Nat) (w : World) (vals : List Value) (bss : List (List Nat)) : Prop := vals.length = bss.length ∧ ∀ (j : Nat) (v : Value) (bs : List Nat), vals[j]? = some v → bss[j]? = some bs → Row D B M w v (byt bs)
theorem Rows2.st {D : FD} {B M : Nat} {w w' : World} {vals : List Value} {bss : List (List Nat)} (h : Rows2 D B M w vals bss) (hs : St D B w w') : Rows2 D B M w' vals bss := ⟨h.1, fun j v bs a b => (h.2 j v bs a b).st hs⟩
theorem Rows2.mb {D : FD} {B M : Nat} {b : Option Nat} {w w' : World} {vals : List Value} {bss : List (List Nat)} (h : Rows2 D B M w vals bss) (hm : Mb D B b w w') (hb : ∀ k, b = some k → M ≤ k) : Rows2 D B M w' vals bss := ⟨h.1, fun j v bs x y => (h.2 j v bs x y).mb hm hb⟩
theorem Rows2.mono {D : FD} {B M M' : Nat} {w : World} {vals : List Value} {bss : List (List Nat)} (h : Rows2 D B M w vals bss) (hM : M ≤ M') : Rows2 D B M' w vals bss := ⟨h.1, fun j v bs x y => (h.2 j v bs x y).mono hM⟩
def xorB (a b : List Nat) : List Nat := List.zipWith (· ^^^ ·) a b
def rsum : List (List Nat) → Option (List Nat)
 | [] => none
 | b0 :: r => if (b0 :: r).all (fun b => b.length == b0.length) = true then some ((b0 :: r).foldl xorB (List.replicate b0.length 0)) else none
theorem rsum_t {bss : List (List Nat)} {b0 : List Nat} (h0 : bss[0]? = some b0) (h : ∀ b ∈ bss, b.length = b0.length) : rsum bss = some (bss.foldl xorB (List.replicate b0.length 0)) := by
 cases bss with
 | nil => simp at h0
 | cons c r =>
  obtain rfl : c = b0 := by simpa using h0
  exact if_pos (by rw [List.all_eq_true]; intro b hb; simpa using h b hb)
theorem rsum_f {bss : List (List Nat)} {b0 b : List Nat} (h0 : bss[0]? = some b0) (hb : b ∈ bss) (h : b.length ≠ b0.length) : rsum bss = none := by
 cases bss with
 | nil => simp at h0
 | cons c r =>
  obtain rfl : c = b0 := by simpa using h0
  exact if_neg (by rw [List.all_eq_true]; intro hh; exact h (by simpa using hh b hb))
def xpart (a b : List Nat) (i : Nat) : List Nat := xorB (a.take i) (b.take i) ++ a.drop i
theorem xpart_zero (a b : List Nat) : xpart a b 0 = a := by simp [xpart, xorB]
theorem xorB_len {a b : List Nat} (h : a.length = b.length) : (xorB a b).length = a.length := by simp [xorB]; omega
theorem xpart_len {a b : List Nat} {i : Nat} (h : a.length = b.length) : (xpart a b i).length = a.length := by simp [xpart, xorB]; omega
theorem xpart_all {a b : List Nat} (h : a.length = b.length) : xpart a b a.length = xorB a b := by
 unfold xpart
 rw [List.take_length, h, List.take_length, ← h, List.drop_length, List.append_nil]
theorem xpart_at {a b : List Nat} {i x : Nat} (h : a.length = b.length) (hx : a[i]? = some x) : (xpart a b i)[i]? = some x := by
 have hl := (List.getElem?_eq_some_iff.1 hx).1
 unfold xpart
 rw [List.getElem?_append_right (by simp [xorB]; omega), List.getElem?_drop]
 have : i + (i - (xorB (a.take i) (b.take i)).length) = i := by simp [xorB]; omega
 rw [this]; exact hx
theorem xpart_step {a b : List Nat} {i x y : Nat} (h : a.length = b.length) (hx : a[i]? = some x) (hy : b[i]? = some y) : (xpart a b i).set i (x ^^^ y) = xpart a b (i + 1) := by
 obtain ⟨hl, ha⟩ := List.getElem?_eq_some_iff.1 hx
 have e : xorB (a.take (i + 1)) (b.take (i + 1)) = xorB (a.take i) (b.take i) ++ [x ^^^ y] := by
  unfold xorB
  rw [List.take_add_one, List.take_add_one, hx, hy, List.zipWith_append (by simp; omega)]
  rfl
 unfold xpart
 rw [e, List.set_append_right _ _ (by simp [xorB]; omega), List.drop_eq_getElem_cons hl]
 have : i - (xorB (a.take i) (b.take i)).length = 0 := by simp [xorB]; omega
 rw [this, List.set_cons_zero, List.append_assoc]; rfl
theorem xorB_lt {a b : List Nat} (ha : ∀ x ∈ a, x < 256) (hb : ∀ x ∈ b, x < 256) : ∀ x ∈ xorB a b, x < 256 := by
 intro x hx
 obtain ⟨i, hi⟩ := List.getElem?_of_mem hx
 unfold xorB at hi
 rw [List.getElem?_zipWith] at hi
 cases h1 : a[i]? with
 | none => rw [h1] at hi; cases hi
 | some u =>
  cases h2 : b[i]? with
  | none => rw [h1, h2] at hi; cases hi
  | some v =>
   rw [h1, h2] at hi
   obtain rfl := Option.some.inj hi
   exact Px.xor_lt (k := 8) (ha u (List.mem_of_getElem? h1)) (hb v (List.mem_of_getElem? h2))
theorem byt_set (l : List Nat) (i n : Nat) : (byt l).set i (.int .u8 (n : Int)) = byt (l.set i n) := by simp [byt, List.map_set]
def Owns2 (D : FD) (B N : Nat) (w : World) (E : TypeId) (vals : List Value) (bss : List (List Nat)) : Prop := vals.length = bss.length ∧ ∀ (j : Nat) (v : Value) (bs : List Nat), vals[j]? = some v → bss[j]? = some bs → ∃ b, Own D B N w E v b (byt bs)
theorem Owns2.st {D : FD} {B N : Nat} {w w' : World} {E : TypeId} {vals : List Value} {bss : List (List Nat)} (h : Owns2 D B N w E vals bss) (hE : E ≠ D.T) (hs : St D B w w') : Owns2 D B N w' E vals bss :=
 ⟨h.1, fun j v bs a b => let ⟨c, hc⟩ := h.2 j v bs a b; ⟨c, hc.st hE hs⟩⟩
theorem Owns2.mb0 {D : FD} {B N : Nat} {w w' : World} {E : TypeId} {vals : List Value} {bss : List (List Nat)} (h : Owns2 D B N w E vals bss) (hm : Mb D B none w w') : Owns2 D B N w' E vals bss :=
 ⟨h.1, fun j v bs a b => let ⟨c, hc⟩ := h.2 j v bs a b; ⟨c, hc.mb hm (fun _ _ => by simp)⟩⟩
theorem Owns2.mb {D : FD} {B N N' : Nat} {w w' : World} {E E' : TypeId} {vals : List Value} {bss : List (List Nat)} {v' : Value} {b' : Option Nat} {xs' : List Value} (h : Owns2 D B N w E vals bss) (ho : Own D B N' w E' v' b' xs') (hE : E ≠ E') (hm : Mb D B b' w w') : Owns2 D B N w' E vals bss :=
 ⟨h.1, fun j v bs a b => let ⟨c, hc⟩ := h.2 j v bs a b; ⟨c, hc.mb hm (hc.ne_type ho hE)⟩⟩
theorem Owns2.snoc {D : FD} {B N : Nat} {w : World} {E : TypeId} {vals : List Value} {bss : List (List Nat)} {v : Value} {b : Option Nat} {bs : List Nat} (h : Owns2 D B N w E vals bss) (ho : Own D B N w E v b (byt bs)) : Owns2 D B N w E (vals ++ [v]) (bss ++ [bs]) := by
 refine ⟨by simp [h.1], fun j u cs hu hc => ?_⟩
 by_cases hj : j < vals.length
 ·
  rw [List.getElem?_append_left hj] at hu
  rw [List.getElem?_append_left (by rw [← h.1]; exact hj)] at hc
  exact h.2 j u cs hu hc
 have e : j = vals.length := by
  have := (List.getElem?_eq_some_iff.1 hu).1
  simp at this; omega
 subst e
 simp at hu
 rw [h.1] at hc
 simp at hc
 subst hu; subst hc
 exact ⟨b, ho⟩
theorem Owns2.nil (D : FD) (B N : Nat) (w : World) (E : TypeId) : Owns2 D B N w E [] [] := ⟨rfl, fun j v bs a => by simp at a⟩
theorem Owns2.rows {D : FD} {B N : Nat} {w : World} {E : TypeId} {vals : List Value} {bss : List (List Nat)} (h : Owns2 D B N w E vals bss) (hE : E ≠ D.T) : Rows2 D B w.heap.size w vals bss :=
 ⟨h.1, fun j v bs a b => let ⟨_, hc⟩ := h.2 j v bs a b; hc.row hE⟩
theorem Owns2.le {D : FD} {B N N' : Nat} {w : World} {E : TypeId} {vals : List Value} {bss : List (List Nat)} (h : Owns2 D B N w E vals bss) (hN : N' ≤ N) : Owns2 D B N' w E vals bss :=
 ⟨h.1, fun j v bs a b => let ⟨c, hc⟩ := h.2 j v bs a b; ⟨c, hc.le hN⟩⟩
def rmuls (o : Fq) : List Int → List (List Nat) → Option (List (List Nat))
 | c :: cs, b :: bs => (rmul o c b).bind fun x => (rmuls o cs bs).map fun xs => x :: xs
 | _, _ => some []
def rdot (o : Fq) (cs : List Int) (bss : List (List Nat)) : Option (List Nat) := if cs.length = bss.length ∧ cs.length ≠ 0 then (rmuls o cs bss).bind rsum else none
theorem rmuls_snoc {o : Fq} {c : Int} {b : List Nat} : ∀ {cs : List Int} {bss xs : List (List Nat)}, cs.length = bss.length → rmuls o cs bss = some xs → rmuls o (cs ++ [c]) (bss ++ [b]) = (rmul o c b).map fun x => xs ++ [x]
 | [], [], xs, _, h => by
  obtain rfl : [] = xs := Option.some.inj h
  simp only [List.nil_append, rmuls]
  cases rmul o c b <;> rfl
 | c' :: cs, b' :: bs, xs, hl, h => by
  simp only [rmuls] at h
  cases h1 : rmul o c' b' with
  | none => rw [h1] at h; cases h
  | some x =>
   rw [h1] at h
   cases h2 : rmuls o cs bs with
   | none => rw [h2] at h; cases h
   | some ys =>
    rw [h2] at h
    obtain rfl : x :: ys = xs := Option.some.inj h
    simp only [List.cons_append, rmuls, h1]
    rw [Option.bind_some, rmuls_snoc (by simpa using hl) h2]
    cases rmul o c b <;> rfl
 | [], _ :: _, _, hl, _ => by simp at hl
 | _ :: _, [], _, hl, _ => by simp at hl
theorem rmuls_none {o : Fq} {c : Int} {b : List Nat} : ∀ {cs : List Int} {bss : List (List Nat)} {r : Nat}, cs[r]? = some c → bss[r]? = some b → rmul o c b = none → rmuls o cs bss = none
 | [], _, _, h, _, _ => by simp at h
 | _ :: _, [], _, _, h, _ => by simp at h
 | c' :: cs, b' :: bs, 0, h1, h2, h => by
  simp at h1 h2; subst h1; subst h2
  simp [rmuls, h]
 | c' :: cs, b' :: bs, r + 1, h1, h2, h => by
  simp at h1 h2
  simp only [rmuls, rmuls_none h1 h2 h]
  cases rmul o c' b' <;> rfl
theorem rmuls_step {o : Fq} {cs : List Int} {bss xs : List (List Nat)} {r : Nat} {b x : List Nat} {ci : Int} (hl : cs.length = bss.length) (h : rmuls o (cs.take r) (bss.take r) = some xs) (hc : cs[r]? = some ci) (hb : bss[r]? = some b) (hx : rmul o ci b = some x) :
  rmuls o (cs.take (r + 1)) (bss.take (r + 1)) = some (xs ++ [x]) := by
 rw [List.take_add_one, List.take_add_one, hc, hb]
 show rmuls o (cs.take r ++ [ci]) (bss.take r ++ [b]) = _
 rw [rmuls_snoc (by simp; omega) h, hx]; rfl
theorem rbytes_props {o : Fq} {zs : List Int} {xs : List Nat} (hs : fsz o ≤ 65536) (h : rbytes o zs = some xs) : (∀ x ∈ xs, x < 256) ∧ xs.length ≤ 2 * zs.length := by
 cases o with
 | none => cases h
 | some q =>
  simp only [rbytes] at h
  split at h
  ·
   rename_i hall
   obtain rfl := Option.some.inj h
   refine ⟨fun x hx => ?_, by have := bytesN_len (q.1 / 8) (zs.map Int.toNat); simpa using this⟩
   obtain ⟨a, ha, hxa⟩ := List.mem_flatMap.1 hx
   obtain ⟨z, hz, rfl⟩ := List.mem_map.1 ha
   have hin := List.all_eq_true.1 hall z hz
   have hr : 0 ≤ z ∧ z < ((fsz (some q) : Nat) : Int) := of_decide_eq_true hin
   split at hxa
   · simp at hxa; rcases hxa with rfl | rfl <;> omega
   simp at hxa; omega
  cases h
theorem rmul_props {o : Fq} {c : Int} {bs xs : List Nat} (hs : fsz o ≤ 65536) (h : rmul o c bs = some xs) : (∀ x ∈ xs, x < 256) ∧ xs.length ≤ 2 * bs.length := by
 unfold rmul at h
 cases hw : rwords o bs with
 | none => rw [hw] at h; cases h
 | some ws =>
  rw [hw] at h
  simp only [Option.bind_some] at h
  split at h
  · have := rbytes_props hs h
    have hl := rwords_len hw
    exact ⟨this.1, by have := this.2; simp at this; omega⟩
  cases h
theorem rdot_none1 {o : Fq} {cs : List Int} {bss : List (List Nat)} (h : cs.length ≠ bss.length ∨ cs.length = 0) : rdot o cs bss = none := if_neg (by rintro ⟨h1, h2⟩; rcases h with h | h; exact h h1; exact h2 h)
theorem rdot_none2 {o : Fq} {cs : List Int} {bss : List (List Nat)} (h : rmuls o cs bss = none) : rdot o cs bss = none := by unfold rdot; rw [h]; split <;> rfl
theorem rdot_some {o : Fq} {cs : List Int} {bss xs : List (List Nat)} (hl : cs.length = bss.length) (h0 : cs.length ≠ 0) (h : rmuls o cs bss = some xs) : rdot o cs bss = rsum xs := by unfold rdot; rw [if_pos ⟨hl, h0⟩, h]; rfl
theorem bytesN_len1 (l : List Nat) : (bytesN 1 l).length = l.length := by
 induction l with
 | nil => rfl
 | cons a l ih =>
  have e : bytesN 1 (a :: l) = [a % 256] ++ bytesN 1 l := rfl
  rw [e, List.length_append, ih]; simp; omega
theorem bytesN_len2 (l : List Nat) : (bytesN 2 l).length = 2 * l.length := by
 induction l with
 | nil => rfl
 | cons a l ih =>
  have e : bytesN 2 (a :: l) = [a % 256, a / 256] ++ bytesN 2 l := rfl
  rw [e, List.length_append, ih]; simp; omega
theorem xorB_zero (x : List Nat) : xorB (List.replicate x.length 0) x = x := by
 induction x with
 | nil => rfl
 | cons a x ih =>
  show (0 ^^^ a) :: xorB (List.replicate x.length 0) x = a :: x
  rw [ih, Nat.zero_xor]
theorem foldl_lt : ∀ (xs : List (List Nat)) (a : List Nat), (∀ u ∈ a, u < 256) → (∀ x ∈ xs, ∀ u ∈ x, u < 256) → ∀ u ∈ xs.foldl xorB a, u < 256
 | [], a, ha, _ => ha
 | x :: xs, a, ha, h => foldl_lt xs _ (xorB_lt ha (h x (by simp))) (fun y hy => h y (by simp [hy]))
def u16s (l : List Nat) : List Value := l.map fun (n : Nat) => Value.int .u16 (n : Int)
@[simp] theorem u16s_length (l : List Nat) : (u16s l).length = l.length := by simp [u16s]
end Go.Gam
/- Arguments opened: rows, rows of rows. No program in sight. -/
namespace Go.Gam
open Go Go.ChangeShapes Go.WideShapes Go.ChangeAt Go.RowKit
section
variable {H : Type} {enc : TypeId × Value → H} {P : Program} {w : World} {base : Nat} {held : Bool} {D : FD}
theorem cell_spot {w : World} {a : Addr} {v : Value} (h : w.cell? a = some v) : a = ⟨a.block, a.off, none⟩ ∧ a.block < w.heap.size := by
 unfold World.cell? at h
 split at h
 ·
  rename_i c e fr hc
  split at h
  · cases h
  rename_i hs
  obtain ⟨b, o, s⟩ := a
  cases s with
  | none => exact ⟨rfl, heap_lt hc⟩
  | some x => simp at hs
 cases h
theorem row_mk {a : Addr} {len cap : Nat} {f : Nat → Value} (hl : len ≤ cap) (hc : ∀ i, i < cap → w.cell? (a.add i) = some (f i)) : Row D w.heap.size w.heap.size w (.slice (some a) len cap) ((List.range len).map f) := by
 by_cases h0 : len = 0
 · subst h0; exact .inl ⟨_, _, rfl, rfl⟩
 have h1 := hc 0 (by omega)
 have e0 : a.add 0 = a := by simp [Addr.add]
 rw [e0] at h1
 obtain ⟨h2, h3⟩ := cell_spot h1
 refine .inr ⟨a.block, a.off, cap, by rw [← h2]; simp, by simpa using hl, h3, .inl h3, h3, fun i u hu => ?_⟩
 have hi := (List.getElem?_eq_some_iff.1 hu).1
 simp at hi
 have h4 := hc i (by omega)
 rw [h2, Addr.add_eq] at h4
 rw [h4]
 simp [hi] at hu
 rw [hu]
theorem zrow_c {t e : TypeId} {k : IntKind} {fuel : Nat} {v : Value} {x : DataW H × List MemPlace} (ht : P.underlying t = some (.slice e)) (he : P.underlying e = some (.int k)) (hc : P.cellsOf e = 1)
  (h : DataW.trod enc P w base (fun _ => true) held fuel t [v] = some x) :
  ∃ sa cap, ∃ zs : List Int, v = .slice sa zs.length cap ∧ Row D w.heap.size w.heap.size w v (zs.map (Value.int k)) ∧ (∀ z ∈ zs, (Lit.int k z).wf = true) ∧ zs.length ≤ maxLen := by
 rcases open_ints ht he hc h with ⟨hcs, _⟩ | ⟨a, len, cap, zs, hcs, _, hl, hm, hz, _, hcell, hwf⟩
 · obtain rfl : v = .slice none 0 0 := by simpa using hcs
   exact ⟨none, 0, [], rfl, .inl ⟨_, _, rfl, rfl⟩, by simp, by simp⟩
 obtain rfl : v = .slice (some a) len cap := by simpa using hcs
 simp only [if_true] at hz
 have hlen : (zs.take len).length = len := by simp; omega
 refine ⟨some a, cap, zs.take len, by rw [hlen], ?_, fun z hz' => hwf z (List.mem_of_mem_take hz'), by rw [hlen]; omega⟩
 have := row_mk (D := D) (w := w) (a := a) (len := len) (cap := cap) (f := fun i => .int k (zs.getD i 0)) hl (fun i hi => hcell i (by omega))
 have e : (zs.take len).map (Value.int k) = (List.range len).map fun i => Value.int k (zs.getD i 0) := by
  apply List.ext_getElem
  · simp; omega
  intro i h1 h2
  simp at h1 h2
  simp [List.getElem?_eq_getElem (show i < zs.length by omega)]
 rw [e]; exact this
theorem slice_cells {t e : TypeId} {r : Reach} {b0 : Nat} {v : Value} (ht : P.underlying t = some (.slice e)) (hval : Value.okWide P w r b0 t v) : v.cells.toList = [v] := by
 obtain ⟨a, len, cap, rfl⟩ := okWide_slice ht hval
 rfl
theorem open_zrow {r : Reach} {b0 : Nat} {t e : TypeId} {k : IntKind} {v : Value} {d : DataW H} {ps : List MemPlace} (ht : P.underlying t = some (.slice e)) (he : P.underlying e = some (.int k)) (hc : P.cellsOf e = 1)
  (hval : Value.okWide P w r b0 t v) (hd : DataW.Trod enc P w base (fun _ => true) held t v d ps) :
  ∃ sa cap, ∃ zs : List Int, v = .slice sa zs.length cap ∧ Row D w.heap.size w.heap.size w v (zs.map (Value.int k)) ∧ (∀ z ∈ zs, (Lit.int k z).wf = true) ∧ zs.length ≤ maxLen := by
 obtain ⟨fuel, hf⟩ := hd
 rw [slice_cells ht hval] at hf
 exact zrow_c ht he hc hf
theorem open_byt {r : Reach} {b0 : Nat} {t e : TypeId} {v : Value} {d : DataW H} {ps : List MemPlace} (ht : P.underlying t = some (.slice e)) (he : P.underlying e = some (.int .u8)) (hc : P.cellsOf e = 1)
  (hval : Value.okWide P w r b0 t v) (hd : DataW.Trod enc P w base (fun _ => true) held t v d ps) :
  ∃ sa cap, ∃ l : List Nat, v = .slice sa l.length cap ∧ Row D w.heap.size w.heap.size w v (byt l) ∧ (∀ x ∈ l, x < 256) ∧ l.length ≤ maxLen := by
 obtain ⟨sa, cap, zs, h1, h2, h3, h4⟩ := open_zrow (D := D) ht he hc hval hd
 have hb : ∀ z ∈ zs, 0 ≤ z ∧ z < 256 := fun z hz => by have := bounds_u8 (h3 z hz); omega
 have e : zs.map (Value.int .u8) = byt (zs.map Int.toNat) := by
  unfold byt
  rw [List.map_map]
  refine List.map_congr_left fun z hz => ?_
  have := hb z hz
  show Value.int .u8 z = Value.int .u8 ((z.toNat : Nat) : Int)
  congr 1; omega
 refine ⟨sa, cap, zs.map Int.toNat, by simpa using h1, by rw [← e]; exact h2, fun x hx => ?_, by simpa using h4⟩
 obtain ⟨z, hz, rfl⟩ := List.mem_map.1 hx
 have := hb z hz
 omega
end
end Go.Gam
