/- Plain laws of regions: numbers and bytes there and back, sums and products. No program in sight. -/
import Derived.Test.YtlkifpmlpnaaoaaGReg
import Derived.Test.YtlkifpmlpnaaoaaGGh
set_option linter.unusedVariables false
set_option linter.unusedSimpArgs false
namespace Go.Gam
open Px

def fq (b : Bool) : Nat × Nat := bif b then (16, 69643) else (8, 285)
theorem fq_prm (b : Bool) : Prm (fq b).1 (fq b).2 := by cases b; exact prm_285; exact prm_69643

theorem w2_cons (a b : Nat) (r : List Nat) : wordsN 2 (a :: b :: r) = (a + 256 * b) :: wordsN 2 r := by
  have h : (a :: b :: r).length / 2 = r.length / 2 + 1 := by simp only [List.length_cons]; omega
  unfold wordsN
  rw [h, List.range_succ_eq_map]
  simp [List.getD_eq_getElem?_getD, Function.comp_def, Nat.mul_add]
theorem w1_eq (bs : List Nat) : wordsN 1 bs = bs := by
  unfold wordsN
  apply List.ext_getElem
  · simp
  · intro i h1 h2
    simp [List.getD_eq_getElem?_getD, List.getElem?_eq_getElem h2]
theorem b1_eq {l : List Nat} (h : ∀ x ∈ l, x < 256) : bytesN 1 l = l := by
  induction l with
  | nil => rfl
  | cons a l ih =>
    have e : bytesN 1 (a :: l) = [a % 256] ++ bytesN 1 l := rfl
    rw [e, ih (fun x hx => h x (by simp [hx])), Nat.mod_eq_of_lt (h a (by simp))]; rfl
theorem b2_cons (x : Nat) (l : List Nat) : bytesN 2 (x :: l) = x % 256 :: x / 256 :: bytesN 2 l := rfl
theorem bw2 : ∀ (bs : List Nat), bs.length % 2 = 0 → (∀ x ∈ bs, x < 256) → bytesN 2 (wordsN 2 bs) = bs
  | [], _, _ => rfl
  | [a], h, _ => by simp at h
  | a :: b :: r, h, h8 => by
    have h1 := h8 a (by simp)
    rw [w2_cons, b2_cons, bw2 r (by simp at h; omega) (fun x hx => h8 x (by simp [hx]))]
    rw [show (a + 256 * b) % 256 = a by omega, show (a + 256 * b) / 256 = b by omega]
theorem wb2 : ∀ (l : List Nat), (∀ x ∈ l, x < 65536) → wordsN 2 (bytesN 2 l) = l
  | [], _ => rfl
  | x :: l, h => by
    rw [b2_cons, w2_cons, wb2 l (fun y hy => h y (by simp [hy]))]
    have := h x (by simp)
    rw [show x % 256 + 256 * (x / 256) = x by omega]

theorem nn12 {wb p : Nat} (hp : Prm wb p) : wb = 8 ∧ wb / 8 = 1 ∨ wb = 16 ∧ wb / 8 = 2 := by have := hp.w; omega
theorem bytes_words {wb p : Nat} (hp : Prm wb p) {bs : List Nat} (h : bs.length % (wb / 8) = 0) (h8 : ∀ x ∈ bs, x < 256) : bytesN (wb / 8) (wordsN (wb / 8) bs) = bs := by
  rcases nn12 hp with ⟨_, e⟩ | ⟨_, e⟩ <;> rw [e] at h ⊢
  · rw [w1_eq, b1_eq h8]
  · exact bw2 bs h h8
theorem words_bytes {wb p : Nat} (hp : Prm wb p) {l : List Nat} (h : ∀ x ∈ l, x < 2 ^ wb) : wordsN (wb / 8) (bytesN (wb / 8) l) = l := by
  rcases nn12 hp with ⟨e0, e⟩ | ⟨e0, e⟩ <;> rw [e] <;> subst e0
  · rw [w1_eq, b1_eq h]
  · exact wb2 l h
theorem bytesN_length {wb p : Nat} (hp : Prm wb p) (l : List Nat) : (bytesN (wb / 8) l).length = l.length * (wb / 8) := by
  rcases nn12 hp with ⟨_, e⟩ | ⟨_, e⟩ <;> rw [e]
  · rw [bytesN_len1]; omega
  · rw [bytesN_len2]; omega
theorem words_lt {wb p : Nat} (hp : Prm wb p) {bs : List Nat} (h8 : ∀ x ∈ bs, x < 256) : ∀ x ∈ wordsN (wb / 8) bs, x < 2 ^ wb := by
  intro x hx
  obtain ⟨j, hj, rfl⟩ := List.mem_map.1 hx
  have g := getD_lt h8
  rcases nn12 hp with ⟨e0, e⟩ | ⟨e0, e⟩ <;> rw [e] <;> subst e0
  · rw [if_neg (by decide)]; exact g j
  · rw [if_pos rfl]; have h1 := g (2 * j); have h2 := g (2 * j + 1); omega

theorem all_in {wb p : Nat} {l : List Nat} (h : ∀ x ∈ l, x < 2 ^ wb) : (l.map fun (n : Nat) => (n : Int)).all (inF (some (wb, p))) = true := by
  rw [List.all_eq_true]
  intro z hz
  obtain ⟨x, hx, rfl⟩ := List.mem_map.1 hz
  exact inF_of (h x hx)
theorem toNat_map (l : List Nat) : (l.map fun (n : Nat) => (n : Int)).map Int.toNat = l := by rw [List.map_map]; exact List.map_id'' (fun x => rfl) l
theorem rbytes_nat {wb p : Nat} {l : List Nat} (h : ∀ x ∈ l, x < 2 ^ wb) : rbytes (some (wb, p)) (l.map fun (n : Nat) => (n : Int)) = some (bytesN (wb / 8) l) := by rw [rbytes_t rfl (all_in h), toNat_map]
theorem rwords_bytes {wb p : Nat} (hp : Prm wb p) {l : List Nat} (h : ∀ x ∈ l, x < 2 ^ wb) : rwords (some (wb, p)) (bytesN (wb / 8) l) = some l := by
  rw [rwords_t rfl (by rw [bytesN_length hp]; exact Nat.mul_mod_left _ _), words_bytes hp h]
/-- Bytes are the bytes of some numbers. -/
theorem as_words {wb p : Nat} (hp : Prm wb p) {bs : List Nat} (h : bs.length % (wb / 8) = 0) (h8 : ∀ x ∈ bs, x < 256) : ∃ ws, bs = bytesN (wb / 8) ws ∧ ∀ x ∈ ws, x < 2 ^ wb := ⟨_, (bytes_words hp h h8).symm, words_lt hp h8⟩
theorem rmul_bytes {wb p : Nat} (hp : Prm wb p) {c : Nat} (hc : c < 2 ^ wb) {ws : List Nat} (h : ∀ x ∈ ws, x < 2 ^ wb) : rmul (some (wb, p)) (c : Int) (bytesN (wb / 8) ws) = some (bytesN (wb / 8) (ws.map fun x => mulMod c x p)) := by
  rw [rmul_some (rwords_bytes hp h) (inF_of hc)]
  have e : (ws.map fun (a : Nat) => gmul (some (wb, p)) (c : Int) (a : Int)) = (ws.map fun x => mulMod c x p).map fun (n : Nat) => (n : Int) := by
    rw [List.map_map]
    exact List.map_congr_left fun x hx => gmul_in hc (h x hx)
  rw [e, rbytes_nat (fun x hx => by obtain ⟨y, _, rfl⟩ := List.mem_map.1 hx; exact hp.mulMod_lt _ _)]

theorem xorB_map (f : Nat → Nat) (hf : ∀ a b, f (a ^^^ b) = f a ^^^ f b) : ∀ (x y : List Nat), (xorB x y).map f = xorB (x.map f) (y.map f)
  | [], _ => rfl
  | _ :: _, [] => rfl
  | a :: x, b :: y => by
    show f (a ^^^ b) :: (xorB x y).map f = (f a ^^^ f b) :: xorB (x.map f) (y.map f)
    rw [hf, xorB_map f hf x y]
theorem xorB_bytes (n : Nat) : ∀ (x y : List Nat), x.length = y.length → bytesN n (xorB x y) = xorB (bytesN n x) (bytesN n y)
  | [], [], _ => rfl
  | a :: x, b :: y, h => by
    have ih := xorB_bytes n x y (by simpa using h)
    have e1 : bytesN n (xorB (a :: x) (b :: y)) = (if n = 2 then [(a ^^^ b) % 256, (a ^^^ b) / 256] else [(a ^^^ b) % 256]) ++ bytesN n (xorB x y) := rfl
    have e2 : bytesN n (a :: x) = (if n = 2 then [a % 256, a / 256] else [a % 256]) ++ bytesN n x := rfl
    have e3 : bytesN n (b :: y) = (if n = 2 then [b % 256, b / 256] else [b % 256]) ++ bytesN n y := rfl
    have m : (a ^^^ b) % 256 = (a % 256) ^^^ (b % 256) := Nat.xor_mod_two_pow (n := 8)
    have d : (a ^^^ b) / 256 = (a / 256) ^^^ (b / 256) := Nat.xor_div_two_pow (n := 8)
    rw [e1, e2, e3, ih, m, d]
    split <;> rfl
  | [], _ :: _, h => by simp at h
  | _ :: _, [], h => by simp at h
theorem xorB_lt' {k : Nat} {a b : List Nat} (ha : ∀ x ∈ a, x < 2 ^ k) (hb : ∀ x ∈ b, x < 2 ^ k) : ∀ x ∈ xorB a b, x < 2 ^ k := by
  intro x hx
  obtain ⟨i, hi⟩ := List.getElem?_of_mem hx
  unfold xorB at hi
  rw [List.getElem?_zipWith] at hi
  cases h1 : a[i]? with
  | none => rw [h1] at hi; cases hi
  | some u =>
    cases h2 : b[i]? with
    | none => rw [h1, h2] at hi; cases hi
    | some v =>
      rw [h1, h2] at hi
      obtain rfl := Option.some.inj hi
      exact Px.xor_lt (ha u (List.mem_of_getElem? h1)) (hb v (List.mem_of_getElem? h2))
theorem xorB_back : ∀ (a b : List Nat), a.length = b.length → xorB (xorB a b) b = a
  | [], [], _ => rfl
  | a :: x, b :: y, h => by
    show ((a ^^^ b) ^^^ b) :: xorB (xorB x y) y = a :: x
    rw [xorB_back x y (by simpa using h), Nat.xor_assoc, Nat.xor_self, Nat.xor_zero]
  | [], _ :: _, h => by simp at h
  | _ :: _, [], h => by simp at h
theorem rsum_two {x y : List Nat} (h : x.length = y.length) : rsum [x, y] = some (xorB x y) := by
  rw [rsum_t (b0 := x) rfl (by simp [h])]
  show some (xorB (xorB (List.replicate x.length 0) x) y) = _
  rw [xorB_zero]
theorem rsum_two_no {x y : List Nat} (h : x.length ≠ y.length) : rsum [x, y] = none := rsum_f (b0 := x) (b := y) rfl (by simp) (by omega)

theorem map_len {α : Type} {f : Nat → α} {l : List Nat} : (l.map f).length = l.length := by simp

/-- A product of a sum is the sum of the products. -/
theorem spreads {wb p : Nat} (hp : Prm wb p) {m : Nat} (hm : m < 2 ^ wb) {a b : List Nat} (hl : a.length = b.length) (ha : a.length % (wb / 8) = 0) (ha8 : ∀ x ∈ a, x < 256) (hb8 : ∀ x ∈ b, x < 256) :
    ∃ P Q X, rmul (some (wb, p)) (m : Int) a = some P ∧ rmul (some (wb, p)) (m : Int) b = some Q ∧ rmul (some (wb, p)) (m : Int) (xorB a b) = some X ∧ P.length = Q.length ∧ X = xorB P Q := by
  obtain ⟨x, rfl, hx⟩ := as_words hp ha ha8
  obtain ⟨y, rfl, hy⟩ := as_words hp (show b.length % (wb / 8) = 0 by rw [← hl]; exact ha) hb8
  have hxy : x.length = y.length := by
    rw [bytesN_length hp, bytesN_length hp] at hl
    have : 0 < wb / 8 := by have := hp.w; omega
    exact Nat.eq_of_mul_eq_mul_right this hl
  refine ⟨_, _, _, rmul_bytes hp hm hx, rmul_bytes hp hm hy, by rw [← xorB_bytes _ _ _ hxy]; exact rmul_bytes hp hm (xorB_lt' hx hy), ?_, ?_⟩
  · rw [bytesN_length hp, bytesN_length hp]; simp [hxy]
  · rw [← xorB_bytes _ _ _ (by simp [hxy]), xorB_map _ (fun a b => Px.mulMod_xor m a b p)]
/-- A product by a product is one behind the other. -/
theorem behind {wb p : Nat} (hp : Prm wb p) {m n : Nat} (hm : m < 2 ^ wb) (hn : n < 2 ^ wb) {a P : List Nat} (ha : a.length % (wb / 8) = 0) (ha8 : ∀ x ∈ a, x < 256) (h : rmul (some (wb, p)) (m : Int) a = some P) :
    rmul (some (wb, p)) (n : Int) P = rmul (some (wb, p)) (gmul (some (wb, p)) (m : Int) (n : Int)) a ∧ (rmul (some (wb, p)) (n : Int) P).isSome = true := by
  obtain ⟨x, rfl, hx⟩ := as_words hp ha ha8
  rw [rmul_bytes hp hm hx] at h
  obtain rfl := Option.some.inj h
  rw [gmul_in hm hn, rmul_bytes hp hn (fun y hy => by obtain ⟨z, _, rfl⟩ := List.mem_map.1 hy; exact hp.mulMod_lt _ _), rmul_bytes hp (hp.mulMod_lt _ _) hx, List.map_map]
  refine ⟨?_, rfl⟩
  congr 2
  refine List.map_congr_left fun y _ => ?_
  show mulMod n (mulMod m y p) p = mulMod (mulMod m n p) y p
  rw [← Px.mulMod_assoc, Px.mulMod_comm n m]
theorem by_one {wb p : Nat} (hp : Prm wb p) {a : List Nat} (ha : a.length % (wb / 8) = 0) (ha8 : ∀ x ∈ a, x < 256) : rmul (some (wb, p)) 1 a = some a := by
  obtain ⟨x, rfl, hx⟩ := as_words hp ha ha8
  have h1 := rmul_bytes hp (c := 1) (by have := hp.size; omega) hx
  rw [show ((1 : Nat) : Int) = 1 from rfl] at h1
  rw [h1]
  congr 2
  conv => rhs; rw [← List.map_id x]
  refine List.map_congr_left fun y hy => ?_
  rw [Px.mulMod_comm, mulMod_one' hp (hx y hy)]; rfl
/-- What was multiplied by a number that isn't 0 is so again by its inverse. -/
theorem undo {wb p : Nat} (hp : Prm wb p) {m : Nat} (hm : m < 2 ^ wb) (h0 : m ≠ 0) {a : List Nat} (ha : a.length % (wb / 8) = 0) (ha8 : ∀ x ∈ a, x < 256) :
    ∃ P, rmul (some (wb, p)) (m : Int) a = some P ∧ P.length = a.length ∧ rmul (some (wb, p)) (ginv (some (wb, p)) (m : Int)) P = some a := by
  obtain ⟨x, rfl, hx⟩ := as_words hp ha ha8
  refine ⟨_, rmul_bytes hp hm hx, by rw [bytesN_length hp, bytesN_length hp]; simp, ?_⟩
  rw [ginv_nat hp hm h0, rmul_bytes hp (hp.pow_lt _ _) (fun y hy => by obtain ⟨z, _, rfl⟩ := List.mem_map.1 hy; exact hp.mulMod_lt _ _), List.map_map]
  congr 2
  conv => rhs; rw [← List.map_id x]
  refine List.map_congr_left fun y hy => ?_
  show mulMod (Px.pow m p (2 ^ wb - 2)) (mulMod m y p) p = y
  rw [← Px.mulMod_assoc, Px.mulMod_comm _ m, mulMod_inv hp hm h0, Px.mulMod_comm, mulMod_one' hp (hx y hy)]

theorem rwords_sz {wb p : Nat} (b : List Nat) (hp : Prm wb p) : ((rwords (some (wb, p)) b).getD []).length ≤ b.length := by
  cases h : rwords (some (wb, p)) b with
  | none => simp
  | some x => exact rwords_len h
theorem rbytes_lt {wb p : Nat} (hp : Prm wb p) (l : List Int) : ∀ x ∈ (rbytes (some (wb, p)) l).getD [], x < 256 := by
  cases h : rbytes (some (wb, p)) l with
  | none => simp
  | some x => exact (rbytes_props (show fsz (some (wb, p)) ≤ 65536 from hp.size.2) h).1
theorem rmul_lt {wb p : Nat} (hp : Prm wb p) (c : Int) (l : List Nat) : ∀ x ∈ (rmul (some (wb, p)) c l).getD [], x < 256 := by
  cases h : rmul (some (wb, p)) c l with
  | none => simp
  | some x => exact (rmul_props (show fsz (some (wb, p)) ≤ 65536 from hp.size.2) h).1

theorem byt_take (l : List Nat) (n : Nat) : (byt l).take n = byt (l.take n) := by simp [byt, List.map_take]
theorem byt_part (l : List Nat) (n m : Nat) : ((byt l).take m).drop n = byt ((l.take m).drop n) := by simp [byt, List.map_take, List.map_drop]

theorem rsum2 (x y : List Nat) : rsum [x, y] = if x.length = y.length then some (xorB x y) else none := by
  by_cases h : x.length = y.length
  · rw [if_pos h, rsum_two h]
  · rw [if_neg h, rsum_two_no h]
theorem rdot_lt {wb p : Nat} (hp : Prm wb p) (cs : List Int) (bss : List (List Nat)) : ∀ x ∈ (rdot (some (wb, p)) cs bss).getD [], x < 256 := by
  unfold rdot
  split
  · cases h : rmuls (some (wb, p)) cs bss with
    | none => simp
    | some xs =>
      have key : ∀ (cs : List Int) (bss xs : List (List Nat)), rmuls (some (wb, p)) cs bss = some xs → ∀ x ∈ xs, ∀ u ∈ x, u < 256 := by
        intro cs
        induction cs with
        | nil => intro bss xs h; obtain rfl : [] = xs := by cases bss <;> exact Option.some.inj h
                 simp
        | cons c cs ih =>
          intro bss xs h
          cases bss with
          | nil => obtain rfl : [] = xs := Option.some.inj h
                   simp
          | cons b bs =>
            simp only [rmuls] at h
            cases h1 : rmul (some (wb, p)) c b with
            | none => rw [h1] at h; cases h
            | some y =>
              rw [h1] at h
              cases h2 : rmuls (some (wb, p)) cs bs with
              | none => rw [h2] at h; cases h
              | some ys =>
                rw [h2] at h
                obtain rfl : y :: ys = xs := Option.some.inj h
                intro z hz
                rcases List.mem_cons.1 hz with rfl | hz
                · exact (rmul_props (show fsz (some (wb, p)) ≤ 65536 from hp.size.2) h1).1
                · exact ih bs ys h2 z hz
      have hk := key cs bss xs h
      rw [Option.bind_some]
      cases xs with
      | nil => simp [rsum]
      | cons x0 r =>
        simp only [rsum]
        split
        · exact foldl_lt _ _ (by simp) hk
        · simp
  · simp
/-- The numbers of a list, in a field of so many bits. -/
def kcut (wb : Nat) (l : List Nat) : List Nat := l.map fun n => if wb = 8 then n % 256 else n
theorem kcut_snoc {wb : Nat} {l : List Nat} {i n : Nat} (h : l[i]? = some n) : kcut wb (l.take (i + 1)) = kcut wb (l.take i) ++ [if wb = 8 then n % 256 else n] := by unfold kcut; rw [List.take_add_one, h]; simp
theorem kcut_lt {wb p : Nat} (hp : Prm wb p) {l : List Nat} (h : ∀ x ∈ l, x < 65536) : ∀ x ∈ kcut wb l, x < 2 ^ wb := by
  intro x hx
  obtain ⟨n, hn, rfl⟩ := List.mem_map.1 hx
  have := h n hn
  rcases hp.w with rfl | rfl
  · rw [if_pos rfl]; exact Nat.mod_lt _ (by decide)
  · rw [if_neg (by decide)]; exact this
@[simp] theorem kcut_length (wb : Nat) (l : List Nat) : (kcut wb l).length = l.length := by simp [kcut]
/-- Words, then bytes. -/
theorem words_back {wb p : Nat} (hp : Prm wb p) {b : List Nat} (h8 : ∀ x ∈ b, x < 256) {ws : List Nat} (h : rwords (some (wb, p)) b = some ws) : rbytes (some (wb, p)) (ws.map fun (n : Nat) => (n : Int)) = some b := by
  unfold rwords at h
  simp only at h
  split at h
  · rename_i hm
    obtain rfl := Option.some.inj h
    rw [rbytes_nat (words_lt hp h8), bytes_words hp hm h8]
  · cases h
end Go.Gam
