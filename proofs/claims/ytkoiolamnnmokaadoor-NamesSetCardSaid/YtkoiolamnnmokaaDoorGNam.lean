/- Names of files: a shard's name; what a name says. No program in sight. -/
import Derived.Test.YtkoiolamnnmokaaDoorGTxt
import Derived.Test.YtkoiolamnnmokaaDoorGProf
set_option linter.unusedVariables false
set_option linter.unusedSimpArgs false
set_option linter.unusedSectionVars false
namespace Go.Gam

/-! ### bytes -/
theorem u8_all {P : UInt8 → Prop} (h : ∀ n : Fin 256, P (UInt8.ofNat n.val)) (b : UInt8) : P b := by
  have := h ⟨b.toNat, b.toNat_lt⟩
  simpa using this
def letter (b : UInt8) : Bool := decide (97 ≤ b.toNat ∧ b.toNat ≤ 122)
def abc : List UInt8 := [97, 98, 99, 100, 101, 102, 103, 104, 105, 106, 107, 108, 109, 110, 111, 112, 113, 114, 115, 116, 117, 118, 119, 120, 121, 122]
theorem abc_letter (b : UInt8) : abc.contains b = letter b := u8_all (P := fun b => abc.contains b = letter b) (by decide +kernel) b
def dg (b : UInt8) : Int := (b.toNat : Int) - 48
def fg (n : Nat) : UInt8 := UInt8.ofNat (48 + n)
theorem dg_fg {n : Nat} (h : n < 200) : dg (fg n) = (n : Int) := by
  unfold dg fg
  have : (UInt8.ofNat (48 + n)).toNat = 48 + n := by simp; omega
  rw [this]; omega
theorem fg_dg {b : UInt8} (h : 0 ≤ dg b) : fg (dg b).toNat = b := by
  unfold dg at h
  unfold dg fg
  have : 48 + ((b.toNat : Int) - 48).toNat = b.toNat := by omega
  rw [this]; simp
/-- May an object be named so? -/
def mayS (l : List UInt8) : Bool := decide (1 ≤ l.length ∧ l.length ≤ 8) && l.all letter
theorem mayS_len {l : List UInt8} (h : mayS l = true) : 1 ≤ l.length ∧ l.length ≤ 8 := by
  unfold mayS at h
  rw [Bool.and_eq_true] at h
  exact of_decide_eq_true h.1
theorem mayS_all {l : List UInt8} (h : mayS l = true) : ∀ b ∈ l, letter b = true := by
  unfold mayS at h
  rw [Bool.and_eq_true] at h
  exact List.all_eq_true.1 h.2
theorem mayS_no {l : List UInt8} (h : ¬ (1 ≤ l.length ∧ l.length ≤ 8)) : mayS l = false := by
  unfold mayS; rw [decide_eq_false h]; rfl
theorem mayS_bad {l : List UInt8} {i : Nat} {b : UInt8} (hb : l[i]? = some b) (h : letter b = false) : mayS l = false := by
  unfold mayS
  rw [Bool.and_eq_false_iff]
  refine .inr ?_
  rw [Bool.eq_false_iff]
  intro hh
  have := List.all_eq_true.1 hh b (List.mem_of_getElem? hb)
  rw [h] at this; cases this
theorem mayS_ok {l : List UInt8} (h : 1 ≤ l.length ∧ l.length ≤ 8) (h2 : ∀ b ∈ l, letter b = true) : mayS l = true := by
  unfold mayS; rw [decide_eq_true h]; exact List.all_eq_true.2 h2
theorem mayS_pt {l : List UInt8} (h : mayS l = true) : (46 : UInt8) ∉ l := fun hm => by
  have := mayS_all h _ hm
  exact absurd this (by decide)

/-! ### a shard's name -/
def tagL (p : Int) : List UInt8 := if p = 1 then [106, 118] else if p = 2 then [106, 99] else if p = 3 then [105, 114] else if p = 4 then [105, 99] else if p = 5 then [98, 98] else [107, 112]
def layL (p : Int) : UInt8 := if p = 1 then 106 else if p = 2 then 106 else if p = 3 then 105 else if p = 4 then 105 else if p = 5 then 98 else 112
theorem six {p : Int} (h : 1 ≤ p ∧ p ≤ 6) : p = 1 ∨ p = 2 ∨ p = 3 ∨ p = 4 ∨ p = 5 ∨ p = 6 := by omega
theorem prOf_tagL {p : Int} (h : 1 ≤ p ∧ p ≤ 6) : nth (prOf p).toArray.toList 0 = some (.string (str (tagL p))) := by
  rcases six h with rfl | rfl | rfl | rfl | rfl | rfl <;> rfl
theorem prOf_lay {p : Int} (h : 1 ≤ p ∧ p ≤ 6) : nth (prOf p).toArray.toList 3 = some (.int .u8 ((layL p).toNat : Int)) := by
  rcases six h with rfl | rfl | rfl | rfl | rfl | rfl <;> rfl
theorem tagL_len (p : Int) : (tagL p).length = 2 := by unfold tagL; repeat' split
                                                       all_goals rfl
theorem tagL_inj {p q : Int} (hp : 1 ≤ p ∧ p ≤ 6) (hq : 1 ≤ q ∧ q ≤ 6) (h : tagL p = tagL q) : p = q := by
  rcases six hp with rfl | rfl | rfl | rfl | rfl | rfl <;> rcases six hq with rfl | rfl | rfl | rfl | rfl | rfl <;> first | rfl | exact absurd h (by decide)
theorem tagS_L {i : Nat} (h : i < 6) : tagS i = str (tagL ((i + 1 : Nat) : Int)) := by
  have : i = 0 ∨ i = 1 ∨ i = 2 ∨ i = 3 ∨ i = 4 ∨ i = 5 := by omega
  rcases this with rfl | rfl | rfl | rfl | rfl | rfl <;> rfl
/-- Does a profile have that layout? -/
def laidS (y : UInt8) : Bool := decide (∃ p ∈ [(1 : Int), 2, 3, 4, 5, 6], layL p = y)
/-- The profile of a tag. -/
def tagP (l : List UInt8) : Int × Bool := tagR (str l) 0 6
theorem tagR_some {s : ByteArray} : ∀ (d i : Nat), (tagR s i d).2 = true → ∃ j, i ≤ j ∧ j < i + d ∧ tagS j = s ∧ tagR s i d = (((j + 1 : Nat) : Int), true)
  | 0, i, h => by cases h
  | d + 1, i, h => by
    unfold tagR at h ⊢
    by_cases e : tagS i = s
    · rw [if_pos e]; exact ⟨i, by omega, by omega, e, rfl⟩
    · rw [if_neg e] at h ⊢
      obtain ⟨j, h1, h2, h3, h4⟩ := tagR_some d (i + 1) h
      exact ⟨j, by omega, by omega, h3, h4⟩
theorem tagP_some {l : List UInt8} (h : (tagP l).2 = true) : ∃ p : Int, (1 ≤ p ∧ p ≤ 6) ∧ l = tagL p ∧ tagP l = (p, true) := by
  obtain ⟨j, h1, h2, h3, h4⟩ := tagR_some 6 0 h
  rw [tagS_L (by omega)] at h3
  exact ⟨((j + 1 : Nat) : Int), by omega, (str_inj h3).symm, h4⟩
theorem tagP_of {p : Int} (h : 1 ≤ p ∧ p ≤ 6) : tagP (tagL p) = (p, true) := by
  rcases six h with rfl | rfl | rfl | rfl | rfl | rfl <;> decide +kernel
def fig (ns : List Nat) : List UInt8 := ns.map fg
def dataN (o : List UInt8) (y : UInt8) (k i : Nat) : List UInt8 := o ++ 46 :: 100 :: y :: fig [k, i]
def parN (o tg : List UInt8) (k m i : Nat) : List UInt8 := o ++ 46 :: 112 :: (tg ++ fig [k, m, i])
def shardN (o : List UInt8) (p : Int) (k m i : Nat) : List UInt8 := if i < k then dataN o (layL p) k i else parN o (tagL p) k m (i - k)
def shardB (o : List UInt8) (p k m i : Int) : Bool := mayS o && (mayP p k m && decide (0 ≤ i ∧ i < k + m))
def shardR (o : List UInt8) (p k m i : Int) : List UInt8 × Int := if shardB o p k m i = true then (shardN o p k.toNat m.toNat i.toNat, 0) else ([], 1)
theorem shardR_no {o : List UInt8} {p k m i : Int} (h : ¬ (mayS o = true ∧ mayP p k m = true ∧ 0 ≤ i ∧ i < k + m)) : shardR o p k m i = ([], 1) := by
  unfold shardR
  refine if_neg fun hh => h ?_
  unfold shardB at hh
  rw [Bool.and_eq_true, Bool.and_eq_true, decide_eq_true_eq] at hh
  exact ⟨hh.1, hh.2.1, hh.2.2⟩
theorem shardR_is {o : List UInt8} {p : Int} {k m i : Nat} (h1 : mayS o = true) (h2 : mayP p (k : Int) (m : Int) = true) (h3 : i < k + m) : shardR o p (k : Int) (m : Int) (i : Int) = (shardN o p k m i, 0) := by
  unfold shardR
  rw [if_pos (show shardB o p k m i = true by unfold shardB; rw [h1, h2, decide_eq_true (by omega)]; rfl)]
  rfl
theorem shardN_len {o : List UInt8} {p : Int} {k m i : Nat} : (shardN o p k m i).length ≤ o.length + 7 := by
  unfold shardN dataN parN fig
  split <;> simp [tagL_len]
def setR (o : List UInt8) (p k m : Int) : List (List UInt8) × Int := if mayS o = true ∧ mayP p k m = true then ((List.range (k + m).toNat).map fun i => shardN o p k.toNat m.toNat i, 0) else ([], 1)
theorem setR_no {o : List UInt8} {p k m : Int} (h : ¬ (mayS o = true ∧ mayP p k m = true)) : setR o p k m = ([], 1) := if_neg h
theorem setR_is {o : List UInt8} {p : Int} {k m : Nat} (h1 : mayS o = true) (h2 : mayP p (k : Int) (m : Int) = true) : setR o p (k : Int) (m : Int) = ((List.range (k + m)).map fun i => shardN o p k m i, 0) := by
  unfold setR
  rw [if_pos ⟨h1, h2⟩, show ((k : Int) + (m : Int)).toNat = k + m by omega]
  rfl
theorem setR_len (o : List UInt8) (p k m : Int) : (setR o p k m).1.length ≤ 20 := by
  unfold setR
  split
  · rename_i h
    obtain ⟨-, -, kn, mn, rfl, rfl, hk1, hk2, hm1, hm2, -⟩ := mayP_of h.2
    simp; omega
  · simp
def sideR (o : List UInt8) : List UInt8 × Int := if mayS o = true then (o ++ 46 :: [115, 105, 100, 101], 0) else ([], 1)
/-- Texts in memory. -/
def strs (L : List (List UInt8)) : List Value := L.map fun l => Value.string (str l)
theorem strs_length (L : List (List UInt8)) : (strs L).length = L.length := List.length_map _
theorem strs_at {L : List (List UInt8)} {i : Nat} {l : List UInt8} (h : L[i]? = some l) : (strs L)[i]? = some (.string (str l)) := by unfold strs; rw [List.getElem?_map, h]; rfl

/-! ### what a name says -/
structure Nm where
  o : List UInt8
  kind : Int
  y : UInt8
  tag : List UInt8
  k : Int
  m : Int
  i : Int
  t : Bool
def nmz : Nm := ⟨[], 0, 0, [], 0, 0, 0, false⟩
def Nm.cells (n : Nm) : List Value := [.string (str n.o), .int .i64 n.kind, .int .u8 (n.y.toNat : Int), .string (str n.tag), .int .i64 n.k, .int .i64 n.m, .int .i64 n.i, .bool n.t]
def cutP : List UInt8 → Option (List UInt8 × List UInt8)
  | [] => none
  | b :: l => if b = 46 then some ([], l) else (cutP l).map fun x => (b :: x.1, x.2)
theorem cutP_some : ∀ {l a s : List UInt8}, cutP l = some (a, s) → l = a ++ 46 :: s ∧ (46 : UInt8) ∉ a
  | [], a, s, h => by cases h
  | b :: l, a, s, h => by
    unfold cutP at h
    by_cases e : b = 46
    · rw [if_pos e] at h
      obtain ⟨rfl, rfl⟩ := Prod.mk.inj (Option.some.inj h)
      exact ⟨by rw [e]; rfl, by simp⟩
    · rw [if_neg e] at h
      obtain ⟨⟨a', s'⟩, h1, h2⟩ := Option.map_eq_some_iff.1 h
      obtain ⟨rfl, rfl⟩ := Prod.mk.inj h2
      obtain ⟨h3, h4⟩ := cutP_some h1
      exact ⟨by rw [h3]; rfl, fun hm => by rcases List.mem_cons.1 hm with h | h; exact e h.symm; exact h4 h⟩
theorem cutP_of : ∀ {a s : List UInt8}, (46 : UInt8) ∉ a → cutP (a ++ 46 :: s) = some (a, s)
  | [], s, _ => by simp [cutP]
  | b :: a, s, h => by
    have e : ¬ b = 46 := fun e => h (by rw [e]; simp)
    have ih := cutP_of (s := s) (fun hm => h (List.mem_cons_of_mem b hm))
    rw [List.cons_append, cutP, if_neg e, ih]
    rfl
theorem cutP_none : ∀ {l : List UInt8}, cutP l = none → (46 : UInt8) ∉ l
  | [], _ => by simp
  | b :: l, h => by
    unfold cutP at h
    by_cases e : b = 46
    · rw [if_pos e] at h; cases h
    · rw [if_neg e] at h
      have := cutP_none (Option.map_eq_none_iff.1 h)
      exact fun hm => by rcases List.mem_cons.1 hm with h | h; exact e h.symm; exact this h
def tempOf (f : List UInt8) : Bool := decide (f.getLast? = some 126)
def bareOf (f : List UInt8) : List UInt8 := if tempOf f = true then f.dropLast else f
theorem bare_is (f : List UInt8) : f = bareOf f ++ (if tempOf f = true then [126] else []) := by
  unfold bareOf
  by_cases h : tempOf f = true
  · rw [if_pos h, if_pos h]
    have h1 := of_decide_eq_true h
    obtain ⟨hne, h2⟩ := List.getLast?_eq_some_iff.1 h1
    rw [h2, List.dropLast_concat]
  · rw [if_neg h, if_neg h, List.append_nil]
theorem bare_snoc (b : List UInt8) : bareOf (b ++ [126]) = b ∧ tempOf (b ++ [126]) = true := by
  have h : tempOf (b ++ [126]) = true := by unfold tempOf; simp
  refine ⟨?_, h⟩
  unfold bareOf; rw [if_pos h, List.dropLast_concat]
theorem bare_self {b : List UInt8} (h : b.getLast? ≠ some 126) : bareOf b = b ∧ tempOf b = false := by
  have h : tempOf b = false := decide_eq_false h
  refine ⟨?_, h⟩
  unfold bareOf; rw [h]; rfl
def sideL : List UInt8 := [115, 105, 100, 101]
def rdD (o : List UInt8) (c y k i : UInt8) (t : Bool) : Option Nm := if (c = 100 ∧ laidS y = true) ∧ (1 ≤ dg k ∧ dg k ≤ 8) ∧ 0 ≤ dg i ∧ dg i < dg k then some ⟨o, 1, y, [], dg k, 0, dg i, t⟩ else none
def rdP (o : List UInt8) (c y z k m i : UInt8) (t : Bool) : Option Nm := if (c = 112 ∧ (tagP [y, z]).2 = true) ∧ mayP (tagP [y, z]).1 (dg k) (dg m) = true ∧ 0 ≤ dg i ∧ dg i < dg m then some ⟨o, 2, 0, [y, z], dg k, dg m, dg i, t⟩ else none
def rdS (o s : List UInt8) (t : Bool) : Option Nm :=
  if s = sideL then some ⟨o, 3, 0, [], 0, 0, 0, t⟩ else
  match s with
  | [c, y, k, i] => rdD o c y k i t
  | [c, y, z, k, m, i] => rdP o c y z k m i t
  | _ => none
def rd (f : List UInt8) : Option Nm :=
  match cutP (bareOf f) with
  | none => none
  | some (o, s) => if mayS o = true then rdS o s (tempOf f) else none
theorem rd_at {f o s : List UInt8} (h : bareOf f = o ++ 46 :: s) (ho : mayS o = true) : rd f = rdS o s (tempOf f) := by
  unfold rd
  rw [h, cutP_of (mayS_pt ho)]
  simp only [ho, if_true]
theorem rdS_data {o : List UInt8} {p : Int} {k i : Nat} {t : Bool} (hp : 1 ≤ p ∧ p ≤ 6) (hk : 1 ≤ k ∧ k ≤ 8) (hi : i < k) : rdS o (100 :: layL p :: fig [k, i]) t = some ⟨o, 1, layL p, [], k, 0, i, t⟩ := by
  unfold rdS
  have h1 : ¬ (100 :: layL p :: fig [k, i] = sideL) := fun e => by
    have := (List.cons.inj e).1
    exact absurd this (by decide)
  rw [if_neg h1]
  show rdD o 100 (layL p) (fg k) (fg i) t = _
  unfold rdD
  have hl : laidS (layL p) = true := by
    rcases six hp with rfl | rfl | rfl | rfl | rfl | rfl <;> decide
  rw [dg_fg (by omega), dg_fg (by omega), if_pos ⟨⟨rfl, hl⟩, by omega, by omega, by omega⟩]
theorem rdS_par {o : List UInt8} {p : Int} {k m i : Nat} {t : Bool} (hm : mayP p (k : Int) (m : Int) = true) (hi : i < m) : rdS o (112 :: (tagL p ++ fig [k, m, i])) t = some ⟨o, 2, 0, tagL p, k, m, i, t⟩ := by
  obtain ⟨hp1, hp2, kn, mn, e1, e2, hk1, hk2, hm1, hm2, -⟩ := mayP_of hm
  have hk : k = kn := by omega
  have hmm : m = mn := by omega
  have key : ∀ y z : UInt8, tagL p = [y, z] → rdS o (112 :: (tagL p ++ fig [k, m, i])) t = some ⟨o, 2, 0, tagL p, k, m, i, t⟩ := fun y z e => by
    have e2 := tagP_of ⟨hp1, hp2⟩
    rw [e] at e2
    rw [e]
    unfold rdS
    rw [if_neg (fun e => by have := congrArg List.length e; simp [sideL, fig] at this)]
    show rdP o 112 y z (fg k) (fg m) (fg i) t = _
    unfold rdP
    rw [e2, dg_fg (by omega), dg_fg (by omega), dg_fg (by omega), if_pos ⟨⟨rfl, rfl⟩, hm, by omega, by omega⟩]
  rcases six ⟨hp1, hp2⟩ with rfl | rfl | rfl | rfl | rfl | rfl <;> exact key _ _ rfl
/-- What a shard's name says. -/
def nmOf (o : List UInt8) (p : Int) (k m i : Nat) (t : Bool) : Nm := if i < k then ⟨o, 1, layL p, [], k, 0, i, t⟩ else ⟨o, 2, 0, tagL p, k, m, ((i - k : Nat) : Int), t⟩
def tailN (p : Int) (k m i : Nat) : List UInt8 := if i < k then 100 :: layL p :: fig [k, i] else 112 :: (tagL p ++ fig [k, m, i - k])
theorem shardN_tail (o : List UInt8) (p : Int) (k m i : Nat) : shardN o p k m i = o ++ 46 :: tailN p k m i := by
  unfold shardN tailN dataN parN
  split <;> rfl
theorem rdS_tail {o : List UInt8} {p : Int} {k m i : Nat} {t : Bool} (hm : mayP p (k : Int) (m : Int) = true) (hi : i < k + m) : rdS o (tailN p k m i) t = some (nmOf o p k m i t) := by
  obtain ⟨hp1, hp2, kn, mn, e1, e2, hk1, hk2, hm1, hm2, -⟩ := mayP_of hm
  unfold tailN nmOf
  by_cases h : i < k
  · rw [if_pos h, if_pos h]
    exact rdS_data ⟨hp1, hp2⟩ (by omega) h
  · rw [if_neg h, if_neg h]
    exact rdS_par hm (by omega)
theorem fg_last {pre : List UInt8} {j : Nat} (h : j < 20) : (pre ++ [fg j]).getLast? ≠ some 126 := by
  rw [List.getLast?_concat]
  intro e
  have e2 := Option.some.inj e
  have : (fg j).toNat = 126 := by rw [e2]; rfl
  unfold fg at this
  simp at this
  omega
theorem shardN_last {o : List UInt8} {p : Int} {k m i : Nat} (hm : mayP p (k : Int) (m : Int) = true) (hi : i < k + m) : (shardN o p k m i).getLast? ≠ some 126 := by
  obtain ⟨hp1, hp2, kn, mn, e1, e2, hk1, hk2, hm1, hm2, -⟩ := mayP_of hm
  unfold shardN dataN parN fig
  split
  · rw [show o ++ 46 :: 100 :: layL p :: [k, i].map fg = (o ++ [46, 100, layL p, fg k]) ++ [fg i] by simp]
    exact fg_last (by omega)
  · rw [show o ++ 46 :: 112 :: (tagL p ++ [k, m, i - k].map fg) = (o ++ 46 :: 112 :: (tagL p ++ [fg k, fg m])) ++ [fg (i - k)] by simp]
    exact fg_last (by omega)
theorem rd_shard {o : List UInt8} {p : Int} {k m i : Nat} (ho : mayS o = true) (hm : mayP p (k : Int) (m : Int) = true) (hi : i < k + m) : rd (shardN o p k m i) = some (nmOf o p k m i false) := by
  obtain ⟨h1, h2⟩ := bare_self (shardN_last (o := o) hm hi)
  rw [rd_at (h1.trans (shardN_tail o p k m i)) ho, h2, rdS_tail hm hi]
theorem rd_temp {o : List UInt8} {p : Int} {k m i : Nat} (ho : mayS o = true) (hm : mayP p (k : Int) (m : Int) = true) (hi : i < k + m) : rd (shardN o p k m i ++ [126]) = some (nmOf o p k m i true) := by
  obtain ⟨h1, h2⟩ := bare_snoc (shardN o p k m i)
  rw [rd_at (h1.trans (shardN_tail o p k m i)) ho, h2, rdS_tail hm hi]
theorem rdS_side (o : List UInt8) (t : Bool) : rdS o sideL t = some ⟨o, 3, 0, [], 0, 0, 0, t⟩ := if_pos rfl
theorem side_last (o : List UInt8) : (o ++ 46 :: sideL).getLast? ≠ some 126 := by
  rw [show o ++ 46 :: sideL = (o ++ [46, 115, 105, 100]) ++ [101] by simp [sideL], List.getLast?_concat]
  decide
theorem rd_side {o : List UInt8} (ho : mayS o = true) : rd (o ++ 46 :: sideL) = some ⟨o, 3, 0, [], 0, 0, 0, false⟩ := by
  obtain ⟨h1, h2⟩ := bare_self (side_last o)
  rw [rd_at h1 ho, h2, rdS_side]
theorem nmOf_t (o : List UInt8) (p : Int) (k m i : Nat) (t : Bool) : (nmOf o p k m i t).t = t := by unfold nmOf; split <;> rfl
theorem nmOf_o (o : List UInt8) (p : Int) (k m i : Nat) (t : Bool) : (nmOf o p k m i t).o = o := by unfold nmOf; split <;> rfl
theorem nm_t (o : List UInt8) (p : Int) (k m i : Nat) (t : Bool) : nth ((some (nmOf o p k m i t)).getD nmz).cells 7 = some (.bool t) := by
  show some (Value.bool (nmOf o p k m i t).t) = _
  rw [nmOf_t]
theorem nm_o (o : List UInt8) (p : Int) (k m i : Nat) (t : Bool) : nth ((some (nmOf o p k m i t)).getD nmz).cells 0 = some (.string (str o)) := by
  show some (Value.string (str (nmOf o p k m i t).o)) = _
  rw [nmOf_o]
theorem shard_obj {o q : List UInt8} {p : Int} {k m i : Nat} (ho : mayS o = true) (hq : mayS q = true) (hm : mayP p (k : Int) (m : Int) = true) (hi : i < k + m) (hne : ¬ o = q) : ¬ shardN o p k m i = shardN q p k m i := fun e => hne (by
  have h1 := rd_shard ho hm hi
  rw [e, rd_shard hq hm hi] at h1
  have := congrArg Nm.o (Option.some.inj h1)
  rw [nmOf_o, nmOf_o] at this
  exact this.symm)
theorem shard_tmp {o q : List UInt8} {p : Int} {k m i : Nat} (ho : mayS o = true) (hq : mayS q = true) (hm : mayP p (k : Int) (m : Int) = true) (hi : i < k + m) : ¬ shardN o p k m i ++ [126] = shardN q p k m i := fun e => by
  have h1 := rd_temp ho hm hi
  rw [e, rd_shard hq hm hi] at h1
  have := congrArg Nm.t (Option.some.inj h1)
  rw [nmOf_t, nmOf_t] at this
  cases this
theorem shard_ne {o : List UInt8} {p : Int} {k m i j : Nat} (ho : mayS o = true) (hm : mayP p (k : Int) (m : Int) = true) (hi : i < k + m) (hj : j < k + m) (hne : i ≠ j) : ¬ shardN o p k m i = shardN o p k m j := fun e => hne (by
  have h1 := rd_shard ho hm hi
  rw [e, rd_shard ho hm hj] at h1
  have h2 := Option.some.inj h1
  unfold nmOf at h2
  split at h2 <;> split at h2
  · have := congrArg Nm.i h2; simp only at this; omega
  · have := congrArg Nm.kind h2; simp only at this; omega
  · have := congrArg Nm.kind h2; simp only at this; omega
  · have := congrArg Nm.i h2; simp only at this; omega)
theorem shard_side {o : List UInt8} {p : Int} {k m i : Nat} (ho : mayS o = true) (hm : mayP p (k : Int) (m : Int) = true) (hi : i < k + m) : ¬ shardN o p k m i = o ++ 46 :: sideL := fun e => by
  have h1 := rd_shard ho hm hi
  rw [e, rd_side ho] at h1
  have h2 := Option.some.inj h1
  unfold nmOf at h2
  split at h2
  · have := congrArg Nm.kind h2; simp only at this; omega
  · have := congrArg Nm.kind h2; simp only at this; omega
theorem some_ok (n0 n1 n2 : Nat) : mayP ((1 + n0 % 6 : Nat) : Int) ((1 + n1 % 8 : Nat) : Int) ((1 + n2 % (maxM ((1 + n0 % 6 : Nat) : Int)).toNat : Nat) : Int) = true := by
  have hmx : maxM ((1 + n0 % 6 : Nat) : Int) = 3 ∨ (maxM ((1 + n0 % 6 : Nat) : Int) = 4 ∧ ((1 + n0 % 6 : Nat) : Int) ≠ 3) := by
    unfold maxM; split
    · exact .inl rfl
    · rename_i h; exact .inr ⟨rfl, h⟩
  rcases hmx with h | ⟨h, h3⟩
  · rw [h, show (3 : Int).toNat = 3 from rfl]; exact mayP_is (by omega) (by omega) (by omega) (by omega)
  · rw [h, show (4 : Int).toNat = 4 from rfl]; exact mayP_is (by omega) (by omega) (by omega) (by omega)
/-! ### as the document reads it: by all names that there are -/
def objOf (f : List UInt8) : List UInt8 := f.takeWhile (fun b => b != 46)
theorem objOf_app : ∀ {a s : List UInt8}, (46 : UInt8) ∉ a → objOf (a ++ 46 :: s) = a
  | [], s, _ => by simp [objOf]
  | b :: a, s, h => by
    have e : (b != 46) = true := by
      rw [bne_iff_ne]; exact fun e => h (by rw [e]; simp)
    unfold objOf
    rw [List.cons_append, List.takeWhile_cons, if_pos e]
    exact congrArg _ (objOf_app (fun hm => h (List.mem_cons_of_mem _ hm)))
theorem objOf_no : ∀ {a : List UInt8}, (46 : UInt8) ∉ a → objOf a = a
  | [], _ => rfl
  | b :: a, h => by
    have e : (b != 46) = true := by
      rw [bne_iff_ne]; exact fun e => h (by rw [e]; simp)
    unfold objOf
    rw [List.takeWhile_cons, if_pos e]
    exact congrArg _ (objOf_no (fun hm => h (List.mem_cons_of_mem _ hm)))
theorem objOf_at {f : List UInt8} {i : Nat} (h : f[i]? = some 46) (hn : (46 : UInt8) ∉ f.take i) : objOf f = f.take i := by
  obtain ⟨hi, e⟩ := List.getElem?_eq_some_iff.1 h
  have : f = f.take i ++ 46 :: f.drop (i + 1) := by
    rw [← e, ← List.drop_eq_getElem_cons hi, List.take_append_drop]
  have h2 := objOf_app (s := f.drop (i + 1)) hn
  rw [← this] at h2
  exact h2
theorem rd_cut {f : List UInt8} {n : Nm} (h : rd f = some n) : ∃ s, bareOf f = objOf f ++ 46 :: s ∧ mayS (objOf f) = true ∧ rdS (objOf f) s (tempOf f) = some n := by
  unfold rd at h
  cases hc : cutP (bareOf f) with
  | none => rw [hc] at h; cases h
  | some x =>
    obtain ⟨o, s⟩ := x
    rw [hc] at h
    dsimp only at h
    obtain ⟨h1, h2⟩ := cutP_some hc
    have ho : objOf f = o := by
      have e := bare_is f
      rw [h1, List.append_assoc, List.cons_append] at e
      rw [e]
      exact objOf_app h2
    by_cases hm : mayS o = true
    · rw [if_pos hm] at h
      exact ⟨s, by rw [ho]; exact h1, by rw [ho]; exact hm, by rw [ho]; exact h⟩
    · rw [if_neg hm] at h; cases h
/-- What a text says, by the names that there are. -/
theorem rdS_names {o s : List UInt8} {t : Bool} {n : Nm} (h : rdS o s t = some n) : s = sideL ∨ (∃ p k i, (1 ≤ p ∧ p ≤ 6) ∧ (1 ≤ k ∧ k ≤ 8) ∧ i < k ∧ o ++ 46 :: s = dataN o (layL p) k i) ∨ ∃ p k m i, mayP p ((k : Nat) : Int) ((m : Nat) : Int) = true ∧ i < m ∧ o ++ 46 :: s = parN o (tagL p) k m i := by
  unfold rdS at h
  by_cases hs : s = sideL
  · exact .inl hs
  · rw [if_neg hs] at h
    split at h
    · rename_i c y k i
      unfold rdD at h
      split at h
      · rename_i hc
        obtain ⟨⟨rfl, hl⟩, h1, h2⟩ := hc
        obtain ⟨p, hp, rfl⟩ := of_decide_eq_true hl
        have hp6 : 1 ≤ p ∧ p ≤ 6 := by simp at hp; omega
        refine .inr (.inl ⟨p, (dg k).toNat, (dg i).toNat, hp6, by omega, by omega, ?_⟩)
        unfold dataN fig
        simp only [List.map_cons, List.map_nil]
        rw [fg_dg (by omega), fg_dg (by omega)]
      · cases h
    · rename_i c y z k m i
      unfold rdP at h
      split at h
      · rename_i hc
        obtain ⟨⟨rfl, hl⟩, h1, h2⟩ := hc
        obtain ⟨p, hp6, e1, e2⟩ := tagP_some hl
        rw [e2] at h1
        obtain ⟨-, -, kn, mn, e3, e4, -⟩ := mayP_of h1
        refine .inr (.inr ⟨p, (dg k).toNat, (dg m).toNat, (dg i).toNat, ?_, by omega, ?_⟩)
        · rw [Int.toNat_of_nonneg (by omega), Int.toNat_of_nonneg (by omega)]; exact h1
        · unfold parN fig
          rw [← e1]
          simp only [List.map_cons, List.map_nil]
          rw [fg_dg (by omega), fg_dg (by omega), fg_dg (by omega)]
          rfl
      · cases h
    · cases h
theorem rd_none {f o : List UInt8} (ho : objOf f = o) (hs : bareOf f ≠ o ++ 46 :: sideL) (hD : ∀ p k i, (1 ≤ p ∧ p ≤ 6) → (1 ≤ k ∧ k ≤ 8) → i < k → bareOf f ≠ dataN o (layL p) k i) (hP : ∀ (p : Int) (k m i : Nat), mayP p (k : Int) (m : Int) = true → i < m → bareOf f ≠ parN o (tagL p) k m i) : rd f = none := by
  cases h : rd f with
  | none => rfl
  | some n =>
    exfalso
    obtain ⟨s, h1, h2, h3⟩ := rd_cut h
    rw [ho] at h1 h2 h3
    rcases rdS_names h3 with rfl | ⟨p, k, i, a1, a2, a3, a4⟩ | ⟨p, k, m, i, a1, a2, a3⟩
    · exact hs h1
    · exact hD p k i a1 a2 a3 (h1.trans a4)
    · exact hP p k m i a1 a2 (h1.trans a3)
theorem rd_no {f : List UInt8} (h : mayS (objOf f) = false ∨ 20 < (bareOf f).length) : rd f = none := by
  cases hr : rd f with
  | none => rfl
  | some n =>
    exfalso
    obtain ⟨s, h1, h2, h3⟩ := rd_cut hr
    rcases h with h | h
    · rw [h] at h2; cases h2
    · have hl := mayS_len h2
      rcases rdS_names h3 with rfl | ⟨p, k, i, a1, a2, a3, a4⟩ | ⟨p, k, m, i, a1, a2, a3⟩
      · rw [h1] at h; simp [sideL] at h; omega
      · rw [h1, a4] at h; simp [dataN, fig] at h; omega
      · rw [h1, a3] at h; simp [parN, fig, tagL_len] at h; omega
end Go.Gam
