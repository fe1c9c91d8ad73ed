/- Rows of the identity with other rows behind it: which of them, as many as columns, have an inverse; minors. No program in sight. -/
import Derived.Test.YtkoiolamnnmokaaDoorGVan
set_option linter.unusedVariables false
set_option linter.unusedSimpArgs false
namespace Go.Gam
open Px

/-! ### sums over a list -/
def xsumL : List Nat → (Nat → Nat) → Nat
  | [], _ => 0
  | j :: r, f => f j ^^^ xsumL r f
theorem xsumL_app (f : Nat → Nat) : ∀ (a b : List Nat), xsumL (a ++ b) f = xsumL a f ^^^ xsumL b f
  | [], b => by simp [xsumL]
  | j :: r, b => by rw [List.cons_append, xsumL, xsumL_app f r b, xsumL, Nat.xor_assoc]
theorem xsumL_range (f : Nat → Nat) : ∀ n, xsumL (List.range n) f = xsum n f
  | 0 => rfl
  | n + 1 => by rw [List.range_succ, xsumL_app, xsumL_range f n, xsum]; simp [xsumL]
theorem xsumL_filter {f : Nat → Nat} {p : Nat → Bool} : ∀ {L : List Nat}, (∀ j ∈ L, p j = false → f j = 0) → xsumL L f = xsumL (L.filter p) f
  | [], _ => rfl
  | j :: r, h => by
    have ih := xsumL_filter (L := r) fun j hj => h j (List.mem_cons_of_mem _ hj)
    cases hp : p j with
    | true => rw [List.filter_cons_of_pos hp, xsumL, xsumL, ih]
    | false => rw [List.filter_cons_of_neg (by simp [hp]), xsumL, ih, h j (List.mem_cons_self ..) hp, Nat.zero_xor]
theorem xsumL_len (f : Nat → Nat) : ∀ J : List Nat, xsumL J f = xsum J.length fun b => f (J.getD b 0)
  | [] => rfl
  | j :: r => by
    rw [xsumL, xsumL_len f r, List.length_cons, Nat.add_comm r.length 1, xsum_add]
    congr 1
    · show f j = 0 ^^^ f j; rw [Nat.zero_xor]
    · exact xsum_congr fun i _ => by rw [Nat.add_comm 1 i]; rfl
theorem sub_len {a b : List Nat} (ha : a.Nodup) (h : ∀ x ∈ a, x ∈ b) : a.length ≤ b.length := by
  by_cases hl : b.length ≤ a.length
  · exact Nat.le_of_eq (Fld.perm_of_sub a b ha h hl).length_eq
  · omega
theorem filter_two {α : Type} (p : α → Bool) : ∀ l : List α, (l.filter p).length + (l.filter fun x => !p x).length = l.length
  | [] => rfl
  | x :: r => by
    have ih := filter_two p r
    cases h : p x <;> simp [h] <;> omega

/-! ### minors -/
/-- The rows behind the identity that are chosen; the columns that no chosen row of the identity has. -/
def parR (k : Nat) (l : List Nat) : List Nat := (l.filter fun x => decide (k ≤ x)).map (· - k)
def misJ (k : Nat) (l : List Nat) : List Nat := (List.range k).filter fun j => !decide (j ∈ l)
theorem par_mis {k : Nat} {l : List Nat} (hl : l.length = k) (hn : l.Nodup) : (parR k l).length = (misJ k l).length := by
  have h1 := filter_two (fun x => decide (k ≤ x)) l
  have h2 := filter_two (fun j => decide (j ∈ l)) (List.range k)
  have e : (l.filter fun x => !decide (k ≤ x)).length = ((List.range k).filter fun j => decide (j ∈ l)).length := by
    apply Nat.le_antisymm
    · exact sub_len (hn.filter _) fun x hx => by
        simp only [List.mem_filter, Bool.not_eq_true', decide_eq_false_iff_not] at hx
        simp only [List.mem_filter, List.mem_range, decide_eq_true_iff]
        exact ⟨by omega, hx.1⟩
    · exact sub_len (List.nodup_range.filter _) fun x hx => by
        simp only [List.mem_filter, List.mem_range, decide_eq_true_iff] at hx
        simp only [List.mem_filter, Bool.not_eq_true', decide_eq_false_iff_not]
        exact ⟨hx.2, by omega⟩
  unfold parR misJ
  rw [List.length_map]
  rw [List.length_range] at h2
  omega
theorem parR_nodup {k : Nat} {l : List Nat} (hn : l.Nodup) : (parR k l).Nodup := by
  refine List.Pairwise.map _ (R := fun a b => k ≤ a ∧ k ≤ b ∧ a ≠ b) (fun a b h e => h.2.2 (by omega)) ?_
  refine List.Pairwise.imp_of_mem (fun ha hb hne => ?_) (hn.filter _)
  simp only [List.mem_filter, decide_eq_true_iff] at ha hb
  exact ⟨ha.2, hb.2, hne⟩
theorem misJ_nodup (k : Nat) (l : List Nat) : (misJ k l).Nodup := List.nodup_range.filter _
theorem parR_lt {k m : Nat} {l : List Nat} (h : ∀ x ∈ l, x < k + m) : ∀ r ∈ parR k l, r < m := fun r hr => by
  obtain ⟨x, hx, rfl⟩ := List.mem_map.1 hr
  simp only [List.mem_filter, decide_eq_true_iff] at hx
  have := h x hx.1
  omega
theorem misJ_lt {k : Nat} {l : List Nat} : ∀ j ∈ misJ k l, j < k := fun j hj => List.mem_range.1 (List.mem_filter.1 hj).1
def mnr (C : Tb) (R J : List Nat) : Tb := fun a b => C (R.getD a 0) (J.getD b 0)
/-- The identity's k rows, with others behind it. -/
def beh (k : Nat) (C : Tb) : Tb := fun i j => if i < k then I1 i j else C (i - k) j
namespace Fld
variable (F : Fld)
theorem mnr_bd {C : Tb} (h : F.Bd C) (R J : List Nat) : F.Bd (mnr C R J) := fun a b => h _ _
theorem beh_bd {k : Nat} {C : Tb} (h : F.Bd C) : F.Bd (beh k C) := fun i j => by unfold beh; split; exact F.I1_bd _ _; exact h _ _
theorem getD_mem {L : List Nat} {i : Nat} (h : i < L.length) : L.getD i 0 ∈ L := by rw [getD_of h]; exact List.getElem_mem h
theorem row_par {k : Nat} {C : Tb} {l : List Nat} {y : Nat → Nat} (hy : ∀ j, j < k → j ∈ l → y j = 0) (r : Nat) :
    (xsum k fun j => F.mul (C r j) (y j)) = xsum (misJ k l).length fun b => F.mul (C r ((misJ k l).getD b 0)) (y ((misJ k l).getD b 0)) := by
  rw [← xsumL_range, xsumL_filter (p := fun j => !decide (j ∈ l)) (fun j hj hp => by
    rw [hy j (List.mem_range.1 hj) (by simpa using hp), F.mul_zero])]
  exact xsumL_len _ _
/-- Chosen rows have an inverse, if the minor that they leave has. -/
theorem mds_of {k m : Nat} {C : Tb} {l : List Nat} (hC : F.Bd C) (hl : l.length = k) (hn : l.Nodup) (h : (F.iv (parR k l).length (mnr C (parR k l) (misJ k l))).isSome = true) :
    ∃ g, F.iv k (fun i j => beh k C (l.getD i 0) j) = some g := by
  obtain ⟨g, hg⟩ := Option.isSome_iff_exists.1 h
  have hI := F.iv_some (F.mnr_bd hC _ _) hg
  have hlen := par_mis hl hn
  refine F.iv_ofR (fun i j => F.beh_bd hC _ _) fun y h1 h2 => ?_
  have hin : ∀ x ∈ l, (xsum k fun j => F.mul (beh k C x j) (y j)) = 0 := fun x hx => by
    obtain ⟨i, hi⟩ := List.getElem?_of_mem hx
    have hil := (List.getElem?_eq_some_iff.1 hi).1
    have := h2 i (by omega)
    rw [List.getD_eq_getElem?_getD, hi] at this
    exact this
  have hid : ∀ j, j < k → j ∈ l → y j = 0 := fun j hj hjl => by
    have := hin j hjl
    rw [xsum_congr (g := fun s => F.mul (I1 j s) (y s)) fun s _ => by unfold beh; rw [if_pos hj]] at this
    have e := F.mm_idl (n := k) (f := fun s _ => y s) (i := j) (j := 0) hj (h1 j)
    unfold mm at e
    rw [← e]; exact this
  have hz : ∀ b, b < (parR k l).length → y ((misJ k l).getD b 0) = 0 := by
    refine hI.right F (y := fun b => y ((misJ k l).getD b 0)) (fun b => h1 _) fun a ha => ?_
    have hr := getD_mem ha
    obtain ⟨x, hx, hxe⟩ := List.mem_map.1 hr
    simp only [List.mem_filter, decide_eq_true_iff] at hx
    have := hin x hx.1
    rw [xsum_congr (g := fun s => F.mul (C (x - k) s) (y s)) fun s _ => by unfold beh; rw [if_neg (by omega)], F.row_par hid, ← hlen] at this
    unfold mnr
    rw [← hxe]
    exact this
  intro j hj
  by_cases hjl : j ∈ l
  · exact hid j hj hjl
  · have hm : j ∈ misJ k l := List.mem_filter.2 ⟨List.mem_range.2 hj, by simpa using hjl⟩
    obtain ⟨b, hb⟩ := List.getElem?_of_mem hm
    have hbl := (List.getElem?_eq_some_iff.1 hb).1
    have := hz b (by omega)
    rw [List.getD_eq_getElem?_getD, hb] at this
    exact this
/-- And the other way. -/
theorem mds_to {k m : Nat} {C : Tb} {l : List Nat} (hC : F.Bd C) (hl : l.length = k) (hn : l.Nodup) (h : (F.iv k (fun i j => beh k C (l.getD i 0) j)).isSome = true) :
    ∃ g, F.iv (parR k l).length (mnr C (parR k l) (misJ k l)) = some g := by
  obtain ⟨g, hg⟩ := Option.isSome_iff_exists.1 h
  have hI := F.iv_some (fun i j => F.beh_bd hC _ _) hg
  have hlen := par_mis hl hn
  refine F.iv_ofR (F.mnr_bd hC _ _) fun z h1 h2 => ?_
  let y : Nat → Nat := fun j => if j ∈ misJ k l then z ((misJ k l).idxOf j) else 0
  have hyb : ∀ j, y j < 2 ^ F.w := fun j => by
    show (if _ then _ else _) < _
    split
    · exact h1 _
    · exact F.zero_lt
  have hid : ∀ j, j < k → j ∈ l → y j = 0 := fun j hj hjl => if_neg fun hm => by
    have := (List.mem_filter.1 hm).2
    simp [hjl] at this
  have hyz : ∀ b, b < (misJ k l).length → y ((misJ k l).getD b 0) = z b := fun b hb => by
    show (if _ then _ else _) = _
    rw [if_pos (getD_mem hb), getD_of hb, List.Nodup.idxOf_getElem (misJ_nodup k l) b hb]
  have hy0 := hI.right F hyb fun i hi => by
    have hx := getD_mem (L := l) (i := i) (by omega)
    generalize l.getD i 0 = x at hx
    by_cases hxk : x < k
    · rw [xsum_congr (g := fun s => F.mul (I1 x s) (y s)) fun s _ => by unfold beh; rw [if_pos hxk]]
      have e := F.mm_idl (n := k) (f := fun s _ => y s) (i := x) (j := 0) hxk (hyb x)
      unfold mm at e
      rw [e]; exact hid x hxk hx
    · rw [xsum_congr (g := fun s => F.mul (C (x - k) s) (y s)) fun s _ => by unfold beh; rw [if_neg hxk], F.row_par hid]
      have hxp : x - k ∈ parR k l := List.mem_map.2 ⟨x, List.mem_filter.2 ⟨hx, by simpa using hxk⟩, rfl⟩
      obtain ⟨a, ha⟩ := List.getElem?_of_mem hxp
      have hal := (List.getElem?_eq_some_iff.1 ha).1
      have := h2 a hal
      unfold mnr at this
      rw [List.getD_eq_getElem?_getD, ha, hlen] at this
      exact Eq.trans (xsum_congr fun b hb => by rw [hyz b hb]; rfl) this
  intro b hb
  rw [← hyz b (by omega)]
  exact hy0 _ (misJ_lt _ (getD_mem (by omega)))

/-! ### rows of powers, columns for rows -/
theorem pow_tr {r : Nat} {x z : Nat → Nat} (hx : ∀ b, x b < 2 ^ F.w) (hu : ∀ a b, a < r → b < r → x a = x b → a = b) (hz : ∀ b, z b < 2 ^ F.w) (h : ∀ e, e < r → (xsum r fun b => F.mul (F.pow (x b) e) (z b)) = 0) : ∀ b, b < r → z b = 0 := by
  obtain ⟨g, hg⟩ := F.vander hx hu
  have hI := F.iv_some (fun i j => F.pow_lt _ _) hg
  exact hI.left F hz fun e he => by rw [← h e he]; exact xsum_congr fun b _ => F.comm _ _
theorem sq_inj {a b : Nat} (ha : a < 2 ^ F.w) (hb : b < 2 ^ F.w) (h : F.mul a a = F.mul b b) : a = b := by
  have h1 := F.sq_xor a b
  rw [h, Nat.xor_self] at h1
  rcases F.nzd _ _ (Px.xor_lt ha hb) (Px.xor_lt ha hb) h1 with h2 | h2 <;> exact Px.xor_eq_zero h2
theorem pow_two (a : Nat) (h : a < 2 ^ F.w) : F.pow a 2 = F.mul a a := by rw [show 2 = 1 + 1 from rfl, F.pow_add, F.pow_one a h]
/-- Three rows at most of powers of unlike numbers, the first three: any of them, of as many columns. -/
theorem three {R J : List Nat} {x : Nat → Nat} (hx : ∀ j, x j < 2 ^ F.w) (hx0 : ∀ j ∈ J, x j ≠ 0) (hu : ∀ i ∈ J, ∀ j ∈ J, x i = x j → i = j) (hR : R.Nodup) (hR3 : ∀ e ∈ R, e < 3) (hJ : J.Nodup) (hl : R.length = J.length) :
    ∃ g, F.iv R.length (mnr (fun i j => F.pow (x j) i) R J) = some g := by
  refine F.iv_ofR (fun a b => F.pow_lt _ _) fun z hz h => ?_
  have hrow : ∀ e ∈ R, (xsum R.length fun b => F.mul (F.pow (x (J.getD b 0)) e) (z b)) = 0 := fun e he => by
    obtain ⟨a, ha⟩ := List.getElem?_of_mem he
    have := h a (List.getElem?_eq_some_iff.1 ha).1
    unfold mnr at this
    rw [List.getD_eq_getElem?_getD, ha] at this
    exact this
  have hJu : ∀ a b, a < R.length → b < R.length → x (J.getD a 0) = x (J.getD b 0) → a = b := fun a b ha hb e => by
    have h1 := hu _ (getD_mem (L := J) (by omega)) _ (getD_mem (L := J) (by omega)) e
    rw [getD_of (show a < J.length by omega), getD_of (show b < J.length by omega)] at h1
    refine Classical.byContradiction fun hne => ?_
    rcases Nat.lt_or_gt_of_ne hne with h' | h'
    · exact List.pairwise_iff_getElem.1 hJ a b _ _ h' h1
    · exact List.pairwise_iff_getElem.1 hJ b a _ _ h' h1.symm
  have hJ0 : ∀ b, b < R.length → x (J.getD b 0) ≠ 0 := fun b hb => hx0 _ (getD_mem (by omega))
  generalize hX : (fun b => x (J.getD b 0)) = X
  have hXe : ∀ b, x (J.getD b 0) = X b := fun b => by rw [← hX]
  have hXb : ∀ b, X b < 2 ^ F.w := fun b => by rw [← hXe]; exact hx _
  simp only [hXe] at hrow hJu hJ0
  clear hX hXe hl h
  -- all rows from 0 on
  have full : (∀ e, e < R.length → e ∈ R) → ∀ b, b < R.length → z b = 0 := fun hf => F.pow_tr hXb hJu hz fun e he => hrow e (hf e he)
  match R, hR, hR3, hrow, hJu, hJ0, full with
  | [], _, _, _, _, _, _ => intro b hb; simp at hb
  | [e], _, _, hrow, _, hJ0, _ =>
    intro b hb
    have hb0 : b = 0 := by simpa using hb
    subst hb0
    have h1 := hrow e (by simp)
    simp only [List.length_singleton, xsum, Nat.zero_xor] at h1
    rcases F.nzd _ _ (F.pow_lt _ _) (hz 0) h1 with h2 | h2
    · exact absurd h2 (F.pow_ne (hXb 0) (hJ0 0 (by simp)) e)
    · exact h2
  | [e, f], hR, hR3, hrow, hJu, hJ0, full =>
    have hef : e ≠ f := by simpa using hR
    have he := hR3 e (by simp)
    have hf := hR3 f (by simp)
    have cases3 : (0 ∈ [e, f] ∧ 1 ∈ [e, f]) ∨ (0 ∈ [e, f] ∧ 2 ∈ [e, f]) ∨ (1 ∈ [e, f] ∧ 2 ∈ [e, f]) := by
      simp only [List.mem_cons, List.mem_nil_iff, or_false]; omega
    rcases cases3 with ⟨h0, h1⟩ | ⟨h0, h1⟩ | ⟨h0, h1⟩
    · exact full fun s hs => by
        have : s = 0 ∨ s = 1 := by simp at hs; omega
        rcases this with rfl | rfl
        · exact h0
        · exact h1
    · refine F.pow_tr (x := fun b => F.mul (X b) (X b)) (fun b => F.lt _ _) (fun a b ha hb h => hJu a b ha hb (F.sq_inj (hXb a) (hXb b) h)) hz fun s hs => ?_
      have : s = 0 ∨ s = 1 := by simp at hs; omega
      rcases this with rfl | rfl
      · exact hrow 0 h0
      · exact Eq.trans (xsum_congr fun b _ => by rw [F.pow_one _ (F.lt _ _), F.pow_two _ (hXb b)]) (hrow 2 h1)
    · have := F.pow_tr (x := X) (z := fun b => F.mul (X b) (z b)) hXb hJu (fun b => F.lt _ _) fun s hs => by
        have : s = 0 ∨ s = 1 := by simp at hs; omega
        rcases this with rfl | rfl
        · exact Eq.trans (xsum_congr fun b _ => by rw [F.pow_one _ (hXb b)]; exact F.one _ (F.lt _ _)) (hrow 1 h0)
        · exact Eq.trans (xsum_congr fun b _ => by rw [F.pow_one _ (hXb b), F.pow_two _ (hXb b), F.assoc]) (hrow 2 h1)
      intro b hb
      rcases F.nzd _ _ (hXb b) (hz b) (this b hb) with h2 | h2
      · exact absurd h2 (hJ0 b hb)
      · exact h2
  | [e, f, g], hR, hR3, _, _, _, full =>
    have he := hR3 e (by simp)
    have hf := hR3 f (by simp)
    have hg := hR3 g (by simp)
    simp at hR
    exact full fun s hs => by
      have : s = 0 ∨ s = 1 ∨ s = 2 := by simp at hs; omega
      simp only [List.mem_cons, List.mem_nil_iff, or_false]
      omega
  | e :: f :: g :: i :: r, hR, hR3, _, _, _, _ =>
    have he := hR3 e (by simp)
    have hf := hR3 f (by simp)
    have hg := hR3 g (by simp)
    have hi := hR3 i (by simp)
    simp at hR
    omega
end Fld
end Go.Gam
