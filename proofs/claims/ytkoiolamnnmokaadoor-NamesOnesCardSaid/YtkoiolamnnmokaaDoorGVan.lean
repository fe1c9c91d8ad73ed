/- Matrices of powers: what package vander tells; rows that are chosen. No program in sight. -/
import Derived.Test.YtkoiolamnnmokaaDoorGInvL
set_option linter.unusedVariables false
set_option linter.unusedSimpArgs false
namespace Go.Gam
open Px

theorem gpow_nn {wb p : Nat} (hp : Prm wb p) (x n : Int) : 0 ≤ gpow (some (wb, p)) x n ∧ gpow (some (wb, p)) x n < ((2 ^ wb : Nat) : Int) := by
  have h0 := hp.size.1
  unfold gpow
  split
  · have := hp.pow_lt x.toNat n.toNat
    exact ⟨Int.natCast_nonneg _, by show ((Px.pow x.toNat p n.toNat : Nat) : Int) < _; omega⟩
  · exact ⟨by omega, by omega⟩
/-- Powers of the rows' numbers; of powers of 2. -/
def pwT (o : Fq) : Tb := fun i j => (gpow o (i : Int) (j : Int)).toNat
def isT (o : Fq) : Tb := fun i j => (gpow o (gpow o 2 (i : Int)) (j : Int)).toNat
def fitB (o : Fq) (k m : Int) : Bool := o.isSome && decide (1 ≤ k ∧ 1 ≤ m ∧ k < 20 ∧ m < 20 ∧ k + m ≤ 20)
def rawB (o : Fq) (k m : Int) : Bool := o.isSome && decide (1 ≤ k ∧ k ≤ 20 ∧ 1 ≤ m ∧ m ≤ 20)
def rawM (o : Fq) (k m : Int) : Option Mtx := if rawB o k m = true then some (tab k.toNat m.toNat (pwT o)) else none
def isalM (o : Fq) (k m : Int) : Option Mtx := if fitB o k m = true then some (tab m.toNat k.toNat (isT o)) else none
section
variable {wb p : Nat} (hp : Prm wb p)
def vinv (k : Nat) : Tb := (hp.fld.iv k fun i j => hp.fld.pow i j).getD I1
def sysT (k : Nat) : Tb := hp.fld.mm k (fun i j => hp.fld.pow i j) (vinv hp k)
def sysM (k m : Int) : Option Mtx := if fitB (some (wb, p)) k m = true then some (tab (k + m).toNat k.toNat (sysT hp k.toNat)) else none
theorem pwT_pow {i j : Nat} (hi : i < 256) : pwT (some (wb, p)) i j = hp.fld.pow i j := by
  unfold pwT
  have := hp.size.1
  rw [gpow_fld hp (by omega), Int.toNat_natCast]
theorem isT_pow {i j : Nat} : isT (some (wb, p)) i j = hp.fld.pow (hp.fld.pow 2 i) j := by
  unfold isT
  have := hp.size.1
  have h2 : hp.fld.pow 2 i < 2 ^ wb := by have := hp.fld.pow_lt 2 i; rwa [hp.fld_w] at this
  rw [show (2 : Int) = ((2 : Nat) : Int) from rfl, gpow_fld hp (by omega), gpow_fld hp h2, Int.toNat_natCast]
theorem vinv_ok {k : Nat} (hk : k ≤ 256) : hp.fld.iv k (fun i j => hp.fld.pow i j) = some (vinv hp k) ∧ hp.fld.Iv k (fun i j => hp.fld.pow i j) (vinv hp k) := by
  have h16 := hp.size.1
  have hb : hp.fld.Bd fun i j => hp.fld.pow i j := fun i j => hp.fld.pow_lt _ _
  obtain ⟨g, hg⟩ := hp.fld.vander (n := k) (x := fun i => if i < 256 then i else 0) (fun i => by rw [hp.fld_w]; split <;> omega) (fun i j hi hj e => by
    rw [if_pos (by omega), if_pos (by omega)] at e
    exact e)
  have hc := hp.fld.iv_congr (n := k) (f := fun i j => hp.fld.pow i j) (g := fun i k => hp.fld.pow (if i < 256 then i else 0) k) hb (fun i j => hp.fld.pow_lt _ _) fun i j hi _ => by rw [if_pos (by omega)]
  rw [hg] at hc
  obtain ⟨g', hg'⟩ := Option.isSome_iff_exists.1 hc
  have e : vinv hp k = g' := by unfold vinv; rw [hg']; rfl
  rw [e]
  exact ⟨hg', hp.fld.iv_some hb hg'⟩
theorem tab_take {n k m : Nat} {f : Tb} (h : k ≤ n) : (tab n m f).take k = tab k m f := by
  unfold tab
  rw [← List.map_take, List.take_range, Nat.min_eq_left h]
theorem tab_drop {n k m : Nat} {f : Tb} (h : k ≤ n) : (tab n m f).drop k = tab (n - k) m fun i j => f (k + i) j := by
  unfold tab
  apply List.ext_getElem?
  intro i
  rw [List.getElem?_drop, List.getElem?_map, List.getElem?_map]
  by_cases hi : i < n - k
  · rw [List.getElem?_range hi, List.getElem?_range (show k + i < n by omega)]; rfl
  · rw [List.getElem?_eq_none (by simp; omega), List.getElem?_eq_none (by simp; omega)]; rfl
/-- The first rows' inverse, as it is told. -/
theorem raw_inv {k : Nat} (h1 : 1 ≤ k) (h2 : k ≤ 20) : invR hp (tab k k (pwT (some (wb, p)))) = (0, tab k k (vinv hp k)) := by
  have e : tab k k (pwT (some (wb, p))) = tab k k fun i j => hp.fld.pow i j := tab_congr fun i j hi _ => pwT_pow hp (by omega)
  rw [e]
  have hb : hp.fld.Bd fun i j => hp.fld.pow i j := fun i j => hp.fld.pow_lt _ _
  have hm := mx_tab hp (n := k) (m := k) hb
  have hl : (tab k k fun i j => hp.fld.pow i j).length = k := tab_length _ _ _
  obtain ⟨hi, hI⟩ := vinv_ok hp (k := k) (by omega)
  have hI2 := hI.congr hp.fld (hm.bd hp) fun i j hi hj => (en_tab hi hj : en (tab k k fun i j => hp.fld.pow i j) i j = _)
  obtain ⟨g, hg⟩ := hp.fld.iv_of_Iv hI2
  have hu := (hp.fld.iv_some (hm.bd hp) hg).uniq hp.fld hI.bd' fun i j hi hj => hI2.r i j hi hj
  rw [invR_some hp (hm.sq h1 h2) (g := g) (by rw [hl]; exact hg), hl]
  congr 1
  exact tab_congr fun i j hi hj => (hu i j hi hj).symm
theorem sys_mul {k m : Nat} (h1 : 1 ≤ k) (h2 : 1 ≤ m) (h3 : k + m ≤ 20) : mulM (some (wb, p)) (tab (k + m) k (pwT (some (wb, p)))) (tab k k (vinv hp k)) = some (tab (k + m) k (sysT hp k)) := by
  have hb : hp.fld.Bd fun i j => hp.fld.pow i j := fun i j => hp.fld.pow_lt _ _
  have e : tab (k + m) k (pwT (some (wb, p))) = tab (k + m) k fun i j => hp.fld.pow i j := tab_congr fun i j hi _ => pwT_pow hp (by omega)
  rw [e, mulM_tab hp (mx_tab hp hb) (mx_tab hp (vinv_ok hp (show k ≤ 256 by omega)).2.bd') ⟨by omega, by omega⟩ ⟨h1, by omega⟩ ⟨h1, by omega⟩]
  congr 1
  exact tab_congr fun i j hi hj => xsum_congr fun l hl => by rw [en_tab hi hl, en_tab hl hj]
end

/-! ### rows chosen -/
/-- What is chosen so far; which ones that are, bit by bit; where. -/
def stC (rows step : Nat) (s : List Nat × Nat × Nat) : List Nat × Nat × Nat :=
  let o := if s.2.1.testBit s.2.2 then s.1 else s.1 ++ [s.2.2]
  let b := if s.2.1.testBit s.2.2 then s.2.1 else s.2.1 ||| 1 <<< s.2.2
  let a := (s.2.2 + step) % rows
  (o, b, if b.testBit a then (a + 1) % rows else a)
def chS (rows step at0 : Nat) : Nat → List Nat × Nat × Nat
  | 0 => ([], 0, at0)
  | i + 1 => stC rows step (chS rows step at0 i)
def chI (rows step : Nat) : Nat → List Nat × Nat × Nat → List Nat × Nat × Nat
  | 0, s => s
  | i + 1, s => chI rows step i (stC rows step s)
theorem chI_st (rows step : Nat) : ∀ i s, chI rows step (i + 1) s = stC rows step (chI rows step i s)
  | 0, _ => rfl
  | i + 1, s => by rw [chI, chI_st rows step i, chI]
theorem chS_I (rows step at0 : Nat) : ∀ i, chS rows step at0 i = chI rows step i ([], 0, at0)
  | 0 => rfl
  | i + 1 => by rw [chS, chS_I rows step at0 i, ← chI_st]
/-- How many are chosen. -/
def chN (rows step : Nat) : Nat → Nat → Nat → Nat → Nat
  | 0, n, _, _ => n
  | i + 1, n, b, t =>
    bif Nat.beq ((b >>> t) % 2) 1 then
      (bif Nat.beq ((b >>> ((t + step) % rows)) % 2) 1 then chN rows step i n b (((t + step) % rows + 1) % rows) else chN rows step i n b ((t + step) % rows))
    else
      (bif Nat.beq (((b ||| 1 <<< t) >>> ((t + step) % rows)) % 2) 1 then chN rows step i (n + 1) (b ||| 1 <<< t) (((t + step) % rows + 1) % rows) else chN rows step i (n + 1) (b ||| 1 <<< t) ((t + step) % rows))
theorem beq_bit (b t : Nat) : Nat.beq ((b >>> t) % 2) 1 = b.testBit t := by
  rw [Nat.testBit_eq_decide_div_mod_eq, Nat.shiftRight_eq_div_pow]
  rw [Bool.eq_iff_iff, decide_eq_true_iff, Nat.beq_eq]
theorem chN_I (rows step : Nat) : ∀ i s, chN rows step i s.1.length s.2.1 s.2.2 = (chI rows step i s).1.length
  | 0, _ => rfl
  | i + 1, s => by
    rw [chI, ← chN_I rows step i, chN, beq_bit, beq_bit, beq_bit]
    unfold stC
    cases h : s.2.1.testBit s.2.2 with
    | true =>
      simp only [cond_true, if_true]
      cases h2 : s.2.1.testBit ((s.2.2 + step) % rows) <;> simp only [cond_true, cond_false, if_true, if_false, Bool.false_eq_true]
    | false =>
      simp only [cond_false, Bool.false_eq_true, if_false, List.length_append, List.length_singleton]
      cases h2 : (s.2.1 ||| 1 <<< s.2.2).testBit ((s.2.2 + step) % rows) <;> simp only [cond_true, cond_false, if_true, if_false, Bool.false_eq_true]
def chOk : Bool := (List.range 21).all fun rows => (List.range rows).all fun t => (List.range rows).all fun step => Nat.ble (rows - 1) (chN rows step (2 * rows) 0 0 t)
theorem chOk_t : chOk = true := by decide +kernel
/-- As many as are asked for are chosen. -/
theorem chS_many {rows step t : Nat} (h : rows ≤ 20) (ht : t < rows) : rows - 1 ≤ (chS rows (step % rows) t (2 * rows)).1.length := by
  have h1 := chOk_t
  unfold chOk at h1
  rw [List.all_eq_true] at h1
  have h2 := h1 rows (List.mem_range.2 (by omega))
  rw [List.all_eq_true] at h2
  have h3 := h2 t (List.mem_range.2 ht)
  rw [List.all_eq_true] at h3
  have h4 := h3 (step % rows) (List.mem_range.2 (Nat.mod_lt _ (by omega)))
  rw [chS_I, ← chN_I]
  exact Nat.le_of_ble_eq_true h4
theorem chS_at {rows step t : Nat} (h : 0 < rows) (ht : t < rows) : ∀ i, (chS rows step t i).2.2 < rows
  | 0 => ht
  | i + 1 => by
    show (stC _ _ _).2.2 < rows
    unfold stC
    dsimp only
    split <;> (try split) <;> exact Nat.mod_lt _ h
/-- What is known of the rows that are chosen. -/
theorem chS_ok {rows step t : Nat} (h : 0 < rows) (ht : t < rows) : ∀ i, (chS rows step t i).1.Nodup ∧ ∀ x, (x ∈ (chS rows step t i).1 ↔ (chS rows step t i).2.1.testBit x = true) ∧ (x ∈ (chS rows step t i).1 → x < rows)
  | 0 => ⟨List.nodup_nil, fun x => by simp [chS]⟩
  | i + 1 => by
    obtain ⟨h1, h2⟩ := chS_ok (step := step) h ht i
    have h3 := chS_at (step := step) h ht i
    show (stC _ _ _).1.Nodup ∧ ∀ x, (x ∈ (stC _ _ _).1 ↔ (stC _ _ _).2.1.testBit x = true) ∧ (x ∈ (stC _ _ _).1 → x < rows)
    generalize chS rows step t i = s at *
    unfold stC
    dsimp only
    cases hb : s.2.1.testBit s.2.2 with
    | true => simp only [if_true]; exact ⟨h1, h2⟩
    | false =>
      simp only [Bool.false_eq_true, if_false]
      have hni : s.2.2 ∉ s.1 := fun hm => by rw [(h2 _).1.1 hm] at hb; cases hb
      refine ⟨List.pairwise_append.2 ⟨h1, List.pairwise_singleton _ _, fun a ha b hb' => ?_⟩, fun x => ⟨?_, fun hx => ?_⟩⟩
      · obtain rfl : b = s.2.2 := by simpa using hb'
        exact fun e => hni (e ▸ ha)
      · rw [List.mem_append, Nat.testBit_or, Bool.or_eq_true, (h2 x).1, Nat.one_shiftLeft, Nat.testBit_two_pow]
        simp only [List.mem_singleton, decide_eq_true_iff]
        exact ⟨fun h => h.imp id Eq.symm, fun h => h.imp id Eq.symm⟩
      · rcases List.mem_append.1 hx with hx | hx
        · exact (h2 x).2 hx
        · obtain rfl : x = s.2.2 := by simpa using hx
          exact h3
def bls (b : Nat) : List Value := (List.range 20).map fun x => .bool (b.testBit x)
@[simp] theorem bls_length (b : Nat) : (bls b).length = 20 := by simp [bls]
theorem bls_zero : List.replicate 20 (Value.bool false) = bls 0 := by simp [bls]; rfl
theorem bls_at {b x : Nat} (h : x < 20) : (bls b)[x]? = some (.bool (b.testBit x)) := by simp [bls, h]
theorem bls_set {b x : Nat} (h : x < 20) : (bls b).set x (.bool true) = bls (b ||| 1 <<< x) := by
  apply List.ext_getElem?
  intro l
  by_cases hl : l < 20
  · rw [bls_at hl, List.getElem?_set]
    by_cases e : x = l
    · subst e
      rw [if_pos rfl, if_pos (by simpa using h), Nat.testBit_or, Nat.one_shiftLeft, Nat.testBit_two_pow]
      simp
    · rw [if_neg e, bls_at hl, Nat.testBit_or, Nat.one_shiftLeft, Nat.testBit_two_pow]
      simp [e]
  · rw [List.getElem?_eq_none (by simp; omega), List.getElem?_eq_none (by simp; omega)]
theorem Fo.ptr {D : FD} {B : Nat} {w : World} {v : Value} {o : Fq} (h : Fo D B w v o) : ∃ a, v = .pointer a ∧ a.isSome = o.isSome := by
  cases o with
  | none => exact ⟨none, h, rfl⟩
  | some q => obtain ⟨-, k, rfl, -⟩ := h; exact ⟨_, rfl, rfl⟩
theorem rawM_no {o : Fq} {k m : Int} (h : rawB o k m = false) : rawM o k m = none := by unfold rawM; rw [h]; rfl
theorem isalM_no {o : Fq} {k m : Int} (h : fitB o k m = false) : isalM o k m = none := by unfold isalM; rw [h]; rfl
theorem fitB_iff {o : Fq} {k m : Int} : fitB o k m = true ↔ o.isSome = true ∧ 1 ≤ k ∧ 1 ≤ m ∧ k < 20 ∧ m < 20 ∧ k + m ≤ 20 := by unfold fitB; rw [Bool.and_eq_true, decide_eq_true_iff]
theorem fitB_none (k m : Int) : fitB none k m = false := rfl
theorem pwT_nn {o : Fq} (h : ∀ wb p, o = some (wb, p) → Prm wb p) (x n : Int) : ((gpow o x n).toNat : Int) = gpow o x n := by
  cases o with
  | none => unfold gpow; split <;> simp [fpow]
  | some q => obtain ⟨wb, p⟩ := q; have := gpow_nn (h wb p rfl) x n; omega
theorem Fo.prms {D : FD} {B : Nat} {w : World} {v : Value} {o : Fq} (h : Fo D B w v o) : ∀ wb p, o = some (wb, p) → Prm wb p := fun wb p e => by subst e; exact h.1
end Go.Gam
