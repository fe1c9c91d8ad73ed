/- Texts of the claim VanderTells (part 9), put together in the order of their imports. -/
import Derived.Test.YtcnlooajjnghaaaGreatKVanderTells8
/- Matrices of powers: what package vander tells; rows that are chosen. No program in sight. -/
set_option linter.unusedVariables false
set_option linter.unusedSimpArgs false
namespace Go.Gam
open Px

theorem gpow_nn {wb p : Nat} (hp : Prm wb p) (x n : Int) : 0 ≤ gpow (some (wb, p)) x n ∧ gpow (some (wb, p)) x n < ((2 ^ wb : Nat) : Int) := by
  have h0 := hp.size.1
  unfold gpow
  split
  · have := hp.pow_lt x.toNat n.toNat
    exact ⟨Int.natCast_nonneg _, by show ((Px.pow x.toNat p n.toNat : Nat) : Int) < _; omega⟩
  · exact ⟨by omega, by omega⟩
/-- Powers of the rows' numbers; of powers of 2. -/
def pwT (o : Fq) : Tb := fun i j => (gpow o (i : Int) (j : Int)).toNat
def isT (o : Fq) : Tb := fun i j => (gpow o (gpow o 2 (i : Int)) (j : Int)).toNat
def fitB (o : Fq) (k m : Int) : Bool := o.isSome && decide (1 ≤ k ∧ 1 ≤ m ∧ k < 20 ∧ m < 20 ∧ k + m ≤ 20)
def rawB (o : Fq) (k m : Int) : Bool := o.isSome && decide (1 ≤ k ∧ k ≤ 20 ∧ 1 ≤ m ∧ m ≤ 20)
def rawM (o : Fq) (k m : Int) : Option Mtx := if rawB o k m = true then some (tab k.toNat m.toNat (pwT o)) else none
def isalM (o : Fq) (k m : Int) : Option Mtx := if fitB o k m = true then some (tab m.toNat k.toNat (isT o)) else none
section
variable {wb p : Nat} (hp : Prm wb p)
def vinv (k : Nat) : Tb := (hp.fld.iv k fun i j => hp.fld.pow i j).getD I1
def sysT (k : Nat) : Tb := hp.fld.mm k (fun i j => hp.fld.pow i j) (vinv hp k)
def sysM (k m : Int) : Option Mtx := if fitB (some (wb, p)) k m = true then some (tab (k + m).toNat k.toNat (sysT hp k.toNat)) else none
theorem pwT_pow {i j : Nat} (hi : i < 256) : pwT (some (wb, p)) i j = hp.fld.pow i j := by
  unfold pwT
  have := hp.size.1
  rw [gpow_fld hp (by omega), Int.toNat_natCast]
theorem isT_pow {i j : Nat} : isT (some (wb, p)) i j = hp.fld.pow (hp.fld.pow 2 i) j := by
  unfold isT
  have := hp.size.1
  have h2 : hp.fld.pow 2 i < 2 ^ wb := by have := hp.fld.pow_lt 2 i; rwa [hp.fld_w] at this
  rw [show (2 : Int) = ((2 : Nat) : Int) from rfl, gpow_fld hp (by omega), gpow_fld hp h2, Int.toNat_natCast]
theorem vinv_ok {k : Nat} (hk : k ≤ 256) : hp.fld.iv k (fun i j => hp.fld.pow i j) = some (vinv hp k) ∧ hp.fld.Iv k (fun i j => hp.fld.pow i j) (vinv hp k) := by
  have h16 := hp.size.1
  have hb : hp.fld.Bd fun i j => hp.fld.pow i j := fun i j => hp.fld.pow_lt _ _
  obtain ⟨g, hg⟩ := hp.fld.vander (n := k) (x := fun i => if i < 256 then i else 0) (fun i => by rw [hp.fld_w]; split <;> omega) (fun i j hi hj e => by
    rw [if_pos (by omega), if_pos (by omega)] at e
    exact e)
  have hc := hp.fld.iv_congr (n := k) (f := fun i j => hp.fld.pow i j) (g := fun i k => hp.fld.pow (if i < 256 then i else 0) k) hb (fun i j => hp.fld.pow_lt _ _) fun i j hi _ => by rw [if_pos (by omega)]
  rw [hg] at hc
  obtain ⟨g', hg'⟩ := Option.isSome_iff_exists.1 hc
  have e : vinv hp k = g' := by unfold vinv; rw [hg']; rfl
  rw [e]
  exact ⟨hg', hp.fld.iv_some hb hg'⟩
theorem tab_take {n k m : Nat} {f : Tb} (h : k ≤ n) : (tab n m f).take k = tab k m f := by
  unfold tab
  rw [← List.map_take, List.take_range, Nat.min_eq_left h]
theorem tab_drop {n k m : Nat} {f : Tb} (h : k ≤ n) : (tab n m f).drop k = tab (n - k) m fun i j => f (k + i) j := by
  unfold tab
  apply List.ext_getElem?
  intro i
  rw [List.getElem?_drop, List.getElem?_map, List.getElem?_map]
  by_cases hi : i < n - k
  · rw [List.getElem?_range hi, List.getElem?_range (show k + i < n by omega)]; rfl
  · rw [List.getElem?_eq_none (by simp; omega), List.getElem?_eq_none (by simp; omega)]; rfl
/-- The first rows' inverse, as it is told. -/
theorem raw_inv {k : Nat} (h1 : 1 ≤ k) (h2 : k ≤ 20) : invR hp (tab k k (pwT (some (wb, p)))) = (0, tab k k (vinv hp k)) := by
  have e : tab k k (pwT (some (wb, p))) = tab k k fun i j => hp.fld.pow i j := tab_congr fun i j hi _ => pwT_pow hp (by omega)
  rw [e]
  have hb : hp.fld.Bd fun i j => hp.fld.pow i j := fun i j => hp.fld.pow_lt _ _
  have hm := mx_tab hp (n := k) (m := k) hb
  have hl : (tab k k fun i j => hp.fld.pow i j).length = k := tab_length _ _ _
  obtain ⟨hi, hI⟩ := vinv_ok hp (k := k) (by omega)
  have hI2 := hI.congr hp.fld (hm.bd hp) fun i j hi hj => (en_tab hi hj : en (tab k k fun i j => hp.fld.pow i j) i j = _)
  obtain ⟨g, hg⟩ := hp.fld.iv_of_Iv hI2
  have hu := (hp.fld.iv_some (hm.bd hp) hg).uniq hp.fld hI.bd' fun i j hi hj => hI2.r i j hi hj
  rw [invR_some hp (hm.sq h1 h2) (g := g) (by rw [hl]; exact hg), hl]
  congr 1
  exact tab_congr fun i j hi hj => (hu i j hi hj).symm
theorem sys_mul {k m : Nat} (h1 : 1 ≤ k) (h2 : 1 ≤ m) (h3 : k + m ≤ 20) : mulM (some (wb, p)) (tab (k + m) k (pwT (some (wb, p)))) (tab k k (vinv hp k)) = some (tab (k + m) k (sysT hp k)) := by
  have hb : hp.fld.Bd fun i j => hp.fld.pow i j := fun i j => hp.fld.pow_lt _ _
  have e : tab (k + m) k (pwT (some (wb, p))) = tab (k + m) k fun i j => hp.fld.pow i j := tab_congr fun i j hi _ => pwT_pow hp (by omega)
  rw [e, mulM_tab hp (mx_tab hp hb) (mx_tab hp (vinv_ok hp (show k ≤ 256 by omega)).2.bd') ⟨by omega, by omega⟩ ⟨h1, by omega⟩ ⟨h1, by omega⟩]
  congr 1
  exact tab_congr fun i j hi hj => xsum_congr fun l hl => by rw [en_tab hi hl, en_tab hl hj]
end

/-! ### rows chosen -/
/-- What is chosen so far; which ones that are, bit by bit; where. -/
def stC (rows step : Nat) (s : List Nat × Nat × Nat) : List Nat × Nat × Nat :=
  let o := if s.2.1.testBit s.2.2 then s.1 else s.1 ++ [s.2.2]
  let b := if s.2.1.testBit s.2.2 then s.2.1 else s.2.1 ||| 1 <<< s.2.2
  let a := (s.2.2 + step) % rows
  (o, b, if b.testBit a then (a + 1) % rows else a)
def chS (rows step at0 : Nat) : Nat → List Nat × Nat × Nat
  | 0 => ([], 0, at0)
  | i + 1 => stC rows step (chS rows step at0 i)
def chI (rows step : Nat) : Nat → List Nat × Nat × Nat → List Nat × Nat × Nat
  | 0, s => s
  | i + 1, s => chI rows step i (stC rows step s)
theorem chI_st (rows step : Nat) : ∀ i s, chI rows step (i + 1) s = stC rows step (chI rows step i s)
  | 0, _ => rfl
  | i + 1, s => by rw [chI, chI_st rows step i, chI]
theorem chS_I (rows step at0 : Nat) : ∀ i, chS rows step at0 i = chI rows step i ([], 0, at0)
  | 0 => rfl
  | i + 1 => by rw [chS, chS_I rows step at0 i, ← chI_st]
/-- How many are chosen. -/
def chN (rows step : Nat) : Nat → Nat → Nat → Nat → Nat
  | 0, n, _, _ => n
  | i + 1, n, b, t =>
    bif Nat.beq ((b >>> t) % 2) 1 then
      (bif Nat.beq ((b >>> ((t + step) % rows)) % 2) 1 then chN rows step i n b (((t + step) % rows + 1) % rows) else chN rows step i n b ((t + step) % rows))
    else
      (bif Nat.beq (((b ||| 1 <<< t) >>> ((t + step) % rows)) % 2) 1 then chN rows step i (n + 1) (b ||| 1 <<< t) (((t + step) % rows + 1) % rows) else chN rows step i (n + 1) (b ||| 1 <<< t) ((t + step) % rows))
theorem beq_bit (b t : Nat) : Nat.beq ((b >>> t) % 2) 1 = b.testBit t := by
  rw [Nat.testBit_eq_decide_div_mod_eq, Nat.shiftRight_eq_div_pow]
  rw [Bool.eq_iff_iff, decide_eq_true_iff, Nat.beq_eq]
theorem chN_I (rows step : Nat) : ∀ i s, chN rows step i s.1.length s.2.1 s.2.2 = (chI rows step i s).1.length
  | 0, _ => rfl
  | i + 1, s => by
    rw [chI, ← chN_I rows step i, chN, beq_bit, beq_bit, beq_bit]
    unfold stC
    cases h : s.2.1.testBit s.2.2 with
    | true =>
      simp only [cond_true, if_true]
      cases h2 : s.2.1.testBit ((s.2.2 + step) % rows) <;> simp only [cond_true, cond_false, if_true, if_false, Bool.false_eq_true]
    | false =>
      simp only [cond_false, Bool.false_eq_true, if_false, List.length_append, List.length_singleton]
      cases h2 : (s.2.1 ||| 1 <<< s.2.2).testBit ((s.2.2 + step) % rows) <;> simp only [cond_true, cond_false, if_true, if_false, Bool.false_eq_true]
def chOk : Bool := (List.range 21).all fun rows => (List.range rows).all fun t => (List.range rows).all fun step => Nat.ble (rows - 1) (chN rows step (2 * rows) 0 0 t)
theorem chOk_t : chOk = true := by decide +kernel
/-- As many as are asked for are chosen. -/
theorem chS_many {rows step t : Nat} (h : rows ≤ 20) (ht : t < rows) : rows - 1 ≤ (chS rows (step % rows) t (2 * rows)).1.length := by
  have h1 := chOk_t
  unfold chOk at h1
  rw [List.all_eq_true] at h1
  have h2 := h1 rows (List.mem_range.2 (by omega))
  rw [List.all_eq_true] at h2
  have h3 := h2 t (List.mem_range.2 ht)
  rw [List.all_eq_true] at h3
  have h4 := h3 (step % rows) (List.mem_range.2 (Nat.mod_lt _ (by omega)))
  rw [chS_I, ← chN_I]
  exact Nat.le_of_ble_eq_true h4
theorem chS_at {rows step t : Nat} (h : 0 < rows) (ht : t < rows) : ∀ i, (chS rows step t i).2.2 < rows
  | 0 => ht
  | i + 1 => by
    show (stC _ _ _).2.2 < rows
    unfold stC
    dsimp only
    split <;> (try split) <;> exact Nat.mod_lt _ h
/-- What is known of the rows that are chosen. -/
theorem chS_ok {rows step t : Nat} (h : 0 < rows) (ht : t < rows) : ∀ i, (chS rows step t i).1.Nodup ∧ ∀ x, (x ∈ (chS rows step t i).1 ↔ (chS rows step t i).2.1.testBit x = true) ∧ (x ∈ (chS rows step t i).1 → x < rows)
  | 0 => ⟨List.nodup_nil, fun x => by simp [chS]⟩
  | i + 1 => by
    obtain ⟨h1, h2⟩ := chS_ok (step := step) h ht i
    have h3 := chS_at (step := step) h ht i
    show (stC _ _ _).1.Nodup ∧ ∀ x, (x ∈ (stC _ _ _).1 ↔ (stC _ _ _).2.1.testBit x = true) ∧ (x ∈ (stC _ _ _).1 → x < rows)
    generalize chS rows step t i = s at *
    unfold stC
    dsimp only
    cases hb : s.2.1.testBit s.2.2 with
    | true => simp only [if_true]; exact ⟨h1, h2⟩
    | false =>
      simp only [Bool.false_eq_true, if_false]
      have hni : s.2.2 ∉ s.1 := fun hm => by rw [(h2 _).1.1 hm] at hb; cases hb
      refine ⟨List.pairwise_append.2 ⟨h1, List.pairwise_singleton _ _, fun a ha b hb' => ?_⟩, fun x => ⟨?_, fun hx => ?_⟩⟩
      · obtain rfl : b = s.2.2 := by simpa using hb'
        exact fun e => hni (e ▸ ha)
      · rw [List.mem_append, Nat.testBit_or, Bool.or_eq_true, (h2 x).1, Nat.one_shiftLeft, Nat.testBit_two_pow]
        simp only [List.mem_singleton, decide_eq_true_iff]
        exact ⟨fun h => h.imp id Eq.symm, fun h => h.imp id Eq.symm⟩
      · rcases List.mem_append.1 hx with hx | hx
        · exact (h2 x).2 hx
        · obtain rfl : x = s.2.2 := by simpa using hx
          exact h3
def bls (b : Nat) : List Value := (List.range 20).map fun x => .bool (b.testBit x)
@[simp] theorem bls_length (b : Nat) : (bls b).length = 20 := by simp [bls]
theorem bls_zero : List.replicate 20 (Value.bool false) = bls 0 := by simp [bls]; rfl
theorem bls_at {b x : Nat} (h : x < 20) : (bls b)[x]? = some (.bool (b.testBit x)) := by simp [bls, h]
theorem bls_set {b x : Nat} (h : x < 20) : (bls b).set x (.bool true) = bls (b ||| 1 <<< x) := by
  apply List.ext_getElem?
  intro l
  by_cases hl : l < 20
  · rw [bls_at hl, List.getElem?_set]
    by_cases e : x = l
    · subst e
      rw [if_pos rfl, if_pos (by simpa using h), Nat.testBit_or, Nat.one_shiftLeft, Nat.testBit_two_pow]
      simp
    · rw [if_neg e, bls_at hl, Nat.testBit_or, Nat.one_shiftLeft, Nat.testBit_two_pow]
      simp [e]
  · rw [List.getElem?_eq_none (by simp; omega), List.getElem?_eq_none (by simp; omega)]
theorem Fo.ptr {D : FD} {B : Nat} {w : World} {v : Value} {o : Fq} (h : Fo D B w v o) : ∃ a, v = .pointer a ∧ a.isSome = o.isSome := by
  cases o with
  | none => exact ⟨none, h, rfl⟩
  | some q => obtain ⟨-, k, rfl, -⟩ := h; exact ⟨_, rfl, rfl⟩
theorem rawM_no {o : Fq} {k m : Int} (h : rawB o k m = false) : rawM o k m = none := by unfold rawM; rw [h]; rfl
theorem isalM_no {o : Fq} {k m : Int} (h : fitB o k m = false) : isalM o k m = none := by unfold isalM; rw [h]; rfl
theorem fitB_iff {o : Fq} {k m : Int} : fitB o k m = true ↔ o.isSome = true ∧ 1 ≤ k ∧ 1 ≤ m ∧ k < 20 ∧ m < 20 ∧ k + m ≤ 20 := by unfold fitB; rw [Bool.and_eq_true, decide_eq_true_iff]
theorem fitB_none (k m : Int) : fitB none k m = false := rfl
theorem pwT_nn {o : Fq} (h : ∀ wb p, o = some (wb, p) → Prm wb p) (x n : Int) : ((gpow o x n).toNat : Int) = gpow o x n := by
  cases o with
  | none => unfold gpow; split <;> simp [fpow]
  | some q => obtain ⟨wb, p⟩ := q; have := gpow_nn (h wb p rfl) x n; omega
theorem Fo.prms {D : FD} {B : Nat} {w : World} {v : Value} {o : Fq} (h : Fo D B w v o) : ∀ wb p, o = some (wb, p) → Prm wb p := fun wb p e => by subst e; exact h.1
end Go.Gam

/- The walks of package vander. -/
set_option linter.unusedVariables false
set_option linter.unusedSimpArgs false
namespace Go.Proofs.YtcnlooajjnghaaaGreat
open Go Go.Gam


namespace FxFVan
theorem en8 : Ent Tryz.prog 8 := ent Tryz.func8 (by kernel_rfl) (by kernel_rfl)
theorem en18 : Ent Tryz.prog 18 := ent Tryz.func18 (by kernel_rfl) (by kernel_rfl)
theorem en41 : Ent Tryz.prog 41 := ent Tryz.func41 (by kernel_rfl) (by kernel_rfl)
theorem en43 : Ent Tryz.prog 43 := ent Tryz.func43 (by kernel_rfl) (by kernel_rfl)
theorem en45 : Ent Tryz.prog 45 := ent Tryz.func45 (by kernel_rfl) (by kernel_rfl)
theorem en46 : Ent Tryz.prog 46 := ent Tryz.func46 (by kernel_rfl) (by kernel_rfl)
theorem hmix : Tryz.prog.follows .mixedOrders = true := by kernel_rfl
theorem sc26 : Scalar Tryz.prog 26 := ⟨_, Tryz.underlying26, by simp, by simp⟩
theorem sl23 : Sl Tryz.prog 23 3 (.int .i64 0) 8 := sl_of Tryz.underlying23 rfl (by kernel_rfl)
theorem sl30 : Sl Tryz.prog 30 23 (.slice none 0 0) 24 := sl_of Tryz.underlying30 rfl (by kernel_rfl)
end FxFVan
open FxFVan

theorem Inverse_n (B M wb p : Nat) (hp : Prm wb p) (fv : Value) (pmt : Option Addr) (cmt n : Nat) (mt : Mtx) (w : World) (hI : Inv FDx B w) (hM : M ≤ w.heap.size) (hf : Fo FDx B w fv (some (wb, p))) (hA : Mat FDx B M w pmt cmt mt) (hl : mt.length ≤ maxLen) (hb : ∀ r ∈ mt, r.length ≤ maxLen) (hn : mt.length = n) :
    Ret Tryz.prog 8 [fv, .slice pmt n cmt] w fun v w' => ∃ ob u, v = .tuple #[u, .int .i64 (invR hp mt).1] ∧ MOwn FDx B w.heap.size 0 w'.heap.size w' 23 u ob (invR hp mt).2 ∧ St FDx B w w' := by
  subst hn; exact Inverse_ok B M wb p hp fv pmt cmt mt w hI hM hf hA hl hb

set_option maxRecDepth 100000 in
set_option maxHeartbeats 1000000 in
theorem fits_ok (B : Nat) (o : Fq) (fv : Value) (k m : Int) (w : World) (hf : Fo FDx B w fv o) : Ret Tryz.prog 45 [fv, .int .i64 k, .int .i64 m] w fun v w' => v = .bool (fitB o k m) ∧ w' = w := by
  refine enter 31 [(0, fv), (1, .int .i64 k), (2, .int .i64 m)] 6 Tryz.func45 rfl rfl rfl rfl rfl ?_; intro a hF
  obtain ⟨pa_, rfl, hpa⟩ := hf.ptr
  refine W_sr rfl (fun K hK => ?_)
  refine sv hF (v_assign rfl) rfl ?_; clear hF a; intro a hF
  refine WL_nil (hK _ _ ?_)
  clear hK K
  refine W_sr rfl (fun K hK => ?_)
  refine sv hF (v_move rfl) rfl ?_; clear hF a; intro a hF
  refine sb hF (v_neqNil (by exact Tryz.underlying26) rfl rfl) rfl ?_ ?_
  · clear hF a; intro hc1 a hF
    try simp only [decide_eq_true_eq, decide_eq_false_iff_not, Bool.not_eq_true', Bool.not_eq_false', Bool.not_true, Bool.not_false] at hc1
    refine sv hF (v_move rfl) rfl ?_; clear hF a; intro a hF
    refine svg hF rfl ?_
    refine sv hF (v_move rfl) rfl ?_; clear hF a; intro a hF
    refine svg hF rfl ?_
    refine sb hF (v_geq rfl rfl) rfl ?_ ?_
    · clear hF a; intro hc2 a hF
      try simp only [decide_eq_true_eq, decide_eq_false_iff_not, Bool.not_eq_true', Bool.not_eq_false', Bool.not_true, Bool.not_false] at hc2
      refine sv hF (v_pickT rfl rfl) rfl ?_; clear hF a; intro a hF
      refine sv hF (v_move rfl) rfl ?_; clear hF a; intro a hF
      refine svg hF rfl ?_
      refine sv hF (v_move rfl) rfl ?_; clear hF a; intro a hF
      refine svg hF rfl ?_
      refine sb hF (v_geq rfl rfl) rfl ?_ ?_
      · clear hF a; intro hc3 a hF
        try simp only [decide_eq_true_eq, decide_eq_false_iff_not, Bool.not_eq_true', Bool.not_eq_false', Bool.not_true, Bool.not_false] at hc3
        refine sv hF (v_pickT rfl rfl) rfl ?_; clear hF a; intro a hF
        refine sv hF (v_move rfl) rfl ?_; clear hF a; intro a hF
        refine svg hF rfl ?_
        refine sv hF (v_move rfl) rfl ?_; clear hF a; intro a hF
        refine svg hF rfl ?_
        refine sb hF (v_lss rfl rfl) rfl ?_ ?_
        · clear hF a; intro hc4 a hF
          try simp only [decide_eq_true_eq, decide_eq_false_iff_not, Bool.not_eq_true', Bool.not_eq_false', Bool.not_true, Bool.not_false] at hc4
          refine sv hF (v_pickT rfl rfl) rfl ?_; clear hF a; intro a hF
          refine sv hF (v_move rfl) rfl ?_; clear hF a; intro a hF
          refine svg hF rfl ?_
          refine sv hF (v_move rfl) rfl ?_; clear hF a; intro a hF
          refine svg hF rfl ?_
          refine sb hF (v_lss rfl rfl) rfl ?_ ?_
          · clear hF a; intro hc5 a hF
            try simp only [decide_eq_true_eq, decide_eq_false_iff_not, Bool.not_eq_true', Bool.not_eq_false', Bool.not_true, Bool.not_false] at hc5
            refine sv hF (v_pickT rfl rfl) rfl ?_; clear hF a; intro a hF
            refine sv hF (v_move rfl) rfl ?_; clear hF a; intro a hF
            refine svg hF rfl ?_
            refine sv hF (v_move rfl) rfl ?_; clear hF a; intro a hF
            refine svg hF rfl ?_
            refine sv hF (v_move rfl) rfl ?_; clear hF a; intro a hF
            refine svg hF rfl ?_
            refine sv hF (v_addI rfl rfl (by omega)) rfl ?_; clear hF a; intro a hF
            refine svg hF rfl ?_
            refine sv hF (v_leq rfl rfl) rfl ?_; clear hF a; intro a hF
            refine sv hF (v_pickT rfl rfl) rfl ?_; clear hF a; intro a hF
            refine sv hF (v_assign rfl) rfl ?_; clear hF a; intro a hF
            refine WL_nil (hK _ _ ?_)
            clear hK K
            replace hF := hF.sub _ (c_ 6 rfl (n_))
            refine W_ret ?_
            refine ⟨_, _, hF, rfl, ?_⟩
            refine ⟨congrArg Value.bool ?_, rfl⟩
            unfold fitB
            rw [← hpa]
            cases pa_ <;> first | (exfalso; simp_all; done) | (simp only [Option.isSome_some, Option.isSome_none, Bool.true_and, Bool.false_and]; done) | (simp only [Option.isSome_some, Bool.true_and]; first | (symm; rw [decide_eq_false_iff_not]; omega) | (rw [decide_eq_decide]; omega))
          · clear hF a; intro hc5 a hF
            try simp only [decide_eq_true_eq, decide_eq_false_iff_not, Bool.not_eq_true', Bool.not_eq_false', Bool.not_true, Bool.not_false] at hc5
            refine sv hF (v_pickT rfl rfl) rfl ?_; clear hF a; intro a hF
            refine sv hF (v_move rfl) rfl ?_; clear hF a; intro a hF
            refine svn hF rfl rfl rfl ?_; clear hF a; intro a hF
            refine svn hF rfl rfl rfl ?_; clear hF a; intro a hF
            refine svn hF rfl rfl rfl ?_; clear hF a; intro a hF
            refine svn hF rfl rfl rfl ?_; clear hF a; intro a hF
            refine sv hF (v_pickF rfl rfl) rfl ?_; clear hF a; intro a hF
            refine sv hF (v_assign rfl) rfl ?_; clear hF a; intro a hF
            refine WL_nil (hK _ _ ?_)
            clear hK K
            replace hF := hF.sub _ (c_ 6 rfl (n_))
            refine W_ret ?_
            refine ⟨_, _, hF, rfl, ?_⟩
            refine ⟨congrArg Value.bool ?_, rfl⟩
            unfold fitB
            rw [← hpa]
            cases pa_ <;> first | (exfalso; simp_all; done) | (simp only [Option.isSome_some, Option.isSome_none, Bool.true_and, Bool.false_and]; done) | (simp only [Option.isSome_some, Bool.true_and]; first | (symm; rw [decide_eq_false_iff_not]; omega) | (rw [decide_eq_decide]; omega))
        · clear hF a; intro hc4 a hF
          try simp only [decide_eq_true_eq, decide_eq_false_iff_not, Bool.not_eq_true', Bool.not_eq_false', Bool.not_true, Bool.not_false] at hc4
          refine sv hF (v_pickT rfl rfl) rfl ?_; clear hF a; intro a hF
          refine sv hF (v_move rfl) rfl ?_; clear hF a; intro a hF
          refine svn hF rfl rfl rfl ?_; clear hF a; intro a hF
          refine svn hF rfl rfl rfl ?_; clear hF a; intro a hF
          refine sv hF (v_pickF rfl rfl) rfl ?_; clear hF a; intro a hF
          refine sv hF (v_move rfl) rfl ?_; clear hF a; intro a hF
          refine svn hF rfl rfl rfl ?_; clear hF a; intro a hF
          refine svn hF rfl rfl rfl ?_; clear hF a; intro a hF
          refine svn hF rfl rfl rfl ?_; clear hF a; intro a hF
          refine svn hF rfl rfl rfl ?_; clear hF a; intro a hF
          refine sv hF (v_pickF rfl rfl) rfl ?_; clear hF a; intro a hF
          refine sv hF (v_assign rfl) rfl ?_; clear hF a; intro a hF
          refine WL_nil (hK _ _ ?_)
          clear hK K
          replace hF := hF.sub _ (c_ 6 rfl (n_))
          refine W_ret ?_
          refine ⟨_, _, hF, rfl, ?_⟩
          refine ⟨congrArg Value.bool ?_, rfl⟩
          unfold fitB
          rw [← hpa]
          cases pa_ <;> first | (exfalso; simp_all; done) | (simp only [Option.isSome_some, Option.isSome_none, Bool.true_and, Bool.false_and]; done) | (simp only [Option.isSome_some, Bool.true_and]; first | (symm; rw [decide_eq_false_iff_not]; omega) | (rw [decide_eq_decide]; omega))
      · clear hF a; intro hc3 a hF
        try simp only [decide_eq_true_eq, decide_eq_false_iff_not, Bool.not_eq_true', Bool.not_eq_false', Bool.not_true, Bool.not_false] at hc3
        refine sv hF (v_pickT rfl rfl) rfl ?_; clear hF a; intro a hF
        refine sv hF (v_move rfl) rfl ?_; clear hF a; intro a hF
        refine svn hF rfl rfl rfl ?_; clear hF a; intro a hF
        refine svn hF rfl rfl rfl ?_; clear hF a; intro a hF
        refine sv hF (v_pickF rfl rfl) rfl ?_; clear hF a; intro a hF
        refine sv hF (v_move rfl) rfl ?_; clear hF a; intro a hF
        refine svn hF rfl rfl rfl ?_; clear hF a; intro a hF
        refine svn hF rfl rfl rfl ?_; clear hF a; intro a hF
        refine sv hF (v_pickF rfl rfl) rfl ?_; clear hF a; intro a hF
        refine sv hF (v_move rfl) rfl ?_; clear hF a; intro a hF
        refine svn hF rfl rfl rfl ?_; clear hF a; intro a hF
        refine svn hF rfl rfl rfl ?_; clear hF a; intro a hF
        refine svn hF rfl rfl rfl ?_; clear hF a; intro a hF
        refine svn hF rfl rfl rfl ?_; clear hF a; intro a hF
        refine sv hF (v_pickF rfl rfl) rfl ?_; clear hF a; intro a hF
        refine sv hF (v_assign rfl) rfl ?_; clear hF a; intro a hF
        refine WL_nil (hK _ _ ?_)
        clear hK K
        replace hF := hF.sub _ (c_ 6 rfl (n_))
        refine W_ret ?_
        refine ⟨_, _, hF, rfl, ?_⟩
        refine ⟨congrArg Value.bool ?_, rfl⟩
        unfold fitB
        rw [← hpa]
        cases pa_ <;> first | (exfalso; simp_all; done) | (simp only [Option.isSome_some, Option.isSome_none, Bool.true_and, Bool.false_and]; done) | (simp only [Option.isSome_some, Bool.true_and]; first | (symm; rw [decide_eq_false_iff_not]; omega) | (rw [decide_eq_decide]; omega))
    · clear hF a; intro hc2 a hF
      try simp only [decide_eq_true_eq, decide_eq_false_iff_not, Bool.not_eq_true', Bool.not_eq_false', Bool.not_true, Bool.not_false] at hc2
      refine sv hF (v_pickT rfl rfl) rfl ?_; clear hF a; intro a hF
      refine sv hF (v_move rfl) rfl ?_; clear hF a; intro a hF
      refine svn hF rfl rfl rfl ?_; clear hF a; intro a hF
      refine svn hF rfl rfl rfl ?_; clear hF a; intro a hF
      refine sv hF (v_pickF rfl rfl) rfl ?_; clear hF a; intro a hF
      refine sv hF (v_move rfl) rfl ?_; clear hF a; intro a hF
      refine svn hF rfl rfl rfl ?_; clear hF a; intro a hF
      refine svn hF rfl rfl rfl ?_; clear hF a; intro a hF
      refine sv hF (v_pickF rfl rfl) rfl ?_; clear hF a; intro a hF
      refine sv hF (v_move rfl) rfl ?_; clear hF a; intro a hF
      refine svn hF rfl rfl rfl ?_; clear hF a; intro a hF
      refine svn hF rfl rfl rfl ?_; clear hF a; intro a hF
      refine sv hF (v_pickF rfl rfl) rfl ?_; clear hF a; intro a hF
      refine sv hF (v_move rfl) rfl ?_; clear hF a; intro a hF
      refine svn hF rfl rfl rfl ?_; clear hF a; intro a hF
      refine svn hF rfl rfl rfl ?_; clear hF a; intro a hF
      refine svn hF rfl rfl rfl ?_; clear hF a; intro a hF
      refine svn hF rfl rfl rfl ?_; clear hF a; intro a hF
      refine sv hF (v_pickF rfl rfl) rfl ?_; clear hF a; intro a hF
      refine sv hF (v_assign rfl) rfl ?_; clear hF a; intro a hF
      refine WL_nil (hK _ _ ?_)
      clear hK K
      replace hF := hF.sub _ (c_ 6 rfl (n_))
      refine W_ret ?_
      refine ⟨_, _, hF, rfl, ?_⟩
      refine ⟨congrArg Value.bool ?_, rfl⟩
      unfold fitB
      rw [← hpa]
      cases pa_ <;> first | (exfalso; simp_all; done) | (simp only [Option.isSome_some, Option.isSome_none, Bool.true_and, Bool.false_and]; done) | (simp only [Option.isSome_some, Bool.true_and]; first | (symm; rw [decide_eq_false_iff_not]; omega) | (rw [decide_eq_decide]; omega))
  · clear hF a; intro hc1 a hF
    try simp only [decide_eq_true_eq, decide_eq_false_iff_not, Bool.not_eq_true', Bool.not_eq_false', Bool.not_true, Bool.not_false] at hc1
    refine sv hF (v_move rfl) rfl ?_; clear hF a; intro a hF
    refine svn hF rfl rfl rfl ?_; clear hF a; intro a hF
    refine svn hF rfl rfl rfl ?_; clear hF a; intro a hF
    refine sv hF (v_pickF rfl rfl) rfl ?_; clear hF a; intro a hF
    refine sv hF (v_move rfl) rfl ?_; clear hF a; intro a hF
    refine svn hF rfl rfl rfl ?_; clear hF a; intro a hF
    refine svn hF rfl rfl rfl ?_; clear hF a; intro a hF
    refine sv hF (v_pickF rfl rfl) rfl ?_; clear hF a; intro a hF
    refine sv hF (v_move rfl) rfl ?_; clear hF a; intro a hF
    refine svn hF rfl rfl rfl ?_; clear hF a; intro a hF
    refine svn hF rfl rfl rfl ?_; clear hF a; intro a hF
    refine sv hF (v_pickF rfl rfl) rfl ?_; clear hF a; intro a hF
    refine sv hF (v_move rfl) rfl ?_; clear hF a; intro a hF
    refine svn hF rfl rfl rfl ?_; clear hF a; intro a hF
    refine svn hF rfl rfl rfl ?_; clear hF a; intro a hF
    refine sv hF (v_pickF rfl rfl) rfl ?_; clear hF a; intro a hF
    refine sv hF (v_move rfl) rfl ?_; clear hF a; intro a hF
    refine svn hF rfl rfl rfl ?_; clear hF a; intro a hF
    refine svn hF rfl rfl rfl ?_; clear hF a; intro a hF
    refine svn hF rfl rfl rfl ?_; clear hF a; intro a hF
    refine svn hF rfl rfl rfl ?_; clear hF a; intro a hF
    refine sv hF (v_pickF rfl rfl) rfl ?_; clear hF a; intro a hF
    refine sv hF (v_assign rfl) rfl ?_; clear hF a; intro a hF
    refine WL_nil (hK _ _ ?_)
    clear hK K
    replace hF := hF.sub _ (c_ 6 rfl (n_))
    refine W_ret ?_
    refine ⟨_, _, hF, rfl, ?_⟩
    refine ⟨congrArg Value.bool ?_, rfl⟩
    unfold fitB
    rw [← hpa]
    cases pa_ <;> first | (exfalso; simp_all; done) | (simp only [Option.isSome_some, Option.isSome_none, Bool.true_and, Bool.false_and]; done) | (simp only [Option.isSome_some, Bool.true_and]; first | (symm; rw [decide_eq_false_iff_not]; omega) | (rw [decide_eq_decide]; omega))

set_option maxRecDepth 100000 in
set_option maxHeartbeats 1000000 in
theorem made_ok (B n m : Nat) (g : FuncId) (lb : List Value) (f : Tb) (w : World) (hI : Inv FDx B w) (hn : n ≤ 100 ∧ m ≤ 100) (eg : Ent Tryz.prog g) (hc : ∀ i j, i < n → j < m → ∀ w1, St FDx B w w1 → Ret Tryz.prog g (.int .i64 (i : Int) :: .int .i64 (j : Int) :: lb) w1 fun v w' => v = .int .i64 (f i j : Int) ∧ St FDx B w1 w') : Ret Tryz.prog 41 [.int .i64 (n : Int), .int .i64 (m : Int), .func (.func g) ([] : List Value).toArray (lb : List Value).toArray] w fun v w' => ∃ ob, MOwn FDx B w.heap.size 0 w'.heap.size w' 23 v ob (tab n m f) ∧ St FDx B w w' := by
  refine enter 33 [(0, .int .i64 (n : Int)), (1, .int .i64 (m : Int)), (2, .func (.func g) ([] : List Value).toArray (lb : List Value).toArray)] 6 Tryz.func41 rfl rfl rfl rfl rfl ?_; intro a hF
  have hS := St.refl hI
  refine W_sr rfl (fun K hK => ?_)
  refine sv hF (v_assign rfl) rfl ?_; clear hF a; intro a hF
  refine WL_nil (hK _ _ ?_)
  clear hK K
  refine W_sr rfl (fun K hK => ?_)
  refine sv hF (v_assign rfl) rfl ?_; clear hF a; intro a hF
  refine WL_nil (hK _ _ ?_)
  clear hK K
  refine W_seq ?_
  refine W_sr rfl (fun K hK => ?_)
  refine sv hF (v_move rfl) rfl ?_; clear hF a; intro a hF
  refine sv hF (v_move rfl) rfl ?_; clear hF a; intro a hF
  refine WL_nil (hK _ _ ?_)
  clear hK K
  replace hF := hF.sub _ (c_ 12 rfl (c_ 11 rfl (c_ 7 rfl (c_ 6 rfl (c_ 1 rfl (c_ 2 rfl (n_)))))))
  refine W_block ?_
  refine W_loop (fun q a w1 => ∃ (i : Nat) (v7 : Value) (b7 : Option Nat), Fr 33 [(1, .int .i64 (m : Int)), (2, .func (.func g) ([] : List Value).toArray (lb : List Value).toArray), (7, v7), (11, .int .i64 (n : Int)), (12, .int .i64 (i : Int))] a ∧ (St FDx B w w1) ∧ (MOwn FDx B w.heap.size 0 w1.heap.size w1 23 v7 b7 ((List.range i).map (trow m f))) ∧ (i ≤ n) ∧ (q + i = n)) (n) ?_ ?_
  · skip
    exact ⟨0, _, none, hF.sub _ (c_ 1 rfl (c_ 2 rfl (c_ 7 rfl (c_ 11 rfl (c_ 12 rfl (n_)))))), hS, MOwn.nil _ _ _ _ _ _ _ (Nat.zero_le _), by omega, by omega⟩
  · skip
    clear hF
    clear hS
    rintro q a w1 ⟨i, v7, b7, hF, hS, hMO, hi, hq⟩
    obtain ⟨KM, hKe⟩ : ∃ KM, KM = w1.heap.size := ⟨_, rfl⟩
    rw [← hKe] at hMO
    have hKs : KM ≤ w1.heap.size := by omega
    have hNK : w.heap.size ≤ KM := by have := hS.ext.size; omega
    clear hKe
    refine W_sr rfl (fun K hK => ?_)
    refine sv hF (v_lss rfl rfl) rfl ?_; clear hF a; intro a hF
    refine WL_nil (hK _ _ ?_)
    clear hK K
    refine W_seq ?_
    refine W_if hF rfl (fun hc1 => ?_) (fun hc1 => ?_)
    · skip
      try simp only [decide_eq_true_eq, decide_eq_false_iff_not, Bool.not_eq_true', Bool.not_eq_false', Bool.not_true, Bool.not_false] at hc1
      have hlt : i < n := by omega
      refine W_skip ?_
      refine W_seq ?_
      refine W_block ?_
      refine W_sr rfl (fun K hK => ?_)
      refine sv hF (v_move rfl) rfl ?_; clear hF a; intro a hF
      refine sv hF (v_assign rfl) rfl ?_; clear hF a; intro a hF
      refine WL_nil (hK _ _ ?_)
      clear hK K
      replace hF := hF.sub _ (c_ 8 rfl (c_ 1 rfl (c_ 2 rfl (c_ 7 rfl (c_ 11 rfl (c_ 12 rfl (n_)))))))
      refine W_sr rfl (fun K hK => ?_)
      refine sv hF (v_assign rfl) rfl ?_; clear hF a; intro a hF
      refine WL_nil (hK _ _ ?_)
      clear hK K
      refine W_seq ?_
      refine W_sr rfl (fun K hK => ?_)
      refine sv hF (v_move rfl) rfl ?_; clear hF a; intro a hF
      refine sv hF (v_move rfl) rfl ?_; clear hF a; intro a hF
      refine WL_nil (hK _ _ ?_)
      clear hK K
      refine W_block ?_
      refine W_loop (fun q2 a w2 => ∃ (j : Nat) (v9 : Value) (b9 : Option Nat), Fr 33 [(1, .int .i64 (m : Int)), (2, .func (.func g) ([] : List Value).toArray (lb : List Value).toArray), (7, v7), (8, .int .i64 (i : Int)), (9, v9), (11, .int .i64 (n : Int)), (12, .int .i64 (i : Int)), (15, .int .i64 (m : Int)), (16, .int .i64 (j : Int))] a ∧ (St FDx B w w2) ∧ (MOwn FDx B w.heap.size 0 KM w2 23 v7 b7 ((List.range i).map (trow m f))) ∧ (KM ≤ w2.heap.size) ∧ (Gam.Own FDx B KM w2 FDx.E v9 b9 (zints ((List.range j).map fun j => (f i j : Int)))) ∧ (j ≤ m) ∧ (q2 + j = m)) (m) ?_ ?_
      · skip
        exact ⟨0, _, none, hF.sub _ (c_ 1 rfl (c_ 2 rfl (c_ 7 rfl (c_ 8 rfl (c_ 9 rfl (c_ 11 rfl (c_ 12 rfl (c_ 15 rfl (c_ 16 rfl (n_)))))))))), hS, hMO, hKs, Gam.Own.nil _ _ _ _ _, by omega, by omega⟩
      · skip
        clear hF
        clear hS hMO hKs
        rintro q2 a w2 ⟨j, v9, b9, hF, hS, hMO, hKs, hO, hj, hq2⟩
        refine W_sr rfl (fun K hK => ?_)
        refine sv hF (v_lss rfl rfl) rfl ?_; clear hF a; intro a hF
        refine WL_nil (hK _ _ ?_)
        clear hK K
        refine W_seq ?_
        refine W_if hF rfl (fun hc2 => ?_) (fun hc2 => ?_)
        · skip
          try simp only [decide_eq_true_eq, decide_eq_false_iff_not, Bool.not_eq_true', Bool.not_eq_false', Bool.not_true, Bool.not_false] at hc2
          have hlt2 : j < m := by omega
          refine W_skip ?_
          refine W_seq ?_
          refine W_block ?_
          refine W_sr rfl (fun K hK => ?_)
          refine sv hF (v_move rfl) rfl ?_; clear hF a; intro a hF
          refine sv hF (v_assign rfl) rfl ?_; clear hF a; intro a hF
          refine WL_nil (hK _ _ ?_)
          clear hK K
          replace hF := hF.sub _ (c_ 10 rfl (c_ 1 rfl (c_ 2 rfl (c_ 7 rfl (c_ 8 rfl (c_ 9 rfl (c_ 11 rfl (c_ 12 rfl (c_ 15 rfl (c_ 16 rfl (n_)))))))))))
          refine W_reg rfl (fun K hK => ?_)
          refine sv hF (v_move rfl) rfl ?_; clear hF a; intro a hF
          refine sv hF (v_move rfl) rfl ?_; clear hF a; intro a hF
          refine sv hF (v_move rfl) rfl ?_; clear hF a; intro a hF
          refine sv hF (v_move rfl) rfl ?_; clear hF a; intro a hF
          refine sc hF rfl rfl rfl eg rfl (hc i j hlt hlt2 _ hS) ?_; clear hF a; intro v w' a hv hF
          obtain ⟨rfl, hS'⟩ := hv
          replace hMO := hMO.st (by decide) hS'
          replace hKs := Nat.le_trans hKs hS'.ext.size
          replace hO := hO.st (by decide) hS'
          replace hS := hS.trans hS'
          clear hS'
          refine s_bs (D := FDx) (B := B) hF sl23 rfl rfl (by decide) (by simp [Value.cells]) (by decide) hS.inv rfl ?_; clear hF a; intro w' a hm hI' hL hF
          replace hMO := hMO.mb0 hm
          replace hKs := Nat.le_trans hKs hm.size
          replace hO := hO.mb hm (fun _ _ => by simp)
          replace hS := hS.mb0 hm
          clear hm hI'
          refine s_app (D := FDx) (B := B) hF rfl sl23 rfl rfl hO (hL.row (by decide)) (by simp [Value.oneCell']) (by simp; omega) (by simp [maxLen]; omega) (hKs) (by decide) hS.inv rfl ?_; clear hF a; intro v' b' w' a ho' hm hI' hb' hF
          replace hMO := hMO.mbo hm hO (by decide) (Nat.le_refl _) (Nat.zero_le _)
          replace hKs := Nat.le_trans hKs hm.size
          replace hS := hS.mb hm (fun k h => Nat.le_trans (hNK) (hO.lt k h).1)
          replace hO := ho'
          clear hm hI' ho'
          refine sv hF (v_assign rfl) rfl ?_; clear hF a; intro a hF
          refine WL_nil (hK _ _ ?_)
          clear hK K
          replace hF := hF.sub _ (c_ 9 rfl (c_ 1 rfl (c_ 2 rfl (c_ 7 rfl (c_ 8 rfl (c_ 11 rfl (c_ 12 rfl (c_ 15 rfl (c_ 16 rfl (n_))))))))))
          refine W_reg rfl (fun K hK => ?_)
          refine sv hF (v_addI rfl rfl (by omega)) rfl ?_; clear hF a; intro a hF
          refine sv hF (v_move rfl) rfl ?_; clear hF a; intro a hF
          refine WL_nil (hK _ _ ?_)
          clear hK K
          exact ⟨q2 - 1, by omega, j + 1, _, _, hF.sub _ (c_ 1 rfl (c_ 2 rfl (c_ 7 rfl (c_ 8 rfl (c_ 9 rfl (c_ 11 rfl (c_ 12 rfl (c_ 15 rfl (c_ 16 rfl (n_)))))))))), hS, hMO, hKs, hO.cast (by rw [List.range_succ, List.map_append]; simp [zints]), by omega, by omega⟩
        · skip
          try simp only [decide_eq_true_eq, decide_eq_false_iff_not, Bool.not_eq_true', Bool.not_eq_false', Bool.not_true, Bool.not_false] at hc2
          have hjm : j = m := by omega
          rw [hjm] at hO
          refine W_exit rfl ?_
          refine W_reg rfl (fun K hK => ?_)
          refine sv hF (v_move rfl) rfl ?_; clear hF a; intro a hF
          refine sv hF (v_move rfl) rfl ?_; clear hF a; intro a hF
          obtain ⟨a_, c_r, rfl⟩ := hO.shape
          refine s_bs (D := FDx) (B := B) hF sl30 rfl rfl (by decide) (by simp [Value.cells]) (by decide) hS.inv rfl ?_; clear hF a; intro w' a hm hI' hL hF
          replace hMO := hMO.mb0 hm
          replace hKs := Nat.le_trans hKs hm.size
          replace hO := hO.mb hm (fun _ _ => by simp)
          replace hS := hS.mb0 hm
          clear hm hI'
          replace hMO := hMO.up hKs
          clear hKs
          refine s_appM (D := FDx) (B := B) hF rfl sl30 rfl rfl hMO hL (.of (r := trow m f i) hO (Nat.zero_le _)) rfl rfl (by simp; omega) (hS.ext.size) (by decide) (by decide) hS.inv rfl ?_; clear hF a; intro v' b' w' a ho' hm hI' hF
          replace hS := hS.mb hm (fun k h => (hMO.lt k h).1)
          have hKm := hm.size
          replace hMO := ho'
          clear hm hI' ho' hL
          refine sv hF (v_assign rfl) rfl ?_; clear hF a; intro a hF
          refine WL_nil (hK _ _ ?_)
          clear hK K
          replace hF := hF.sub _ (c_ 7 rfl (c_ 30 rfl (c_ 29 rfl (c_ 28 rfl (c_ 27 rfl (c_ 1 rfl (c_ 2 rfl (c_ 8 rfl (c_ 9 rfl (c_ 11 rfl (c_ 12 rfl (c_ 15 rfl (c_ 16 rfl (n_))))))))))))))
          refine W_reg rfl (fun K hK => ?_)
          refine sv hF (v_addI rfl rfl (by omega)) rfl ?_; clear hF a; intro a hF
          refine sv hF (v_move rfl) rfl ?_; clear hF a; intro a hF
          refine WL_nil (hK _ _ ?_)
          clear hK K
          exact ⟨q - 1, by omega, i + 1, _, _, hF.sub _ (c_ 1 rfl (c_ 2 rfl (c_ 7 rfl (c_ 11 rfl (c_ 12 rfl (n_)))))), hS, (hMO.up hKm).cast (by rw [List.range_succ, List.map_append]; rfl), by omega, by omega⟩
    · skip
      try simp only [decide_eq_true_eq, decide_eq_false_iff_not, Bool.not_eq_true', Bool.not_eq_false', Bool.not_true, Bool.not_false] at hc1
      refine W_exit rfl ?_
      refine W_sr rfl (fun K hK => ?_)
      refine sv hF (v_move rfl) rfl ?_; clear hF a; intro a hF
      refine sv hF (v_assign rfl) rfl ?_; clear hF a; intro a hF
      refine WL_nil (hK _ _ ?_)
      clear hK K
      replace hF := hF.sub _ (c_ 6 rfl (c_ 32 rfl (c_ 1 rfl (c_ 2 rfl (c_ 7 rfl (c_ 11 rfl (c_ 12 rfl (n_))))))))
      refine W_ret ?_
      refine ⟨_, _, hF, rfl, ?_⟩
      obtain rfl : i = n := by omega
      exact ⟨_, (hMO.up hKs).cast rfl, hS⟩

set_option maxRecDepth 100000 in
set_option maxHeartbeats 1000000 in
theorem Raw1_ok (B : Nat) (o : Fq) (fv : Value) (pf i j : Nat) (w : World) (hI : Inv FDx B w) (hf : Fo FDx B w fv o) (hkf : KC FDx B w ⟨pf, 0, none⟩ fv) (hij : i ≤ 100 ∧ j ≤ 100) : Ret Tryz.prog 42 [.int .i64 (i : Int), .int .i64 (j : Int), .pointer (some ⟨pf, 0, none⟩)] w fun v w' => v = .int .i64 (pwT o i j : Int) ∧ St FDx B w w' := by
  refine enter 10 [(0, .int .i64 (i : Int)), (1, .int .i64 (j : Int)), (2, .pointer (some ⟨pf, 0, none⟩))] 5 Tryz.func42 rfl rfl rfl rfl rfl ?_; intro a hF
  have hS := St.refl hI
  refine W_sr rfl (fun K hK => ?_)
  refine sv hF (v_assign rfl) rfl ?_; clear hF a; intro a hF
  refine WL_nil (hK _ _ ?_)
  clear hK K
  refine W_sr rfl (fun K hK => ?_)
  refine sv hF (v_load sc26 rfl hkf.c) rfl ?_; clear hF a; intro a hF
  refine sv hF (v_move rfl) rfl ?_; clear hF a; intro a hF
  refine sv hF (v_move rfl) rfl ?_; clear hF a; intro a hF
  refine sc hF rfl rfl rfl en43 rfl (Pow_gf B o fv (i : Int) (j : Int) _ hS.inv hf (by omega)) ?_; clear hF a; intro v w' a hv hF
  obtain ⟨rfl, hS'⟩ := hv
  replace hS := hS.trans hS'
  clear hS'
  refine sv hF (v_assign rfl) rfl ?_; clear hF a; intro a hF
  refine WL_nil (hK _ _ ?_)
  clear hK K
  replace hF := hF.sub _ (c_ 5 rfl (n_))
  refine W_ret ?_
  refine ⟨_, _, hF, rfl, ?_⟩
  exact ⟨congrArg _ (pwT_nn hf.prms _ _).symm, hS⟩

set_option maxRecDepth 100000 in
set_option maxHeartbeats 1000000 in
theorem Isal1_ok (B : Nat) (o : Fq) (fv : Value) (pf i j : Nat) (w : World) (hI : Inv FDx B w) (hf : Fo FDx B w fv o) (hkf : KC FDx B w ⟨pf, 0, none⟩ fv) (hij : i ≤ 100 ∧ j ≤ 100) : Ret Tryz.prog 49 [.int .i64 (i : Int), .int .i64 (j : Int), .pointer (some ⟨pf, 0, none⟩)] w fun v w' => v = .int .i64 (isT o i j : Int) ∧ St FDx B w w' := by
  refine enter 12 [(0, .int .i64 (i : Int)), (1, .int .i64 (j : Int)), (2, .pointer (some ⟨pf, 0, none⟩))] 5 Tryz.func49 rfl rfl rfl rfl rfl ?_; intro a hF
  have hS := St.refl hI
  refine W_sr rfl (fun K hK => ?_)
  refine sv hF (v_assign rfl) rfl ?_; clear hF a; intro a hF
  refine WL_nil (hK _ _ ?_)
  clear hK K
  refine W_sd (m := 7) rfl hmix hS.inv (fun K hK w1 hS' hh => ?_)
  replace hf := hf.st hS'
  replace hkf := hkf.st hS'
  replace hS := hS.trans hS'
  clear hS'
  clear hh
  refine a_v (i := 0) rfl (by kernel_rfl) hF (fun w2 hx => v_load sc26 rfl (hkf.ld hx)) rfl ?_; clear hF a; intro a hF
  refine a_v (i := 1) rfl (by kernel_rfl) hF (fun w2 hx => v_load sc26 rfl (hkf.ld hx)) rfl ?_; clear hF a; intro a hF
  refine a_v (i := 2) rfl (by kernel_rfl) hF (fun w2 hx => v_move rfl) rfl ?_; clear hF a; intro a hF
  refine a_v (i := 4) rfl (by kernel_rfl) hF (fun w2 hx => v_move rfl) rfl ?_; clear hF a; intro a hF
  refine a_e (i := 3) rfl (by kernel_rfl) ?_
  refine sc hF rfl rfl rfl en43 rfl (Pow_gf B o fv 2 (i : Int) _ hS.inv hf (by omega)) ?_; clear hF a; intro v w' a hv hF
  obtain ⟨rfl, hS'⟩ := hv
  refine WL_nil ⟨hS'.ext, ?_⟩
  replace hf := hf.st hS'
  replace hkf := hkf.st hS'
  replace hS := hS.trans hS'
  clear hS'
  refine a_e (i := 5) rfl (by kernel_rfl) ?_
  refine sc hF rfl rfl rfl en43 rfl (Pow_gf B o fv (gpow o 2 (i : Int)) (j : Int) _ hS.inv hf (by omega)) ?_; clear hF a; intro v w' a hv hF
  obtain ⟨rfl, hS'⟩ := hv
  refine WL_nil ⟨hS'.ext, ?_⟩
  replace hf := hf.st hS'
  replace hkf := hkf.st hS'
  replace hS := hS.trans hS'
  clear hS'
  refine a_v (i := 6) rfl (by kernel_rfl) hF (fun w2 hx => v_assign rfl) rfl ?_; clear hF a; intro a hF
  refine a_done (by kernel_rfl) (hK _ _ ?_)
  clear hK K
  replace hF := hF.sub _ (c_ 5 rfl (n_))
  refine W_ret ?_
  refine ⟨_, _, hF, rfl, ?_⟩
  exact ⟨congrArg _ (pwT_nn hf.prms _ _).symm, hS⟩

set_option maxRecDepth 100000 in
set_option maxHeartbeats 1000000 in
theorem Raw_ok (B : Nat) (o : Fq) (fv : Value) (k m : Int) (w : World) (hI : Inv FDx B w) (hf : Fo FDx B w fv o) : Ret Tryz.prog 18 [fv, .int .i64 k, .int .i64 m] w fun v w' => ∃ ob u, v = .tuple #[u, .int .i64 (errV (rawM o k m))] ∧ MOwn FDx B w.heap.size 0 w'.heap.size w' 23 u ob ((rawM o k m).getD []) ∧ St FDx B w w' := by
  refine enter2 30 [(0, fv), (1, .int .i64 k), (2, .int .i64 m)] 6 7 Tryz.func18 rfl rfl rfl rfl rfl ?_; intro a hF
  have hS := St.refl hI
  obtain ⟨pa_, rfl, hpa⟩ := hf.ptr
  refine W_sr rfl (fun K hK => ?_)
  obtain ⟨pf, hpf⟩ : ∃ pf, pf = w.heap.size := ⟨_, rfl⟩
  refine s_boxN (D := FDx) (B := B) hF rfl (hf.cells1) (by decide) hS.inv rfl ?_; clear hF a; intro w' a hm hI' hbf hsz hF
  replace hf := hf.mb hm
  replace hS := hS.mb0 hm
  clear hm hI' hsz
  rw [← hpf] at hbf hF
  have hkf := hbf.kc
  clear hbf
  refine sv hF (v_assign rfl) rfl ?_; clear hF a; intro a hF
  refine sv hF (v_assign rfl) rfl ?_; clear hF a; intro a hF
  refine WL_nil (hK _ _ ?_)
  clear hK K
  replace hF := hF.sub _ (c_ 7 rfl (c_ 6 rfl (c_ 3 rfl (c_ 1 rfl (c_ 2 rfl (n_))))))
  refine W_seq ?_
  refine W_sr rfl (fun K hK => ?_)
  refine sv hF (v_load sc26 rfl hkf.c) rfl ?_; clear hF a; intro a hF
  refine sb hF (v_eqlNil (by exact Tryz.underlying26) rfl rfl) rfl ?_ ?_
  · clear hF a; intro hc1 a hF
    try simp only [decide_eq_true_eq, decide_eq_false_iff_not, Bool.not_eq_true', Bool.not_eq_false', Bool.not_true, Bool.not_false] at hc1
    refine sv hF (v_move rfl) rfl ?_; clear hF a; intro a hF
    refine svn hF rfl rfl rfl ?_; clear hF a; intro a hF
    refine svn hF rfl rfl rfl ?_; clear hF a; intro a hF
    refine sv hF (v_pickT rfl rfl) rfl ?_; clear hF a; intro a hF
    refine sv hF (v_move rfl) rfl ?_; clear hF a; intro a hF
    refine svn hF rfl rfl rfl ?_; clear hF a; intro a hF
    refine svn hF rfl rfl rfl ?_; clear hF a; intro a hF
    refine sv hF (v_pickT rfl rfl) rfl ?_; clear hF a; intro a hF
    refine sv hF (v_move rfl) rfl ?_; clear hF a; intro a hF
    refine svn hF rfl rfl rfl ?_; clear hF a; intro a hF
    refine svn hF rfl rfl rfl ?_; clear hF a; intro a hF
    refine sv hF (v_pickT rfl rfl) rfl ?_; clear hF a; intro a hF
    refine sv hF (v_move rfl) rfl ?_; clear hF a; intro a hF
    refine svn hF rfl rfl rfl ?_; clear hF a; intro a hF
    refine svn hF rfl rfl rfl ?_; clear hF a; intro a hF
    refine sv hF (v_pickT rfl rfl) rfl ?_; clear hF a; intro a hF
    refine WL_nil (hK _ _ ?_)
    clear hK K
    replace hF := hF.sub _ (c_ 25 rfl (c_ 7 rfl (c_ 6 rfl (c_ 3 rfl (c_ 1 rfl (c_ 2 rfl (n_)))))))
    refine W_ifT hF rfl ?_
    refine W_sr rfl (fun K hK => ?_)
    refine sv hF (v_assign rfl) rfl ?_; clear hF a; intro a hF
    refine sv hF (v_assign rfl) rfl ?_; clear hF a; intro a hF
    refine WL_nil (hK _ _ ?_)
    clear hK K
    replace hF := hF.sub _ (c_ 7 rfl (c_ 6 rfl (c_ 3 rfl (c_ 1 rfl (c_ 2 rfl (n_))))))
    refine W_ret ?_
    refine ⟨_, _, _, hF, rfl, rfl, ?_⟩
    have hb : rawB o k m = false := by unfold rawB; rw [← hpa]; cases pa_ <;> first | (exfalso; simp_all; done) | rfl | (rw [decide_eq_false (by omega)]; rfl)
    rw [rawM_no hb]
    exact ⟨none, _, rfl, MOwn.nil _ _ _ _ _ _ _ (Nat.zero_le _), hS⟩
  · clear hF a; intro hc1 a hF
    try simp only [decide_eq_true_eq, decide_eq_false_iff_not, Bool.not_eq_true', Bool.not_eq_false', Bool.not_true, Bool.not_false] at hc1
    refine sv hF (v_move rfl) rfl ?_; clear hF a; intro a hF
    refine svg hF rfl ?_
    refine sv hF (v_move rfl) rfl ?_; clear hF a; intro a hF
    refine svg hF rfl ?_
    refine sb hF (v_lss rfl rfl) rfl ?_ ?_
    · clear hF a; intro hc2 a hF
      try simp only [decide_eq_true_eq, decide_eq_false_iff_not, Bool.not_eq_true', Bool.not_eq_false', Bool.not_true, Bool.not_false] at hc2
      refine sv hF (v_pickF rfl rfl) rfl ?_; clear hF a; intro a hF
      refine sv hF (v_move rfl) rfl ?_; clear hF a; intro a hF
      refine svn hF rfl rfl rfl ?_; clear hF a; intro a hF
      refine svn hF rfl rfl rfl ?_; clear hF a; intro a hF
      refine sv hF (v_pickT rfl rfl) rfl ?_; clear hF a; intro a hF
      refine sv hF (v_move rfl) rfl ?_; clear hF a; intro a hF
      refine svn hF rfl rfl rfl ?_; clear hF a; intro a hF
      refine svn hF rfl rfl rfl ?_; clear hF a; intro a hF
      refine sv hF (v_pickT rfl rfl) rfl ?_; clear hF a; intro a hF
      refine sv hF (v_move rfl) rfl ?_; clear hF a; intro a hF
      refine svn hF rfl rfl rfl ?_; clear hF a; intro a hF
      refine svn hF rfl rfl rfl ?_; clear hF a; intro a hF
      refine sv hF (v_pickT rfl rfl) rfl ?_; clear hF a; intro a hF
      refine WL_nil (hK _ _ ?_)
      clear hK K
      replace hF := hF.sub _ (c_ 25 rfl (c_ 7 rfl (c_ 6 rfl (c_ 3 rfl (c_ 1 rfl (c_ 2 rfl (n_)))))))
      refine W_ifT hF rfl ?_
      refine W_sr rfl (fun K hK => ?_)
      refine sv hF (v_assign rfl) rfl ?_; clear hF a; intro a hF
      refine sv hF (v_assign rfl) rfl ?_; clear hF a; intro a hF
      refine WL_nil (hK _ _ ?_)
      clear hK K
      replace hF := hF.sub _ (c_ 7 rfl (c_ 6 rfl (c_ 3 rfl (c_ 1 rfl (c_ 2 rfl (n_))))))
      refine W_ret ?_
      refine ⟨_, _, _, hF, rfl, rfl, ?_⟩
      have hb : rawB o k m = false := by unfold rawB; rw [← hpa]; cases pa_ <;> first | (exfalso; simp_all; done) | rfl | (rw [decide_eq_false (by omega)]; rfl)
      rw [rawM_no hb]
      exact ⟨none, _, rfl, MOwn.nil _ _ _ _ _ _ _ (Nat.zero_le _), hS⟩
    · clear hF a; intro hc2 a hF
      try simp only [decide_eq_true_eq, decide_eq_false_iff_not, Bool.not_eq_true', Bool.not_eq_false', Bool.not_true, Bool.not_false] at hc2
      refine sv hF (v_pickF rfl rfl) rfl ?_; clear hF a; intro a hF
      refine sv hF (v_move rfl) rfl ?_; clear hF a; intro a hF
      refine svg hF rfl ?_
      refine sv hF (v_move rfl) rfl ?_; clear hF a; intro a hF
      refine svg hF rfl ?_
      refine sb hF (v_gtr rfl rfl) rfl ?_ ?_
      · clear hF a; intro hc3 a hF
        try simp only [decide_eq_true_eq, decide_eq_false_iff_not, Bool.not_eq_true', Bool.not_eq_false', Bool.not_true, Bool.not_false] at hc3
        refine sv hF (v_pickF rfl rfl) rfl ?_; clear hF a; intro a hF
        refine sv hF (v_move rfl) rfl ?_; clear hF a; intro a hF
        refine svn hF rfl rfl rfl ?_; clear hF a; intro a hF
        refine svn hF rfl rfl rfl ?_; clear hF a; intro a hF
        refine sv hF (v_pickT rfl rfl) rfl ?_; clear hF a; intro a hF
        refine sv hF (v_move rfl) rfl ?_; clear hF a; intro a hF
        refine svn hF rfl rfl rfl ?_; clear hF a; intro a hF
        refine svn hF rfl rfl rfl ?_; clear hF a; intro a hF
        refine sv hF (v_pickT rfl rfl) rfl ?_; clear hF a; intro a hF
        refine WL_nil (hK _ _ ?_)
        clear hK K
        replace hF := hF.sub _ (c_ 25 rfl (c_ 7 rfl (c_ 6 rfl (c_ 3 rfl (c_ 1 rfl (c_ 2 rfl (n_)))))))
        refine W_ifT hF rfl ?_
        refine W_sr rfl (fun K hK => ?_)
        refine sv hF (v_assign rfl) rfl ?_; clear hF a; intro a hF
        refine sv hF (v_assign rfl) rfl ?_; clear hF a; intro a hF
        refine WL_nil (hK _ _ ?_)
        clear hK K
        replace hF := hF.sub _ (c_ 7 rfl (c_ 6 rfl (c_ 3 rfl (c_ 1 rfl (c_ 2 rfl (n_))))))
        refine W_ret ?_
        refine ⟨_, _, _, hF, rfl, rfl, ?_⟩
        have hb : rawB o k m = false := by unfold rawB; rw [← hpa]; cases pa_ <;> first | (exfalso; simp_all; done) | rfl | (rw [decide_eq_false (by omega)]; rfl)
        rw [rawM_no hb]
        exact ⟨none, _, rfl, MOwn.nil _ _ _ _ _ _ _ (Nat.zero_le _), hS⟩
      · clear hF a; intro hc3 a hF
        try simp only [decide_eq_true_eq, decide_eq_false_iff_not, Bool.not_eq_true', Bool.not_eq_false', Bool.not_true, Bool.not_false] at hc3
        refine sv hF (v_pickF rfl rfl) rfl ?_; clear hF a; intro a hF
        refine sv hF (v_move rfl) rfl ?_; clear hF a; intro a hF
        refine svg hF rfl ?_
        refine sv hF (v_move rfl) rfl ?_; clear hF a; intro a hF
        refine svg hF rfl ?_
        refine sb hF (v_lss rfl rfl) rfl ?_ ?_
        · clear hF a; intro hc4 a hF
          try simp only [decide_eq_true_eq, decide_eq_false_iff_not, Bool.not_eq_true', Bool.not_eq_false', Bool.not_true, Bool.not_false] at hc4
          refine sv hF (v_pickF rfl rfl) rfl ?_; clear hF a; intro a hF
          refine sv hF (v_move rfl) rfl ?_; clear hF a; intro a hF
          refine svn hF rfl rfl rfl ?_; clear hF a; intro a hF
          refine svn hF rfl rfl rfl ?_; clear hF a; intro a hF
          refine sv hF (v_pickT rfl rfl) rfl ?_; clear hF a; intro a hF
          refine WL_nil (hK _ _ ?_)
          clear hK K
          replace hF := hF.sub _ (c_ 25 rfl (c_ 7 rfl (c_ 6 rfl (c_ 3 rfl (c_ 1 rfl (c_ 2 rfl (n_)))))))
          refine W_ifT hF rfl ?_
          refine W_sr rfl (fun K hK => ?_)
          refine sv hF (v_assign rfl) rfl ?_; clear hF a; intro a hF
          refine sv hF (v_assign rfl) rfl ?_; clear hF a; intro a hF
          refine WL_nil (hK _ _ ?_)
          clear hK K
          replace hF := hF.sub _ (c_ 7 rfl (c_ 6 rfl (c_ 3 rfl (c_ 1 rfl (c_ 2 rfl (n_))))))
          refine W_ret ?_
          refine ⟨_, _, _, hF, rfl, rfl, ?_⟩
          have hb : rawB o k m = false := by unfold rawB; rw [← hpa]; cases pa_ <;> first | (exfalso; simp_all; done) | rfl | (rw [decide_eq_false (by omega)]; rfl)
          rw [rawM_no hb]
          exact ⟨none, _, rfl, MOwn.nil _ _ _ _ _ _ _ (Nat.zero_le _), hS⟩
        · clear hF a; intro hc4 a hF
          try simp only [decide_eq_true_eq, decide_eq_false_iff_not, Bool.not_eq_true', Bool.not_eq_false', Bool.not_true, Bool.not_false] at hc4
          refine sv hF (v_pickF rfl rfl) rfl ?_; clear hF a; intro a hF
          refine sv hF (v_move rfl) rfl ?_; clear hF a; intro a hF
          refine svg hF rfl ?_
          refine sv hF (v_move rfl) rfl ?_; clear hF a; intro a hF
          refine svg hF rfl ?_
          refine sv hF (v_gtr rfl rfl) rfl ?_; clear hF a; intro a hF
          refine sv hF (v_pickF rfl rfl) rfl ?_; clear hF a; intro a hF
          refine WL_nil (hK _ _ ?_)
          clear hK K
          replace hF := hF.sub _ (c_ 25 rfl (c_ 7 rfl (c_ 6 rfl (c_ 3 rfl (c_ 1 rfl (c_ 2 rfl (n_)))))))
          refine W_if hF rfl (fun hc5 => ?_) (fun hc5 => ?_)
          · skip
            try simp only [decide_eq_true_eq, decide_eq_false_iff_not, Bool.not_eq_true', Bool.not_eq_false', Bool.not_true, Bool.not_false] at hc5
            refine W_sr rfl (fun K hK => ?_)
            refine sv hF (v_assign rfl) rfl ?_; clear hF a; intro a hF
            refine sv hF (v_assign rfl) rfl ?_; clear hF a; intro a hF
            refine WL_nil (hK _ _ ?_)
            clear hK K
            replace hF := hF.sub _ (c_ 7 rfl (c_ 6 rfl (c_ 3 rfl (c_ 1 rfl (c_ 2 rfl (n_))))))
            refine W_ret ?_
            refine ⟨_, _, _, hF, rfl, rfl, ?_⟩
            have hb : rawB o k m = false := by unfold rawB; rw [← hpa]; cases pa_ <;> first | (exfalso; simp_all; done) | rfl | (rw [decide_eq_false (by omega)]; rfl)
            rw [rawM_no hb]
            exact ⟨none, _, rfl, MOwn.nil _ _ _ _ _ _ _ (Nat.zero_le _), hS⟩
          · skip
            try simp only [decide_eq_true_eq, decide_eq_false_iff_not, Bool.not_eq_true', Bool.not_eq_false', Bool.not_true, Bool.not_false] at hc5
            have hb : rawB o k m = true := by unfold rawB; rw [← hpa]; cases pa_ <;> first | (exfalso; simp_all; done) | (rw [decide_eq_true (by omega)]; rfl)
            obtain ⟨kn, rfl⟩ : ∃ n : Nat, k = (n : Int) := ⟨k.toNat, by omega⟩
            obtain ⟨mn, rfl⟩ : ∃ n : Nat, m = (n : Int) := ⟨m.toNat, by omega⟩
            refine W_skip ?_
            refine W_sr rfl (fun K hK => ?_)
            refine sv hF (v_move rfl) rfl ?_; clear hF a; intro a hF
            refine sv hF (v_move rfl) rfl ?_; clear hF a; intro a hF
            refine sv hF (v_mkf (cs := [.tmp 3]) (vs := [.pointer (some ⟨pf, 0, none⟩)]) rfl) rfl ?_; clear hF a; intro a hF
            refine sc hF rfl rfl rfl en41 rfl (made_ok B kn mn 42 [.pointer (some ⟨pf, 0, none⟩)] (pwT o) _ hS.inv (by omega) (ent Tryz.func42 (by kernel_rfl) (by kernel_rfl)) (fun i j hi hj w1 hs => Raw1_ok B o _ pf i j w1 hs.inv (hf.st hs) (hkf.st hs) (by omega))) ?_; clear hF a; intro v w' a hv hF
            obtain ⟨ob, hMO, hS'⟩ := hv
            replace hMO := hMO.le hS.ext.size (Nat.zero_le _)
            replace hf := hf.st hS'
            replace hkf := hkf.st hS'
            replace hS := hS.trans hS'
            clear hS'
            refine sv hF (v_assign rfl) rfl ?_; clear hF a; intro a hF
            refine sv hF (v_assign rfl) rfl ?_; clear hF a; intro a hF
            refine WL_nil (hK _ _ ?_)
            clear hK K
            replace hF := hF.sub _ (c_ 7 rfl (c_ 6 rfl (n_)))
            refine W_ret ?_
            refine ⟨_, _, _, hF, rfl, rfl, ?_⟩
            rw [show rawM o (kn : Int) (mn : Int) = some (tab kn mn (pwT o)) by unfold rawM; rw [if_pos hb]; rfl]
            exact ⟨_, _, rfl, hMO, hS⟩

set_option maxRecDepth 100000 in
set_option maxHeartbeats 1000000 in
theorem Isal_ok (B : Nat) (o : Fq) (fv : Value) (k m : Int) (w : World) (hI : Inv FDx B w) (hf : Fo FDx B w fv o) : Ret Tryz.prog 22 [fv, .int .i64 k, .int .i64 m] w fun v w' => ∃ ob u, v = .tuple #[u, .int .i64 (errV (isalM o k m))] ∧ MOwn FDx B w.heap.size 0 w'.heap.size w' 23 u ob ((isalM o k m).getD []) ∧ St FDx B w w' := by
  refine enter2 17 [(0, fv), (1, .int .i64 k), (2, .int .i64 m)] 6 7 Tryz.func22 rfl rfl rfl rfl rfl ?_; intro a hF
  have hS := St.refl hI
  refine W_sr rfl (fun K hK => ?_)
  obtain ⟨pf, hpf⟩ : ∃ pf, pf = w.heap.size := ⟨_, rfl⟩
  refine s_boxN (D := FDx) (B := B) hF rfl (hf.cells1) (by decide) hS.inv rfl ?_; clear hF a; intro w' a hm hI' hbf hsz hF
  replace hf := hf.mb hm
  replace hS := hS.mb0 hm
  clear hm hI' hsz
  rw [← hpf] at hbf hF
  have hkf := hbf.kc
  clear hbf
  refine sv hF (v_assign rfl) rfl ?_; clear hF a; intro a hF
  refine sv hF (v_assign rfl) rfl ?_; clear hF a; intro a hF
  refine WL_nil (hK _ _ ?_)
  clear hK K
  replace hF := hF.sub _ (c_ 7 rfl (c_ 6 rfl (c_ 3 rfl (c_ 1 rfl (c_ 2 rfl (n_))))))
  refine W_seq ?_
  refine W_sr rfl (fun K hK => ?_)
  refine sv hF (v_load sc26 rfl hkf.c) rfl ?_; clear hF a; intro a hF
  refine sv hF (v_move rfl) rfl ?_; clear hF a; intro a hF
  refine sv hF (v_move rfl) rfl ?_; clear hF a; intro a hF
  refine sc hF rfl rfl rfl en45 rfl (fits_ok B o fv k m _ hf) ?_; clear hF a; intro v w' a hv hF
  obtain ⟨rfl, hw⟩ := hv
  obtain rfl := hw.symm
  have hS' := St.refl hS.inv
  replace hf := hf.st hS'
  replace hkf := hkf.st hS'
  replace hS := hS.trans hS'
  clear hS'
  refine sv hF (v_not rfl) rfl ?_; clear hF a; intro a hF
  refine WL_nil (hK _ _ ?_)
  clear hK K
  replace hF := hF.sub _ (c_ 12 rfl (c_ 7 rfl (c_ 6 rfl (c_ 3 rfl (c_ 1 rfl (c_ 2 rfl (n_)))))))
  refine W_if hF rfl (fun hc1 => ?_) (fun hc1 => ?_)
  · skip
    try simp only [decide_eq_true_eq, decide_eq_false_iff_not, Bool.not_eq_true', Bool.not_eq_false', Bool.not_true, Bool.not_false] at hc1
    refine W_sr rfl (fun K hK => ?_)
    refine sv hF (v_assign rfl) rfl ?_; clear hF a; intro a hF
    refine sv hF (v_assign rfl) rfl ?_; clear hF a; intro a hF
    refine WL_nil (hK _ _ ?_)
    clear hK K
    replace hF := hF.sub _ (c_ 7 rfl (c_ 6 rfl (c_ 3 rfl (c_ 1 rfl (c_ 2 rfl (n_))))))
    refine W_ret ?_
    refine ⟨_, _, _, hF, rfl, rfl, ?_⟩
    rw [isalM_no (by simpa using hc1)]
    exact ⟨none, _, rfl, MOwn.nil _ _ _ _ _ _ _ (Nat.zero_le _), hS⟩
  · skip
    try simp only [decide_eq_true_eq, decide_eq_false_iff_not, Bool.not_eq_true', Bool.not_eq_false', Bool.not_true, Bool.not_false] at hc1
    refine W_skip ?_
    have hb : fitB o k m = true := by simpa using hc1
    obtain ⟨-, hb2⟩ := fitB_iff.1 hb
    obtain ⟨kn, rfl⟩ : ∃ n : Nat, k = (n : Int) := ⟨k.toNat, by omega⟩
    obtain ⟨mn, rfl⟩ : ∃ n : Nat, m = (n : Int) := ⟨m.toNat, by omega⟩
    refine W_sr rfl (fun K hK => ?_)
    refine sv hF (v_move rfl) rfl ?_; clear hF a; intro a hF
    refine sv hF (v_move rfl) rfl ?_; clear hF a; intro a hF
    refine sv hF (v_mkf (cs := [.tmp 3]) (vs := [.pointer (some ⟨pf, 0, none⟩)]) rfl) rfl ?_; clear hF a; intro a hF
    refine sc hF rfl rfl rfl en41 rfl (made_ok B mn kn 49 [.pointer (some ⟨pf, 0, none⟩)] (isT o) _ hS.inv (by omega) (ent Tryz.func49 (by kernel_rfl) (by kernel_rfl)) (fun i j hi hj w1 hs => Isal1_ok B o _ pf i j w1 hs.inv (hf.st hs) (hkf.st hs) (by omega))) ?_; clear hF a; intro v w' a hv hF
    obtain ⟨ob, hMO, hS'⟩ := hv
    replace hMO := hMO.le hS.ext.size (Nat.zero_le _)
    replace hf := hf.st hS'
    replace hkf := hkf.st hS'
    replace hS := hS.trans hS'
    clear hS'
    refine sv hF (v_assign rfl) rfl ?_; clear hF a; intro a hF
    refine sv hF (v_assign rfl) rfl ?_; clear hF a; intro a hF
    refine WL_nil (hK _ _ ?_)
    clear hK K
    replace hF := hF.sub _ (c_ 7 rfl (c_ 6 rfl (n_)))
    refine W_ret ?_
    refine ⟨_, _, _, hF, rfl, rfl, ?_⟩
    rw [show isalM o (kn : Int) (mn : Int) = some (tab mn kn (isT o)) by unfold isalM; rw [if_pos hb]; rfl]
    exact ⟨_, _, rfl, hMO, hS⟩

set_option maxRecDepth 100000 in
set_option maxHeartbeats 1000000 in
theorem System_nil (B : Nat) (k m : Int) (w : World) (hI : Inv FDx B w) : Ret Tryz.prog 20 [.pointer none, .int .i64 k, .int .i64 m] w fun v w' => v = .tuple #[.slice none 0 0, .int .i64 1] ∧ St FDx B w w' := by
  refine enter2 43 [(0, .pointer none), (1, .int .i64 k), (2, .int .i64 m)] 6 7 Tryz.func20 rfl rfl rfl rfl rfl ?_; intro a hF
  have hS := St.refl hI
  refine W_sr rfl (fun K hK => ?_)
  refine sv hF (v_assign rfl) rfl ?_; clear hF a; intro a hF
  refine sv hF (v_assign rfl) rfl ?_; clear hF a; intro a hF
  refine WL_nil (hK _ _ ?_)
  clear hK K
  refine W_seq ?_
  refine W_sr rfl (fun K hK => ?_)
  refine sv hF (v_move rfl) rfl ?_; clear hF a; intro a hF
  refine sv hF (v_move rfl) rfl ?_; clear hF a; intro a hF
  refine sv hF (v_move rfl) rfl ?_; clear hF a; intro a hF
  refine sc hF rfl rfl rfl en45 rfl (fits_ok B none _ k m _ rfl) ?_; clear hF a; intro v w' a hv hF
  obtain ⟨rfl, hw⟩ := hv
  obtain rfl := hw.symm
  have hS' := St.refl hS.inv
  rw [fitB_none] at hF
  replace hS := hS.trans hS'
  clear hS'
  refine sv hF (v_not rfl) rfl ?_; clear hF a; intro a hF
  refine WL_nil (hK _ _ ?_)
  clear hK K
  replace hF := hF.sub _ (c_ 16 rfl (c_ 7 rfl (c_ 6 rfl (c_ 0 rfl (c_ 1 rfl (c_ 2 rfl (n_)))))))
  refine W_ifT hF rfl ?_
  refine W_sr rfl (fun K hK => ?_)
  refine sv hF (v_assign rfl) rfl ?_; clear hF a; intro a hF
  refine sv hF (v_assign rfl) rfl ?_; clear hF a; intro a hF
  refine WL_nil (hK _ _ ?_)
  clear hK K
  replace hF := hF.sub _ (c_ 7 rfl (c_ 6 rfl (c_ 0 rfl (c_ 1 rfl (c_ 2 rfl (n_))))))
  refine W_ret ?_
  refine ⟨_, _, _, hF, rfl, rfl, ?_⟩
  exact ⟨rfl, hS⟩

set_option maxRecDepth 100000 in
set_option maxHeartbeats 1000000 in
theorem System_ok (B wb p : Nat) (hp : Prm wb p) (fv : Value) (k m : Int) (w : World) (hI : Inv FDx B w) (hf : Fo FDx B w fv (some (wb, p))) : Ret Tryz.prog 20 [fv, .int .i64 k, .int .i64 m] w fun v w' => ∃ ob u, v = .tuple #[u, .int .i64 (errV (sysM hp k m))] ∧ MOwn FDx B w.heap.size 0 w'.heap.size w' 23 u ob ((sysM hp k m).getD []) ∧ St FDx B w w' := by
  refine enter2 43 [(0, fv), (1, .int .i64 k), (2, .int .i64 m)] 6 7 Tryz.func20 rfl rfl rfl rfl rfl ?_; intro a hF
  have hS := St.refl hI
  refine W_sr rfl (fun K hK => ?_)
  refine sv hF (v_assign rfl) rfl ?_; clear hF a; intro a hF
  refine sv hF (v_assign rfl) rfl ?_; clear hF a; intro a hF
  refine WL_nil (hK _ _ ?_)
  clear hK K
  refine W_seq ?_
  refine W_sr rfl (fun K hK => ?_)
  refine sv hF (v_move rfl) rfl ?_; clear hF a; intro a hF
  refine sv hF (v_move rfl) rfl ?_; clear hF a; intro a hF
  refine sv hF (v_move rfl) rfl ?_; clear hF a; intro a hF
  refine sc hF rfl rfl rfl en45 rfl (fits_ok B (some (wb, p)) fv k m _ hf) ?_; clear hF a; intro v w' a hv hF
  obtain ⟨rfl, hw⟩ := hv
  obtain rfl := hw.symm
  have hS' := St.refl hS.inv
  replace hf := hf.st hS'
  replace hS := hS.trans hS'
  clear hS'
  refine sv hF (v_not rfl) rfl ?_; clear hF a; intro a hF
  refine WL_nil (hK _ _ ?_)
  clear hK K
  replace hF := hF.sub _ (c_ 16 rfl (c_ 7 rfl (c_ 6 rfl (c_ 0 rfl (c_ 1 rfl (c_ 2 rfl (n_)))))))
  refine W_if hF rfl (fun hc1 => ?_) (fun hc1 => ?_)
  · skip
    try simp only [decide_eq_true_eq, decide_eq_false_iff_not, Bool.not_eq_true', Bool.not_eq_false', Bool.not_true, Bool.not_false] at hc1
    refine W_sr rfl (fun K hK => ?_)
    refine sv hF (v_assign rfl) rfl ?_; clear hF a; intro a hF
    refine sv hF (v_assign rfl) rfl ?_; clear hF a; intro a hF
    refine WL_nil (hK _ _ ?_)
    clear hK K
    replace hF := hF.sub _ (c_ 7 rfl (c_ 6 rfl (c_ 0 rfl (c_ 1 rfl (c_ 2 rfl (n_))))))
    refine W_ret ?_
    refine ⟨_, _, _, hF, rfl, rfl, ?_⟩
    rw [show sysM hp k m = none by unfold sysM; rw [if_neg (by simpa using hc1)]]
    exact ⟨none, _, rfl, MOwn.nil _ _ _ _ _ _ _ (Nat.zero_le _), hS⟩
  · skip
    try simp only [decide_eq_true_eq, decide_eq_false_iff_not, Bool.not_eq_true', Bool.not_eq_false', Bool.not_true, Bool.not_false] at hc1
    refine W_skip ?_
    have hb : fitB (some (wb, p)) k m = true := by simpa using hc1
    obtain ⟨-, hb2⟩ := fitB_iff.1 hb
    obtain ⟨kn, rfl⟩ : ∃ n : Nat, k = (n : Int) := ⟨k.toNat, by omega⟩
    obtain ⟨mn, rfl⟩ : ∃ n : Nat, m = (n : Int) := ⟨m.toNat, by omega⟩
    have hraw : rawM (some (wb, p)) ((kn + mn : Nat) : Int) (kn : Int) = some (tab (kn + mn) kn (pwT (some (wb, p)))) := by unfold rawM rawB; rw [if_pos (by rw [decide_eq_true (by omega)]; rfl)]; rfl
    have hinv := raw_inv hp (k := kn) (by omega) (by omega)
    have hmul := sys_mul hp (k := kn) (m := mn) (by omega) (by omega) (by omega)
    refine W_sr rfl (fun K hK => ?_)
    refine sv hF (v_move rfl) rfl ?_; clear hF a; intro a hF
    refine sv hF (v_move rfl) rfl ?_; clear hF a; intro a hF
    refine sv hF (v_move rfl) rfl ?_; clear hF a; intro a hF
    refine sv hF ((v_addI rfl rfl (by omega)).as (show Value.int .i64 ((kn : Int) + (mn : Int)) = .int .i64 ((kn + mn : Nat) : Int) by simp)) rfl ?_; clear hF a; intro a hF
    refine sv hF (v_move rfl) rfl ?_; clear hF a; intro a hF
    refine sc hF rfl rfl rfl en18 rfl (Raw_ok B (some (wb, p)) fv ((kn + mn : Nat) : Int) (kn : Int) _ hS.inv hf) ?_; clear hF a; intro v w' a hv hF
    obtain ⟨obX, uX, rfl, hoX, hS'⟩ := hv
    rw [hraw] at hoX hF
    try simp only [Option.getD_some, Option.getD_none] at hoX
    obtain ⟨sX, cX, rfl, hX⟩ := hoX.mat (by decide) (Nat.zero_le _)
    clear hoX
    replace hf := hf.st hS'
    replace hS := hS.trans hS'
    clear hS'
    refine sv hF (v_move rfl) rfl ?_; clear hF a; intro a hF
    refine sv hF (v_ext rfl rfl) rfl ?_; clear hF a; intro a hF
    refine sv hF (v_ext rfl rfl) rfl ?_; clear hF a; intro a hF
    refine sv hF (v_assign rfl) rfl ?_; clear hF a; intro a hF
    refine sv hF (v_assign rfl) rfl ?_; clear hF a; intro a hF
    refine WL_nil (hK _ _ ?_)
    clear hK K
    replace hF := hF.sub _ (c_ 8 rfl (c_ 7 rfl (c_ 6 rfl (c_ 0 rfl (c_ 1 rfl (n_))))))
    have hcap := hX.capd
    have hxl : (tab (kn + mn) kn (pwT (some (wb, p)))).length = kn + mn := tab_length _ _ _
    rw [hxl] at hcap
    have hX1 := hX.to (b := tab kn kn (pwT (some (wb, p)))) (hi := kn) (by omega) (tab_take (by omega)).symm
    have hl1 : ∀ n, n ≤ 20 → (tab n kn (pwT (some (wb, p)))).length ≤ maxLen ∧ ∀ r ∈ tab n kn (pwT (some (wb, p))), r.length ≤ maxLen := fun n hn => len20 ⟨by rw [tab_length]; exact hn, fun r hr => by obtain ⟨i, _, rfl⟩ := List.mem_map.1 hr; simp; omega⟩
    refine W_sr rfl (fun K hK => ?_)
    refine sv hF (v_move rfl) rfl ?_; clear hF a; intro a hF
    refine sv hF (v_move rfl) rfl ?_; clear hF a; intro a hF
    refine sv hF (v_move rfl) rfl ?_; clear hF a; intro a hF
    refine sv hF (v_slHi sl30 rfl rfl (by omega) (by omega)) rfl ?_; clear hF a; intro a hF
    refine sc hF rfl rfl rfl en8 rfl (Inverse_n B _ wb p hp fv _ _ kn (tab kn kn (pwT (some (wb, p)))) _ hS.inv (Nat.le_refl _) hf hX1 (hl1 _ (by omega)).1 (hl1 _ (by omega)).2 (tab_length _ _ _)) ?_; clear hF a; intro v w' a hv hF
    obtain ⟨obY, uY, rfl, hoY, hS'⟩ := hv
    rw [hinv] at hoY hF
    dsimp only at hoY hF
    obtain ⟨sY, cY, rfl, hY⟩ := hoY.mat (by decide) (Nat.zero_le _)
    clear hoY
    replace hf := hf.st hS'
    replace hX := (hX.st hS').mono hS'.ext.size
    replace hS := hS.trans hS'
    clear hS'
    clear hX1
    refine sv hF (v_move rfl) rfl ?_; clear hF a; intro a hF
    refine sv hF (v_ext rfl rfl) rfl ?_; clear hF a; intro a hF
    refine sv hF (v_ext rfl rfl) rfl ?_; clear hF a; intro a hF
    refine sv hF (v_assign rfl) rfl ?_; clear hF a; intro a hF
    refine sv hF (v_assign rfl) rfl ?_; clear hF a; intro a hF
    refine WL_nil (hK _ _ ?_)
    clear hK K
    replace hF := hF.sub _ (c_ 11 rfl (c_ 10 rfl (c_ 8 rfl (c_ 7 rfl (c_ 6 rfl (c_ 0 rfl (n_)))))))
    refine W_seq ?_
    refine W_sr rfl (fun K hK => ?_)
    refine sv hF (v_move rfl) rfl ?_; clear hF a; intro a hF
    refine sv hF ((v_neq rfl rfl).as (congrArg Value.bool (decide_eq_false (by decide)))) rfl ?_; clear hF a; intro a hF
    refine WL_nil (hK _ _ ?_)
    clear hK K
    replace hF := hF.sub _ (c_ 35 rfl (c_ 11 rfl (c_ 10 rfl (c_ 8 rfl (c_ 7 rfl (c_ 6 rfl (c_ 0 rfl (n_))))))))
    refine W_ifF hF rfl ?_
    refine W_skip ?_
    have hl2 : (tab kn kn (vinv hp kn)).length ≤ maxLen ∧ ∀ r ∈ tab kn kn (vinv hp kn), r.length ≤ maxLen := len20 ⟨by rw [tab_length]; omega, fun r hr => by obtain ⟨i, _, rfl⟩ := List.mem_map.1 hr; simp; omega⟩
    refine W_sr rfl (fun K hK => ?_)
    refine sv hF (v_move rfl) rfl ?_; clear hF a; intro a hF
    refine sv hF (v_move rfl) rfl ?_; clear hF a; intro a hF
    refine sv hF (v_move rfl) rfl ?_; clear hF a; intro a hF
    refine sc hF rfl rfl rfl en46 rfl (MulM_ok B _ (some (wb, p)) fv _ _ (tab (kn + mn) kn (pwT (some (wb, p)))) _ _ (tab kn kn (vinv hp kn)) _ hS.inv (Nat.le_refl _) hf hX (hl1 _ (by omega)).1 (hl1 _ (by omega)).2 hY (hl2).1 (hl2).2) ?_; clear hF a; intro v w' a hv hF
    obtain ⟨ob, u, rfl, hMO, hS'⟩ := hv
    rw [hmul] at hMO hF
    simp only [Option.getD_some] at hMO
    replace hMO := hMO.le hS.ext.size (Nat.zero_le _)
    replace hf := hf.st hS'
    replace hX := (hX.st hS').mono hS'.ext.size
    replace hY := (hY.st hS').mono hS'.ext.size
    replace hS := hS.trans hS'
    clear hS'
    refine sv hF (v_ext rfl rfl) rfl ?_; clear hF a; intro a hF
    refine sv hF (v_ext rfl rfl) rfl ?_; clear hF a; intro a hF
    refine sv hF (v_assign rfl) rfl ?_; clear hF a; intro a hF
    refine sv hF (v_assign rfl) rfl ?_; clear hF a; intro a hF
    refine WL_nil (hK _ _ ?_)
    clear hK K
    replace hF := hF.sub _ (c_ 7 rfl (c_ 6 rfl (n_)))
    refine W_ret ?_
    refine ⟨_, _, _, hF, rfl, rfl, ?_⟩
    rw [show sysM hp (kn : Int) (mn : Int) = some (tab (kn + mn) kn (sysT hp kn)) by unfold sysM; rw [if_pos hb]; rfl]
    exact ⟨_, _, rfl, hMO, hS⟩

end Go.Proofs.YtcnlooajjnghaaaGreat

/- The walk of gambrelref06.Chosen. -/
set_option linter.unusedVariables false
set_option linter.unusedSimpArgs false
namespace Go.Proofs.YtcnlooajjnghaaaGreat
open Go Go.Gam


namespace FxFCho
end FxFCho
open FxFCho

end Go.Proofs.YtcnlooajjnghaaaGreat

/- The walks of the document answer for polynomials: each function returns what the plain function on numbers tells. -/
set_option linter.unusedVariables false
set_option linter.unusedSimpArgs false
namespace Go.Proofs.YtcnlooajjnghaaaGreat
open Go Go.Gam


namespace FxFRef01
theorem en83 : Ent Tryz.prog 83 := ent Tryz.func83 (by kernel_rfl) (by kernel_rfl)
theorem en84 : Ent Tryz.prog 84 := ent Tryz.func84 (by kernel_rfl) (by kernel_rfl)
theorem en91 : Ent Tryz.prog 91 := ent Tryz.func91 (by kernel_rfl) (by kernel_rfl)
theorem en92 : Ent Tryz.prog 92 := ent Tryz.func92 (by kernel_rfl) (by kernel_rfl)
theorem en93 : Ent Tryz.prog 93 := ent Tryz.func93 (by kernel_rfl) (by kernel_rfl)
end FxFRef01
open FxFRef01

set_option maxRecDepth 100000 in
set_option maxHeartbeats 1000000 in
theorem rDeg_ok (B P : Nat) (w : World) (hI : Inv FDx B w) (hP : P < 18446744073709551616) : Ret Tryz.prog 91 [.int .u64 (P : Int)] w fun v w' => v = .int .i64 (Px.deg P) ∧ St FDx B w w'  := by
  refine enter 11 [(0, .int .u64 (P : Int))] 2 Tryz.func91 rfl rfl rfl rfl rfl ?_; intro a hF
  have hS := St.refl hI
  have hbl := blen_le (n := P) (k := 64) (by omega)
  refine W_sr rfl (fun K hK => ?_)
  refine sv hF (v_assign rfl) rfl ?_; clear hF a; intro a hF
  refine WL_nil (hK _ _ ?_)
  clear hK K
  refine W_sr rfl (fun K hK => ?_)
  refine sv hF (v_assign rfl) rfl ?_; clear hF a; intro a hF
  refine WL_nil (hK _ _ ?_)
  clear hK K
  refine W_seq ?_
  refine W_block ?_
  refine W_loop (fun m a w1 => ∃ n : Int, Fr 11 [(0, .int .u64 (m : Int)), (3, .int .i64 n)] a ∧ w = w1 ∧ (blen m : Int) + (n + 1) = blen P ∧ m < 18446744073709551616 ∧ -1 ≤ n) (P) ?_ ?_
  · skip
    exact ⟨_, hF.sub _ (c_ 0 rfl (c_ 3 rfl n_)), rfl, by omega, hP, by omega⟩
  · skip
    clear hF
    rintro m a _ ⟨n, hF, rfl, hn, hm, hn1⟩
    refine W_seq ?_
    refine W_sr rfl (fun K hK => ?_)
    refine sv hF (v_move rfl) rfl ?_; clear hF a; intro a hF
    refine sv hF (v_gtr rfl rfl) rfl ?_; clear hF a; intro a hF
    refine WL_nil (hK _ _ ?_)
    clear hK K
    replace hF := hF.sub _ (c_ 5 rfl (c_ 0 rfl (c_ 3 rfl (n_))))
    refine W_if hF rfl (fun hc1 => ?_) (fun hc1 => ?_)
    · skip
      try simp only [decide_eq_true_eq, decide_eq_false_iff_not, Bool.not_eq_true', Bool.not_eq_false', Bool.not_true, Bool.not_false] at hc1
      have hbs := blen_half (m := m) (by omega)
      refine W_skip ?_
      refine W_block ?_
      refine W_sr rfl (fun K hK => ?_)
      refine sv hF (v_move rfl) rfl ?_; clear hF a; intro a hF
      refine sv hF (v_addI rfl rfl (by omega)) rfl ?_; clear hF a; intro a hF
      refine sv hF (v_assign rfl) rfl ?_; clear hF a; intro a hF
      refine WL_nil (hK _ _ ?_)
      clear hK K
      replace hF := hF.sub _ (c_ 3 rfl (c_ 0 rfl (n_)))
      refine W_reg rfl (fun K hK => ?_)
      refine sv hF (v_move rfl) rfl ?_; clear hF a; intro a hF
      refine sv hF (v_quoN (n := 2) rfl rfl (by omega) (fits_u64 (by omega))) rfl ?_; clear hF a; intro a hF
      refine sv hF (v_assign rfl) rfl ?_; clear hF a; intro a hF
      refine WL_nil (hK _ _ ?_)
      clear hK K
      replace hF := hF.sub _ (c_ 0 rfl (c_ 3 rfl (n_)))
      exact ⟨m / 2, by omega, _, hF.sub _ (c_ 0 rfl (c_ 3 rfl n_)), rfl, by omega, by omega, by omega⟩
    · skip
      try simp only [decide_eq_true_eq, decide_eq_false_iff_not, Bool.not_eq_true', Bool.not_eq_false', Bool.not_true, Bool.not_false] at hc1
      obtain rfl : m = 0 := by omega
      rw [blen_zero] at hn
      refine W_exit rfl ?_
      refine W_sr rfl (fun K hK => ?_)
      refine sv hF (v_move rfl) rfl ?_; clear hF a; intro a hF
      refine sv hF (v_assign rfl) rfl ?_; clear hF a; intro a hF
      refine WL_nil (hK _ _ ?_)
      clear hK K
      replace hF := hF.sub _ (c_ 2 rfl (c_ 10 rfl (c_ 0 rfl (c_ 3 rfl (n_)))))
      refine W_ret ?_
      refine ⟨_, _, hF, rfl, ?_⟩
      exact ⟨by rw [← deg_blen]; congr 1; omega, hS⟩

set_option maxRecDepth 100000 in
set_option maxHeartbeats 1000000 in
theorem rMul_ok (B X Y : Nat) (w : World) (hI : Inv FDx B w) (hX : X < 4294967296) (hY : Y < 4294967296) : Ret Tryz.prog 93 [.int .u32 (X : Int), .int .u32 (Y : Int)] w fun v w' => v = .int .u64 (Px.mul X Y : Int) ∧ St FDx B w w'  := by
  refine enter 22 [(0, .int .u32 (X : Int)), (1, .int .u32 (Y : Int))] 4 Tryz.func93 rfl rfl rfl rfl rfl ?_; intro a hF
  have hS := St.refl hI
  refine W_sr rfl (fun K hK => ?_)
  refine sv hF (v_assign rfl) rfl ?_; clear hF a; intro a hF
  refine WL_nil (hK _ _ ?_)
  clear hK K
  refine W_sr rfl (fun K hK => ?_)
  refine sv hF (v_assign rfl) rfl ?_; clear hF a; intro a hF
  refine WL_nil (hK _ _ ?_)
  clear hK K
  refine W_sr rfl (fun K hK => ?_)
  refine sv hF (v_move rfl) rfl ?_; clear hF a; intro a hF
  refine sv hF (v_cv Tryz.underlying27 Tryz.underlying75 rfl (wrap_u64 _ (by omega))) rfl ?_; clear hF a; intro a hF
  refine sv hF (v_assign rfl) rfl ?_; clear hF a; intro a hF
  refine WL_nil (hK _ _ ?_)
  clear hK K
  replace hF := hF.sub _ (c_ 6 rfl (c_ 5 rfl (c_ 4 rfl (c_ 1 rfl (n_)))))
  refine W_seq ?_
  refine W_block ?_
  refine W_loop (fun m a w1 => ∃ k x o : Nat, Fr 22 [(1, .int .u32 (m : Int)), (5, .int .u64 (o : Int)), (6, .int .u64 (x : Int))] a ∧ w = w1 ∧ m = Y / 2 ^ k ∧ x = X <<< k ∧ o = Px.mul X (Y % 2 ^ k) ∧ k ≤ 32) (Y) ?_ ?_
  · skip
    exact ⟨0, X, 0, hF.sub _ (c_ 1 rfl (c_ 5 rfl (c_ 6 rfl n_))), rfl, by simp, by simp, (mul_none X Y).symm, by omega⟩
  · skip
    clear hF
    rintro m a _ ⟨k, x, o, hF, rfl, hm, hx, ho, hk⟩
    refine W_seq ?_
    have hm32 : m < 4294967296 := by rw [hm]; exact div_lt hY
    refine W_sr rfl (fun K hK => ?_)
    refine sv hF (v_move rfl) rfl ?_; clear hF a; intro a hF
    refine sv hF (v_gtr rfl rfl) rfl ?_; clear hF a; intro a hF
    refine WL_nil (hK _ _ ?_)
    clear hK K
    replace hF := hF.sub _ (c_ 10 rfl (c_ 1 rfl (c_ 5 rfl (c_ 6 rfl (n_)))))
    refine W_if hF rfl (fun hc1 => ?_) (fun hc1 => ?_)
    · skip
      try simp only [decide_eq_true_eq, decide_eq_false_iff_not, Bool.not_eq_true', Bool.not_eq_false', Bool.not_true, Bool.not_false] at hc1
      have hk2 : k < 32 := by
        rcases Nat.lt_or_ge k 32 with h | h
        · exact h
        · have h9 : Y / 2 ^ k = 0 := Nat.div_eq_of_lt (Nat.lt_of_lt_of_le hY (Nat.pow_le_pow_right (n := 2) (by decide) h))
          omega
      have hx2 : x < 9223372036854775808 := by
        rw [hx, Nat.shiftLeft_eq]
        exact Nat.lt_of_lt_of_le (shl_lt (m := 32) (i := k) hX) (Nat.pow_le_pow_right (n := 2) (by decide) (show 32 + k ≤ 63 by omega))
      have ho2 : o < 18446744073709551616 := by rw [ho]; exact mul_lt64 hX (Nat.lt_of_le_of_lt (Nat.mod_le _ _) hY)
      have hst := mul_bit X Y k
      rw [bit_of_div, ← hm, ← ho, ← hx] at hst
      have hds := div_succ Y k
      rw [← hm] at hds
      have hxs : 2 * x = X <<< (k + 1) := by rw [hx, Nat.shiftLeft_eq, Nat.shiftLeft_eq, Nat.pow_succ, Nat.mul_comm 2, Nat.mul_assoc]
      refine W_skip ?_
      refine W_block ?_
      refine W_seq ?_
      refine W_sr rfl (fun K hK => ?_)
      refine sv hF (v_move rfl) rfl ?_; clear hF a; intro a hF
      refine sv hF (v_remI rfl rfl (by omega) (by omega)) rfl ?_; clear hF a; intro a hF
      refine sv hF (v_eql rfl rfl) rfl ?_; clear hF a; intro a hF
      refine WL_nil (hK _ _ ?_)
      clear hK K
      replace hF := hF.sub _ (c_ 13 rfl (c_ 1 rfl (c_ 5 rfl (c_ 6 rfl (n_)))))
      refine W_if hF rfl (fun hc2 => ?_) (fun hc2 => ?_)
      · skip
        try simp only [decide_eq_true_eq, decide_eq_false_iff_not, Bool.not_eq_true', Bool.not_eq_false', Bool.not_true, Bool.not_false] at hc2
        rw [if_pos (by simp; omega)] at hst
        refine W_reg rfl (fun K hK => ?_)
        refine sv hF (v_move rfl) rfl ?_; clear hF a; intro a hF
        refine sv hF (v_move rfl) rfl ?_; clear hF a; intro a hF
        refine sv hF (v_xorN rfl rfl (fits_u64 (by omega)) (fits_u64 (by omega))) rfl ?_; clear hF a; intro a hF
        refine sv hF (v_assign rfl) rfl ?_; clear hF a; intro a hF
        refine WL_nil (hK _ _ ?_)
        clear hK K
        replace hF := hF.sub _ (c_ 5 rfl (c_ 1 rfl (c_ 6 rfl (n_))))
        refine W_sr rfl (fun K hK => ?_)
        refine sv hF (v_move rfl) rfl ?_; clear hF a; intro a hF
        refine sv hF ((v_mul rfl rfl).as (congrArg _ (wrap_u64 _ (by omega)))) rfl ?_; clear hF a; intro a hF
        refine sv hF (v_assign rfl) rfl ?_; clear hF a; intro a hF
        refine WL_nil (hK _ _ ?_)
        clear hK K
        replace hF := hF.sub _ (c_ 6 rfl (c_ 5 rfl (c_ 1 rfl (n_))))
        refine W_reg rfl (fun K hK => ?_)
        refine sv hF (v_move rfl) rfl ?_; clear hF a; intro a hF
        refine sv hF (v_quoN (n := 2) rfl rfl (by omega) (fits_u32 (by omega))) rfl ?_; clear hF a; intro a hF
        refine sv hF (v_assign rfl) rfl ?_; clear hF a; intro a hF
        refine WL_nil (hK _ _ ?_)
        clear hK K
        replace hF := hF.sub _ (c_ 1 rfl (c_ 6 rfl (c_ 5 rfl (n_))))
        exact ⟨m / 2, by omega, k + 1, 2 * x, _, hF.sub _ (c_ 1 rfl (c_ 5 rfl (c_ 6 rfl n_))), rfl, hds.symm, hxs, hst.symm, by omega⟩
      · skip
        try simp only [decide_eq_true_eq, decide_eq_false_iff_not, Bool.not_eq_true', Bool.not_eq_false', Bool.not_true, Bool.not_false] at hc2
        rw [if_neg (by simp; omega), Nat.xor_zero] at hst
        refine W_skip ?_
        refine W_sr rfl (fun K hK => ?_)
        refine sv hF (v_move rfl) rfl ?_; clear hF a; intro a hF
        refine sv hF ((v_mul rfl rfl).as (congrArg _ (wrap_u64 _ (by omega)))) rfl ?_; clear hF a; intro a hF
        refine sv hF (v_assign rfl) rfl ?_; clear hF a; intro a hF
        refine WL_nil (hK _ _ ?_)
        clear hK K
        replace hF := hF.sub _ (c_ 6 rfl (c_ 1 rfl (c_ 5 rfl (n_))))
        refine W_reg rfl (fun K hK => ?_)
        refine sv hF (v_move rfl) rfl ?_; clear hF a; intro a hF
        refine sv hF (v_quoN (n := 2) rfl rfl (by omega) (fits_u32 (by omega))) rfl ?_; clear hF a; intro a hF
        refine sv hF (v_assign rfl) rfl ?_; clear hF a; intro a hF
        refine WL_nil (hK _ _ ?_)
        clear hK K
        replace hF := hF.sub _ (c_ 1 rfl (c_ 6 rfl (c_ 5 rfl (n_))))
        exact ⟨m / 2, by omega, k + 1, 2 * x, _, hF.sub _ (c_ 1 rfl (c_ 5 rfl (c_ 6 rfl n_))), rfl, hds.symm, hxs, hst.symm, by omega⟩
    · skip
      try simp only [decide_eq_true_eq, decide_eq_false_iff_not, Bool.not_eq_true', Bool.not_eq_false', Bool.not_true, Bool.not_false] at hc1
      obtain rfl : m = 0 := by omega
      have hfin : Y % 2 ^ k = Y := by
        have h9 := Nat.div_add_mod Y (2 ^ k)
        rw [← hm, Nat.mul_zero, Nat.zero_add] at h9
        exact h9
      rw [hfin] at ho
      refine W_exit rfl ?_
      refine W_sr rfl (fun K hK => ?_)
      refine sv hF (v_move rfl) rfl ?_; clear hF a; intro a hF
      refine sv hF (v_assign rfl) rfl ?_; clear hF a; intro a hF
      refine WL_nil (hK _ _ ?_)
      clear hK K
      replace hF := hF.sub _ (c_ 4 rfl (c_ 21 rfl (c_ 1 rfl (c_ 5 rfl (c_ 6 rfl (n_))))))
      refine W_ret ?_
      refine ⟨_, _, hF, rfl, ?_⟩
      exact ⟨by rw [ho], hS⟩

set_option maxRecDepth 100000 in
set_option maxHeartbeats 1000000 in
theorem rpow_ok (B n : Nat) (w : World) (hI : Inv FDx B w) (hn : n ≤ 63) : Ret Tryz.prog 92 [.int .i64 (n : Int)] w fun v w' => v = .int .u64 ((2 ^ n : Nat) : Int) ∧ St FDx B w w'  := by
  refine enter 13 [(0, .int .i64 (n : Int))] 2 Tryz.func92 rfl rfl rfl rfl rfl ?_; intro a hF
  have hS := St.refl hI
  refine W_sr rfl (fun K hK => ?_)
  refine sv hF (v_assign rfl) rfl ?_; clear hF a; intro a hF
  refine WL_nil (hK _ _ ?_)
  clear hK K
  refine W_sr rfl (fun K hK => ?_)
  refine sv hF (v_assign rfl) rfl ?_; clear hF a; intro a hF
  refine WL_nil (hK _ _ ?_)
  clear hK K
  refine W_seq ?_
  refine W_sr rfl (fun K hK => ?_)
  refine sv hF (v_assign rfl) rfl ?_; clear hF a; intro a hF
  refine WL_nil (hK _ _ ?_)
  clear hK K
  refine W_block ?_
  refine W_loop (fun m a w1 => ∃ i x : Nat, Fr 13 [(0, .int .i64 (n : Int)), (3, .int .u64 (x : Int)), (4, .int .i64 (i : Int))] a ∧ w = w1 ∧ i ≤ n ∧ x = 2 ^ i ∧ m = n - i) (n) ?_ ?_
  · skip
    exact ⟨0, 1, hF.sub _ (c_ 0 rfl (c_ 3 rfl (c_ 4 rfl n_))), rfl, by omega, by simp, by omega⟩
  · skip
    clear hF
    rintro m a _ ⟨i, x, hF, rfl, hi, hx, rfl⟩
    refine W_seq ?_
    refine W_sr rfl (fun K hK => ?_)
    refine sv hF (v_move rfl) rfl ?_; clear hF a; intro a hF
    refine sv hF (v_move rfl) rfl ?_; clear hF a; intro a hF
    refine sv hF (v_lss rfl rfl) rfl ?_; clear hF a; intro a hF
    refine WL_nil (hK _ _ ?_)
    clear hK K
    replace hF := hF.sub _ (c_ 7 rfl (c_ 0 rfl (c_ 3 rfl (c_ 4 rfl (n_)))))
    refine W_if hF rfl (fun hc1 => ?_) (fun hc1 => ?_)
    · skip
      try simp only [decide_eq_true_eq, decide_eq_false_iff_not, Bool.not_eq_true', Bool.not_eq_false', Bool.not_true, Bool.not_false] at hc1
      have hx2 : x < 9223372036854775808 := by
        rw [hx]; exact Nat.lt_of_lt_of_le (Nat.pow_lt_pow_right (a := 2) (by decide) (show i < 63 by omega)) (by decide)
      refine W_skip ?_
      refine W_seq ?_
      refine W_block ?_
      refine W_reg rfl (fun K hK => ?_)
      refine sv hF (v_move rfl) rfl ?_; clear hF a; intro a hF
      refine sv hF ((v_mul rfl rfl).as (congrArg _ (wrap_u64 _ (by omega)))) rfl ?_; clear hF a; intro a hF
      refine sv hF (v_assign rfl) rfl ?_; clear hF a; intro a hF
      refine WL_nil (hK _ _ ?_)
      clear hK K
      replace hF := hF.sub _ (c_ 3 rfl (c_ 0 rfl (c_ 4 rfl (n_))))
      refine W_reg rfl (fun K hK => ?_)
      refine sv hF (v_move rfl) rfl ?_; clear hF a; intro a hF
      refine sv hF (v_addI rfl rfl (by omega)) rfl ?_; clear hF a; intro a hF
      refine sv hF (v_assign rfl) rfl ?_; clear hF a; intro a hF
      refine WL_nil (hK _ _ ?_)
      clear hK K
      exact ⟨n - (i + 1), by omega, i + 1, 2 * x, hF.sub _ (c_ 0 rfl (c_ 3 rfl (c_ 4 rfl n_))), rfl, by omega, by rw [hx, Nat.pow_succ, Nat.mul_comm], rfl⟩
    · skip
      try simp only [decide_eq_true_eq, decide_eq_false_iff_not, Bool.not_eq_true', Bool.not_eq_false', Bool.not_true, Bool.not_false] at hc1
      obtain rfl : i = n := by omega
      refine W_exit rfl ?_
      refine W_sr rfl (fun K hK => ?_)
      refine sv hF (v_move rfl) rfl ?_; clear hF a; intro a hF
      refine sv hF (v_assign rfl) rfl ?_; clear hF a; intro a hF
      refine WL_nil (hK _ _ ?_)
      clear hK K
      replace hF := hF.sub _ (c_ 2 rfl (c_ 12 rfl (c_ 0 rfl (c_ 3 rfl (c_ 4 rfl (n_))))))
      refine W_ret ?_
      refine ⟨_, _, hF, rfl, ?_⟩
      exact ⟨by rw [hx], hS⟩

set_option maxRecDepth 100000 in
set_option maxHeartbeats 1000000 in
theorem rMod_ok (B A p : Nat) (w : World) (hI : Inv FDx B w) (hA : A < 18446744073709551616) (hp : p < 4294967296) : Ret Tryz.prog 83 [.int .u64 (A : Int), .int .u32 (p : Int)] w fun v w' => v = .int .u32 (Px.mod A p : Int) ∧ St FDx B w w'  := by
  refine enter 27 [(0, .int .u64 (A : Int)), (1, .int .u32 (p : Int))] 4 Tryz.func83 rfl rfl rfl rfl rfl ?_; intro a hF
  have hS := St.refl hI
  refine W_sr rfl (fun K hK => ?_)
  refine sv hF (v_assign rfl) rfl ?_; clear hF a; intro a hF
  refine WL_nil (hK _ _ ?_)
  clear hK K
  refine W_seq ?_
  refine W_sr rfl (fun K hK => ?_)
  refine sv hF (v_move rfl) rfl ?_; clear hF a; intro a hF
  refine sv hF (v_eql rfl rfl) rfl ?_; clear hF a; intro a hF
  refine WL_nil (hK _ _ ?_)
  clear hK K
  replace hF := hF.sub _ (c_ 7 rfl (c_ 4 rfl (c_ 0 rfl (c_ 1 rfl (n_)))))
  refine W_if hF rfl (fun hc1 => ?_) (fun hc1 => ?_)
  · skip
    try simp only [decide_eq_true_eq, decide_eq_false_iff_not, Bool.not_eq_true', Bool.not_eq_false', Bool.not_true, Bool.not_false] at hc1
    obtain rfl : p = 0 := by omega
    refine W_sr rfl (fun K hK => ?_)
    refine sv hF (v_assign rfl) rfl ?_; clear hF a; intro a hF
    refine WL_nil (hK _ _ ?_)
    clear hK K
    replace hF := hF.sub _ (c_ 4 rfl (c_ 0 rfl (c_ 1 rfl (n_))))
    refine W_ret ?_
    refine ⟨_, _, hF, rfl, ?_⟩
    exact ⟨by rw [Px.mod_zero]; rfl, hS⟩
  · skip
    try simp only [decide_eq_true_eq, decide_eq_false_iff_not, Bool.not_eq_true', Bool.not_eq_false', Bool.not_true, Bool.not_false] at hc1
    have hp0 : p ≠ 0 := by omega
    have hl := log2_lt hp0 (k := 32) hp
    refine W_skip ?_
    refine W_sr rfl (fun K hK => ?_)
    refine sv hF (v_move rfl) rfl ?_; clear hF a; intro a hF
    refine sv hF (v_cv Tryz.underlying27 Tryz.underlying75 rfl (wrap_u64 _ (by omega))) rfl ?_; clear hF a; intro a hF
    refine sc hF rfl rfl rfl en91 rfl (rDeg_ok B p _ hS.inv (by omega)) ?_; clear hF a; intro v w' a hv hF
    obtain ⟨rfl, hS'⟩ := hv
    replace hS := hS.trans hS'
    clear hS'
    refine sv hF (v_assign rfl) rfl ?_; clear hF a; intro a hF
    refine WL_nil (hK _ _ ?_)
    clear hK K
    replace hF := hF.sub _ (c_ 5 rfl (c_ 4 rfl (c_ 0 rfl (c_ 1 rfl (n_)))))
    rw [deg_pos hp0] at hF
    refine W_seq ?_
    refine W_block ?_
    refine W_loop (fun m a w1 => Fr 27 [(0, .int .u64 (m : Int)), (1, .int .u32 (p : Int)), (5, .int .i64 (Nat.log2 p : Int))] a ∧ St FDx B w w1 ∧ m < 18446744073709551616 ∧ Px.mod m p = Px.mod A p) (A) ?_ ?_
    · skip
      exact ⟨hF.sub _ (c_ 0 rfl (c_ 1 rfl (c_ 5 rfl n_))), hS, hA, rfl⟩
    · skip
      clear hF
      clear hS
      rintro m a w1 ⟨hF, hS, hm, he⟩
      refine W_seq ?_
      refine W_sr rfl (fun K hK => ?_)
      refine sv hF (v_move rfl) rfl ?_; clear hF a; intro a hF
      refine sc hF rfl rfl rfl en91 rfl (rDeg_ok B m _ hS.inv hm) ?_; clear hF a; intro v w' a hv hF
      obtain ⟨rfl, hS'⟩ := hv
      replace hS := hS.trans hS'
      clear hS'
      refine sv hF (v_move rfl) rfl ?_; clear hF a; intro a hF
      refine sv hF (v_geq rfl rfl) rfl ?_; clear hF a; intro a hF
      refine WL_nil (hK _ _ ?_)
      clear hK K
      replace hF := hF.sub _ (c_ 14 rfl (c_ 0 rfl (c_ 1 rfl (c_ 5 rfl (n_)))))
      refine W_if hF rfl (fun hc2 => ?_) (fun hc2 => ?_)
      · skip
        try simp only [decide_eq_true_eq, decide_eq_false_iff_not, Bool.not_eq_true', Bool.not_eq_false', Bool.not_true, Bool.not_false] at hc2
        have hm0 : m ≠ 0 := by rintro rfl; rw [deg_zero] at hc2; omega
        rw [deg_pos hm0] at hc2
        have hlt := xor_shift_lt hp0 hm0 (by omega)
        have hl2 := log2_lt hm0 (k := 64) hm
        have hmx := mod_xor_shift m p (Nat.log2 m - Nat.log2 p)
        have hsh := shl_lt64 hp0 hp (j := Nat.log2 m) (by omega) (by omega)
        have hge := (Px.hb_log hm0).1
        refine W_skip ?_
        refine W_block ?_
        refine W_reg rfl (fun K hK => ?_)
        refine sv hF (v_move rfl) rfl ?_; clear hF a; intro a hF
        refine sv hF (v_move rfl) rfl ?_; clear hF a; intro a hF
        refine sv hF (v_cv Tryz.underlying27 Tryz.underlying75 rfl (wrap_u64 _ (by omega))) rfl ?_; clear hF a; intro a hF
        refine sv hF (v_move rfl) rfl ?_; clear hF a; intro a hF
        refine sc hF rfl rfl rfl en91 rfl (rDeg_ok B m _ hS.inv hm) ?_; clear hF a; intro v w' a hv hF
        obtain ⟨rfl, hS'⟩ := hv
        replace hS := hS.trans hS'
        clear hS'
        refine sv hF (v_move rfl) rfl ?_; clear hF a; intro a hF
        rw [deg_pos hm0] at hF
        refine sv hF (v_subN rfl rfl (by omega) (by omega)) rfl ?_; clear hF a; intro a hF
        refine sc hF rfl rfl rfl en92 rfl (rpow_ok B (Nat.log2 m - Nat.log2 p) _ hS.inv (by omega)) ?_; clear hF a; intro v w' a hv hF
        obtain ⟨rfl, hS'⟩ := hv
        replace hS := hS.trans hS'
        clear hS'
        refine sv hF ((v_mul rfl rfl).as (congrArg _ (mul_shift hsh))) rfl ?_; clear hF a; intro a hF
        refine sv hF (v_xorN rfl rfl (fits_u64 hm) (fits_u64 (by rw [Nat.shiftLeft_eq]; exact hsh))) rfl ?_; clear hF a; intro a hF
        refine sv hF (v_assign rfl) rfl ?_; clear hF a; intro a hF
        refine WL_nil (hK _ _ ?_)
        clear hK K
        replace hF := hF.sub _ (c_ 0 rfl (c_ 1 rfl (c_ 5 rfl (n_))))
        exact ⟨_, Nat.lt_of_lt_of_le hlt hge, hF.sub _ (c_ 0 rfl (c_ 1 rfl (c_ 5 rfl n_))), hS, by omega, by rw [hmx, he]⟩
      · skip
        try simp only [decide_eq_true_eq, decide_eq_false_iff_not, Bool.not_eq_true', Bool.not_eq_false', Bool.not_true, Bool.not_false] at hc2
        have hfin := mod_low (A := m) hp0 (by omega)
        have hlt := mod_lt32 m hp
        rw [hfin] at hlt he
        refine W_exit rfl ?_
        refine W_sr rfl (fun K hK => ?_)
        refine sv hF (v_move rfl) rfl ?_; clear hF a; intro a hF
        refine sv hF (v_cv Tryz.underlying75 Tryz.underlying27 rfl (wrap_u32 _ (by omega))) rfl ?_; clear hF a; intro a hF
        refine sv hF (v_assign rfl) rfl ?_; clear hF a; intro a hF
        refine WL_nil (hK _ _ ?_)
        clear hK K
        replace hF := hF.sub _ (c_ 4 rfl (c_ 26 rfl (c_ 25 rfl (c_ 0 rfl (c_ 1 rfl (c_ 5 rfl (n_)))))))
        refine W_ret ?_
        refine ⟨_, _, hF, rfl, ?_⟩
        exact ⟨by rw [he], hS⟩

set_option maxRecDepth 100000 in
set_option maxHeartbeats 1000000 in
theorem rMulMod_ok (B x y p : Nat) (w : World) (hI : Inv FDx B w) (hx : x < 4294967296) (hy : y < 4294967296) (hp : p < 4294967296) : Ret Tryz.prog 84 [.int .u32 (x : Int), .int .u32 (y : Int), .int .u32 (p : Int)] w fun v w' => v = .int .u32 (Px.mulMod x y p : Int) ∧ St FDx B w w'  := by
  refine enter 12 [(0, .int .u32 (x : Int)), (1, .int .u32 (y : Int)), (2, .int .u32 (p : Int))] 6 Tryz.func84 rfl rfl rfl rfl rfl ?_; intro a hF
  have hS := St.refl hI
  refine W_sr rfl (fun K hK => ?_)
  refine sv hF (v_assign rfl) rfl ?_; clear hF a; intro a hF
  refine WL_nil (hK _ _ ?_)
  clear hK K
  refine W_sr rfl (fun K hK => ?_)
  refine sv hF (v_move rfl) rfl ?_; clear hF a; intro a hF
  refine sv hF (v_move rfl) rfl ?_; clear hF a; intro a hF
  refine sc hF rfl rfl rfl en93 rfl (rMul_ok B x y _ hS.inv hx hy) ?_; clear hF a; intro v w' a hv hF
  obtain ⟨rfl, hS'⟩ := hv
  replace hS := hS.trans hS'
  clear hS'
  refine sv hF (v_move rfl) rfl ?_; clear hF a; intro a hF
  refine sc hF rfl rfl rfl en83 rfl (rMod_ok B (Px.mul x y) p _ hS.inv (mul_lt64 hx hy) hp) ?_; clear hF a; intro v w' a hv hF
  obtain ⟨rfl, hS'⟩ := hv
  replace hS := hS.trans hS'
  clear hS'
  refine sv hF (v_assign rfl) rfl ?_; clear hF a; intro a hF
  refine WL_nil (hK _ _ ?_)
  clear hK K
  replace hF := hF.sub _ (c_ 6 rfl (n_))
  refine W_ret ?_
  refine ⟨_, _, hF, rfl, ?_⟩
  exact ⟨rfl, hS⟩

set_option maxRecDepth 100000 in
set_option maxHeartbeats 1000000 in
theorem rPower_ok (B X n p : Nat) (w : World) (hI : Inv FDx B w) (hX : X < 4294967296) (hn : n < 18446744073709551616) (hp : p < 4294967296) : Ret Tryz.prog 70 [.int .u32 (X : Int), .int .u64 (n : Int), .int .u32 (p : Int)] w fun v w' => v = .int .u32 (powB X p (Px.mod 1 p) n : Int) ∧ St FDx B w w'  := by
  refine enter 26 [(0, .int .u32 (X : Int)), (1, .int .u64 (n : Int)), (2, .int .u32 (p : Int))] 6 Tryz.func70 rfl rfl rfl rfl rfl ?_; intro a hF
  have hS := St.refl hI
  refine W_sr rfl (fun K hK => ?_)
  refine sv hF (v_assign rfl) rfl ?_; clear hF a; intro a hF
  refine WL_nil (hK _ _ ?_)
  clear hK K
  refine W_sr rfl (fun K hK => ?_)
  refine sv hF (v_move rfl) rfl ?_; clear hF a; intro a hF
  refine sc hF rfl rfl rfl en83 rfl (rMod_ok B 1 p _ hS.inv (by decide) hp) ?_; clear hF a; intro v w' a hv hF
  obtain ⟨rfl, hS'⟩ := hv
  replace hS := hS.trans hS'
  clear hS'
  refine sv hF (v_assign rfl) rfl ?_; clear hF a; intro a hF
  refine WL_nil (hK _ _ ?_)
  clear hK K
  replace hF := hF.sub _ (c_ 7 rfl (c_ 6 rfl (c_ 0 rfl (c_ 1 rfl (c_ 2 rfl (n_))))))
  refine W_seq ?_
  refine W_block ?_
  refine W_loop (fun m a w1 => ∃ x o : Nat, Fr 26 [(0, .int .u32 (x : Int)), (1, .int .u64 (m : Int)), (2, .int .u32 (p : Int)), (7, .int .u32 (o : Int))] a ∧ St FDx B w w1 ∧ powB x p o m = powB X p (Px.mod 1 p) n ∧ x < 4294967296 ∧ o < 4294967296 ∧ m < 18446744073709551616) (n) ?_ ?_
  · skip
    exact ⟨_, _, hF.sub _ (c_ 0 rfl (c_ 1 rfl (c_ 2 rfl (c_ 7 rfl n_)))), hS, rfl, hX, mod_lt32 1 hp, hn⟩
  · skip
    clear hF
    clear hS
    rintro m a w1 ⟨x, o, hF, hS, hg, hx, ho, hm⟩
    refine W_seq ?_
    refine W_sr rfl (fun K hK => ?_)
    refine sv hF (v_move rfl) rfl ?_; clear hF a; intro a hF
    refine sv hF (v_gtr rfl rfl) rfl ?_; clear hF a; intro a hF
    refine WL_nil (hK _ _ ?_)
    clear hK K
    replace hF := hF.sub _ (c_ 11 rfl (c_ 0 rfl (c_ 1 rfl (c_ 2 rfl (c_ 7 rfl (n_))))))
    refine W_if hF rfl (fun hc1 => ?_) (fun hc1 => ?_)
    · skip
      try simp only [decide_eq_true_eq, decide_eq_false_iff_not, Bool.not_eq_true', Bool.not_eq_false', Bool.not_true, Bool.not_false] at hc1
      refine W_skip ?_
      refine W_block ?_
      refine W_seq ?_
      refine W_sr rfl (fun K hK => ?_)
      refine sv hF (v_move rfl) rfl ?_; clear hF a; intro a hF
      refine sv hF (v_remI rfl rfl (by omega) (by omega)) rfl ?_; clear hF a; intro a hF
      refine sv hF (v_eql rfl rfl) rfl ?_; clear hF a; intro a hF
      refine WL_nil (hK _ _ ?_)
      clear hK K
      replace hF := hF.sub _ (c_ 14 rfl (c_ 0 rfl (c_ 1 rfl (c_ 2 rfl (c_ 7 rfl (n_))))))
      refine W_if hF rfl (fun hc2 => ?_) (fun hc2 => ?_)
      · skip
        try simp only [decide_eq_true_eq, decide_eq_false_iff_not, Bool.not_eq_true', Bool.not_eq_false', Bool.not_true, Bool.not_false] at hc2
        rw [powB_odd x p o (by omega)] at hg
        refine W_reg rfl (fun K hK => ?_)
        refine sv hF (v_move rfl) rfl ?_; clear hF a; intro a hF
        refine sv hF (v_move rfl) rfl ?_; clear hF a; intro a hF
        refine sv hF (v_move rfl) rfl ?_; clear hF a; intro a hF
        refine sc hF rfl rfl rfl en84 rfl (rMulMod_ok B o x p _ hS.inv ho hx hp) ?_; clear hF a; intro v w' a hv hF
        obtain ⟨rfl, hS'⟩ := hv
        replace hS := hS.trans hS'
        clear hS'
        refine sv hF (v_assign rfl) rfl ?_; clear hF a; intro a hF
        refine WL_nil (hK _ _ ?_)
        clear hK K
        replace hF := hF.sub _ (c_ 7 rfl (c_ 0 rfl (c_ 1 rfl (c_ 2 rfl (n_)))))
        refine W_sr rfl (fun K hK => ?_)
        refine sv hF (v_move rfl) rfl ?_; clear hF a; intro a hF
        refine sv hF (v_move rfl) rfl ?_; clear hF a; intro a hF
        refine sv hF (v_move rfl) rfl ?_; clear hF a; intro a hF
        refine sc hF rfl rfl rfl en84 rfl (rMulMod_ok B x x p _ hS.inv hx hx hp) ?_; clear hF a; intro v w' a hv hF
        obtain ⟨rfl, hS'⟩ := hv
        replace hS := hS.trans hS'
        clear hS'
        refine sv hF (v_assign rfl) rfl ?_; clear hF a; intro a hF
        refine WL_nil (hK _ _ ?_)
        clear hK K
        replace hF := hF.sub _ (c_ 0 rfl (c_ 7 rfl (c_ 1 rfl (c_ 2 rfl (n_)))))
        refine W_reg rfl (fun K hK => ?_)
        refine sv hF (v_move rfl) rfl ?_; clear hF a; intro a hF
        refine sv hF (v_quoN (n := 2) rfl rfl (by omega) (fits_u64 (by omega))) rfl ?_; clear hF a; intro a hF
        refine sv hF (v_assign rfl) rfl ?_; clear hF a; intro a hF
        refine WL_nil (hK _ _ ?_)
        clear hK K
        replace hF := hF.sub _ (c_ 1 rfl (c_ 0 rfl (c_ 7 rfl (c_ 2 rfl (n_)))))
        exact ⟨m / 2, by omega, _, _, hF.sub _ (c_ 0 rfl (c_ 1 rfl (c_ 2 rfl (c_ 7 rfl n_)))), hS, hg, mod_lt32 _ hp, by first | exact mod_lt32 _ hp | exact ho, by omega⟩
      · skip
        try simp only [decide_eq_true_eq, decide_eq_false_iff_not, Bool.not_eq_true', Bool.not_eq_false', Bool.not_true, Bool.not_false] at hc2
        rw [powB_even x p o (by omega) (by omega)] at hg
        refine W_skip ?_
        refine W_sr rfl (fun K hK => ?_)
        refine sv hF (v_move rfl) rfl ?_; clear hF a; intro a hF
        refine sv hF (v_move rfl) rfl ?_; clear hF a; intro a hF
        refine sv hF (v_move rfl) rfl ?_; clear hF a; intro a hF
        refine sc hF rfl rfl rfl en84 rfl (rMulMod_ok B x x p _ hS.inv hx hx hp) ?_; clear hF a; intro v w' a hv hF
        obtain ⟨rfl, hS'⟩ := hv
        replace hS := hS.trans hS'
        clear hS'
        refine sv hF (v_assign rfl) rfl ?_; clear hF a; intro a hF
        refine WL_nil (hK _ _ ?_)
        clear hK K
        replace hF := hF.sub _ (c_ 0 rfl (c_ 1 rfl (c_ 2 rfl (c_ 7 rfl (n_)))))
        refine W_reg rfl (fun K hK => ?_)
        refine sv hF (v_move rfl) rfl ?_; clear hF a; intro a hF
        refine sv hF (v_quoN (n := 2) rfl rfl (by omega) (fits_u64 (by omega))) rfl ?_; clear hF a; intro a hF
        refine sv hF (v_assign rfl) rfl ?_; clear hF a; intro a hF
        refine WL_nil (hK _ _ ?_)
        clear hK K
        replace hF := hF.sub _ (c_ 1 rfl (c_ 0 rfl (c_ 2 rfl (c_ 7 rfl (n_)))))
        exact ⟨m / 2, by omega, _, _, hF.sub _ (c_ 0 rfl (c_ 1 rfl (c_ 2 rfl (c_ 7 rfl n_)))), hS, hg, mod_lt32 _ hp, by first | exact mod_lt32 _ hp | exact ho, by omega⟩
    · skip
      try simp only [decide_eq_true_eq, decide_eq_false_iff_not, Bool.not_eq_true', Bool.not_eq_false', Bool.not_true, Bool.not_false] at hc1
      obtain rfl : m = 0 := by omega
      rw [powB_zero] at hg
      refine W_exit rfl ?_
      refine W_sr rfl (fun K hK => ?_)
      refine sv hF (v_move rfl) rfl ?_; clear hF a; intro a hF
      refine sv hF (v_assign rfl) rfl ?_; clear hF a; intro a hF
      refine WL_nil (hK _ _ ?_)
      clear hK K
      replace hF := hF.sub _ (c_ 6 rfl (c_ 25 rfl (c_ 0 rfl (c_ 1 rfl (c_ 2 rfl (c_ 7 rfl (n_)))))))
      refine W_ret ?_
      refine ⟨_, _, hF, rfl, ?_⟩
      exact ⟨by rw [hg], hS⟩

end Go.Proofs.YtcnlooajjnghaaaGreat

/- The walks of gambrelref02: what the document asks of a field. -/
set_option linter.unusedVariables false
set_option linter.unusedSimpArgs false
namespace Go.Proofs.YtcnlooajjnghaaaGreat
open Go Go.Gam


namespace FxFRef02
theorem en39 : Ent Tryz.prog 39 := ent Tryz.func39 (by kernel_rfl) (by kernel_rfl)
theorem en44 : Ent Tryz.prog 44 := ent Tryz.func44 (by kernel_rfl) (by kernel_rfl)
theorem en68 : Ent Tryz.prog 68 := ent Tryz.func68 (by kernel_rfl) (by kernel_rfl)
theorem en70 : Ent Tryz.prog 70 := ent Tryz.func70 (by kernel_rfl) (by kernel_rfl)
theorem en84 : Ent Tryz.prog 84 := ent Tryz.func84 (by kernel_rfl) (by kernel_rfl)
end FxFRef02
open FxFRef02

set_option maxRecDepth 100000 in
set_option maxHeartbeats 1000000 in
theorem rsize_ok (wb : Nat) (w : World) (hwb : wb ≤ 16) : Ret Tryz.prog 68 [.int .i64 (wb : Int)] w fun v w' => v = .int .i64 ((2 ^ wb : Nat) : Int) ∧ w' = w := by
  refine enter 13 [(0, .int .i64 (wb : Int))] 2 Tryz.func68 rfl rfl rfl rfl rfl ?_; intro a hF
  refine W_sr rfl (fun K hK => ?_)
  refine sv hF (v_assign rfl) rfl ?_; clear hF a; intro a hF
  refine WL_nil (hK _ _ ?_)
  clear hK K
  refine W_sr rfl (fun K hK => ?_)
  refine sv hF (v_assign rfl) rfl ?_; clear hF a; intro a hF
  refine WL_nil (hK _ _ ?_)
  clear hK K
  refine W_seq ?_
  refine W_sr rfl (fun K hK => ?_)
  refine sv hF (v_assign rfl) rfl ?_; clear hF a; intro a hF
  refine WL_nil (hK _ _ ?_)
  clear hK K
  refine W_block ?_
  refine W_loop (fun m a w1 => ∃ i : Nat, Fr 13 [(0, .int .i64 (wb : Int)), (3, .int .i64 ((2 ^ i : Nat) : Int)), (4, .int .i64 (i : Int))] a ∧ w = w1 ∧ i ≤ wb ∧ m + i = wb) (wb) ?_ ?_
  · skip
    exact ⟨0, hF.sub _ (c_ 0 rfl (c_ 3 rfl (c_ 4 rfl n_))), rfl, by omega, by omega⟩
  · skip
    clear hF
    rintro m a _ ⟨i, hF, rfl, hi, hm⟩
    refine W_seq ?_
    refine W_sr rfl (fun K hK => ?_)
    refine sv hF (v_move rfl) rfl ?_; clear hF a; intro a hF
    refine sv hF (v_move rfl) rfl ?_; clear hF a; intro a hF
    refine sv hF (v_lss rfl rfl) rfl ?_; clear hF a; intro a hF
    refine WL_nil (hK _ _ ?_)
    clear hK K
    replace hF := hF.sub _ (c_ 7 rfl (c_ 0 rfl (c_ 3 rfl (c_ 4 rfl (n_)))))
    refine W_if hF rfl (fun hc1 => ?_) (fun hc1 => ?_)
    · skip
      try simp only [decide_eq_true_eq, decide_eq_false_iff_not, Bool.not_eq_true', Bool.not_eq_false', Bool.not_true, Bool.not_false] at hc1
      refine W_skip ?_
      refine W_seq ?_
      refine W_block ?_
      have h16 := two_pow16 (d := i) (by omega)
      have hs : 2 ^ (i + 1) = 2 * 2 ^ i := by rw [Nat.pow_succ, Nat.mul_comm]
      refine W_reg rfl (fun K hK => ?_)
      refine sv hF (v_move rfl) rfl ?_; clear hF a; intro a hF
      refine sv hF ((v_mulI rfl rfl (by omega)).as (congrArg _ (show (2 : Int) * ((2 ^ i : Nat) : Int) = ((2 ^ (i + 1) : Nat) : Int) by omega))) rfl ?_; clear hF a; intro a hF
      refine sv hF (v_assign rfl) rfl ?_; clear hF a; intro a hF
      refine WL_nil (hK _ _ ?_)
      clear hK K
      replace hF := hF.sub _ (c_ 3 rfl (c_ 0 rfl (c_ 4 rfl (n_))))
      refine W_reg rfl (fun K hK => ?_)
      refine sv hF (v_move rfl) rfl ?_; clear hF a; intro a hF
      refine sv hF (v_addI rfl rfl (by omega)) rfl ?_; clear hF a; intro a hF
      refine sv hF (v_assign rfl) rfl ?_; clear hF a; intro a hF
      refine WL_nil (hK _ _ ?_)
      clear hK K
      exact ⟨m - 1, by omega, i + 1, hF.sub _ (c_ 0 rfl (c_ 3 rfl (c_ 4 rfl n_))), rfl, by omega, by omega⟩
    · skip
      try simp only [decide_eq_true_eq, decide_eq_false_iff_not, Bool.not_eq_true', Bool.not_eq_false', Bool.not_true, Bool.not_false] at hc1
      refine W_exit rfl ?_
      refine W_sr rfl (fun K hK => ?_)
      refine sv hF (v_move rfl) rfl ?_; clear hF a; intro a hF
      refine sv hF (v_assign rfl) rfl ?_; clear hF a; intro a hF
      refine WL_nil (hK _ _ ?_)
      clear hK K
      replace hF := hF.sub _ (c_ 2 rfl (c_ 12 rfl (c_ 0 rfl (c_ 3 rfl (c_ 4 rfl (n_))))))
      refine W_ret ?_
      refine ⟨_, _, hF, rfl, ?_⟩
      obtain rfl : i = wb := by omega
      exact ⟨rfl, rfl⟩

set_option maxRecDepth 100000 in
set_option maxHeartbeats 1000000 in
theorem rIn_ok (B wb p : Nat) (ia : Int) (w : World) (hI : Inv FDx B w) (hwb : wb ≤ 16) : Ret Tryz.prog 39 [.int .i64 (wb : Int), .int .i64 ia] w fun v w' => v = .bool (inF (some (wb, p)) ia) ∧ w' = w := by
  refine enter 13 [(0, .int .i64 (wb : Int)), (1, .int .i64 ia)] 4 Tryz.func39 rfl rfl rfl rfl rfl ?_; intro a hF
  refine W_sr rfl (fun K hK => ?_)
  refine sv hF (v_assign rfl) rfl ?_; clear hF a; intro a hF
  refine WL_nil (hK _ _ ?_)
  clear hK K
  refine W_sr rfl (fun K hK => ?_)
  refine sv hF (v_move rfl) rfl ?_; clear hF a; intro a hF
  refine sb hF (v_geq rfl rfl) rfl ?_ ?_
  · clear hF a; intro hc1 a hF
    try simp only [decide_eq_true_eq, decide_eq_false_iff_not, Bool.not_eq_true', Bool.not_eq_false', Bool.not_true, Bool.not_false] at hc1
    refine sv hF (v_move rfl) rfl ?_; clear hF a; intro a hF
    refine svg hF rfl ?_
    refine sv hF (v_move rfl) rfl ?_; clear hF a; intro a hF
    refine svg hF rfl ?_
    refine sv hF (v_move rfl) rfl ?_; clear hF a; intro a hF
    refine svg hF rfl ?_
    refine sc hF rfl rfl rfl en68 rfl (rsize_ok wb _ (by omega)) ?_; clear hF a; intro v w' a hv hF
    obtain ⟨rfl, rfl⟩ := hv
    skip
    refine svg hF rfl ?_
    refine sv hF (v_lss rfl rfl) rfl ?_; clear hF a; intro a hF
    refine sv hF (v_pickT rfl rfl) rfl ?_; clear hF a; intro a hF
    refine sv hF (v_assign rfl) rfl ?_; clear hF a; intro a hF
    refine WL_nil (hK _ _ ?_)
    clear hK K
    replace hF := hF.sub _ (c_ 4 rfl (n_))
    refine W_ret ?_
    refine ⟨_, _, hF, rfl, ?_⟩
    refine ⟨congrArg _ ?_, rfl⟩
    rw [Bool.eq_iff_iff, inF_some, decide_eq_true_iff]; omega
  · clear hF a; intro hc1 a hF
    try simp only [decide_eq_true_eq, decide_eq_false_iff_not, Bool.not_eq_true', Bool.not_eq_false', Bool.not_true, Bool.not_false] at hc1
    refine sv hF (v_move rfl) rfl ?_; clear hF a; intro a hF
    refine svn hF rfl rfl rfl ?_; clear hF a; intro a hF
    refine svn hF rfl rfl rfl ?_; clear hF a; intro a hF
    refine svn hF rfl rfl rfl ?_; clear hF a; intro a hF
    refine svn hF rfl rfl rfl ?_; clear hF a; intro a hF
    refine sv hF (v_pickF rfl rfl) rfl ?_; clear hF a; intro a hF
    refine sv hF (v_assign rfl) rfl ?_; clear hF a; intro a hF
    refine WL_nil (hK _ _ ?_)
    clear hK K
    replace hF := hF.sub _ (c_ 4 rfl (n_))
    refine W_ret ?_
    refine ⟨_, _, hF, rfl, ?_⟩
    refine ⟨congrArg _ (Eq.symm ?_), rfl⟩
    rw [Bool.eq_false_iff, Ne, inF_some]; omega

set_option maxRecDepth 100000 in
set_option maxHeartbeats 1000000 in
theorem rMul_gf (B wb p : Nat) (ia ib : Int) (w : World) (hI : Inv FDx B w) (hp : Prm wb p) : Ret Tryz.prog 73 [.int .i64 (wb : Int), .int .u32 (p : Int), .int .i64 ia, .int .i64 ib] w fun v w' => v = .int .i64 (gmul (some (wb, p)) ia ib) ∧ St FDx B w w' := by
  refine enter 26 [(0, .int .i64 (wb : Int)), (1, .int .u32 (p : Int)), (2, .int .i64 ia), (3, .int .i64 ib)] 8 Tryz.func73 rfl rfl rfl rfl rfl ?_; intro a hF
  have hS := St.refl hI
  have hsz := hp.size
  have hwb : wb ≤ 16 := by have := hp.w; omega
  have hplt := hp.lt
  refine W_sr rfl (fun K hK => ?_)
  refine sv hF (v_assign rfl) rfl ?_; clear hF a; intro a hF
  refine WL_nil (hK _ _ ?_)
  clear hK K
  refine W_seq ?_
  refine W_sr rfl (fun K hK => ?_)
  refine sv hF (v_move rfl) rfl ?_; clear hF a; intro a hF
  refine sv hF (v_move rfl) rfl ?_; clear hF a; intro a hF
  refine sc hF rfl rfl rfl en39 rfl (rIn_ok B wb p ia _ hS.inv (by omega)) ?_; clear hF a; intro v w' a hv hF
  obtain ⟨rfl, hw⟩ := hv
  obtain rfl := hw.symm
  have hS' := St.refl hS.inv
  replace hS := hS.trans hS'
  clear hS'
  refine sb hF (v_not rfl) rfl ?_ ?_
  · clear hF a; intro hc1 a hF
    try simp only [decide_eq_true_eq, decide_eq_false_iff_not, Bool.not_eq_true', Bool.not_eq_false', Bool.not_true, Bool.not_false] at hc1
    refine sv hF (v_move rfl) rfl ?_; clear hF a; intro a hF
    refine svn hF rfl rfl rfl ?_; clear hF a; intro a hF
    refine svn hF rfl rfl rfl ?_; clear hF a; intro a hF
    refine svn hF rfl rfl rfl ?_; clear hF a; intro a hF
    refine svn hF rfl rfl rfl ?_; clear hF a; intro a hF
    refine sv hF (v_pickT rfl rfl) rfl ?_; clear hF a; intro a hF
    refine WL_nil (hK _ _ ?_)
    clear hK K
    replace hF := hF.sub _ (c_ 18 rfl (c_ 8 rfl (c_ 1 rfl (c_ 2 rfl (c_ 3 rfl (n_))))))
    refine W_ifT hF rfl ?_
    refine W_sr rfl (fun K hK => ?_)
    refine sv hF (v_assign rfl) rfl ?_; clear hF a; intro a hF
    refine WL_nil (hK _ _ ?_)
    clear hK K
    replace hF := hF.sub _ (c_ 8 rfl (c_ 1 rfl (c_ 2 rfl (c_ 3 rfl (n_)))))
    refine W_ret ?_
    refine ⟨_, _, hF, rfl, ?_⟩
    exact ⟨by rw [gmul_out (by rw [all2, hc1]; rfl)], hS⟩
  · clear hF a; intro hc1 a hF
    try simp only [decide_eq_true_eq, decide_eq_false_iff_not, Bool.not_eq_true', Bool.not_eq_false', Bool.not_true, Bool.not_false] at hc1
    refine sv hF (v_move rfl) rfl ?_; clear hF a; intro a hF
    refine svg hF rfl ?_
    refine sv hF (v_move rfl) rfl ?_; clear hF a; intro a hF
    refine svg hF rfl ?_
    refine sv hF (v_move rfl) rfl ?_; clear hF a; intro a hF
    refine svg hF rfl ?_
    refine sc hF rfl rfl rfl en39 rfl (rIn_ok B wb p ib _ hS.inv (by omega)) ?_; clear hF a; intro v w' a hv hF
    obtain ⟨rfl, hw⟩ := hv
    obtain rfl := hw.symm
    have hS' := St.refl hS.inv
    replace hS := hS.trans hS'
    clear hS'
    refine svg hF rfl ?_
    refine sv hF (v_not rfl) rfl ?_; clear hF a; intro a hF
    refine sv hF (v_pickF rfl rfl) rfl ?_; clear hF a; intro a hF
    refine WL_nil (hK _ _ ?_)
    clear hK K
    replace hF := hF.sub _ (c_ 18 rfl (c_ 8 rfl (c_ 1 rfl (c_ 2 rfl (c_ 3 rfl (n_))))))
    refine W_if hF rfl (fun hc2 => ?_) (fun hc2 => ?_)
    · skip
      try simp only [decide_eq_true_eq, decide_eq_false_iff_not, Bool.not_eq_true', Bool.not_eq_false', Bool.not_true, Bool.not_false] at hc2
      refine W_sr rfl (fun K hK => ?_)
      refine sv hF (v_assign rfl) rfl ?_; clear hF a; intro a hF
      refine WL_nil (hK _ _ ?_)
      clear hK K
      replace hF := hF.sub _ (c_ 8 rfl (c_ 1 rfl (c_ 2 rfl (c_ 3 rfl (n_)))))
      refine W_ret ?_
      refine ⟨_, _, hF, rfl, ?_⟩
      exact ⟨by rw [gmul_out (by rw [all2, hc2]; simp)], hS⟩
    · skip
      try simp only [decide_eq_true_eq, decide_eq_false_iff_not, Bool.not_eq_true', Bool.not_eq_false', Bool.not_true, Bool.not_false] at hc2
      refine W_skip ?_
      obtain ⟨x, rfl, hx⟩ := inF_nat hc1
      obtain ⟨y, rfl, hy⟩ := inF_nat hc2
      have hml := hp.mulMod_lt x y
      refine W_sr rfl (fun K hK => ?_)
      refine sv hF (v_move rfl) rfl ?_; clear hF a; intro a hF
      refine sv hF (v_cv Tryz.underlying3 Tryz.underlying27 rfl (wrap_u32 _ (by omega))) rfl ?_; clear hF a; intro a hF
      refine sv hF (v_move rfl) rfl ?_; clear hF a; intro a hF
      refine sv hF (v_cv Tryz.underlying3 Tryz.underlying27 rfl (wrap_u32 _ (by omega))) rfl ?_; clear hF a; intro a hF
      refine sv hF (v_move rfl) rfl ?_; clear hF a; intro a hF
      refine sc hF rfl rfl rfl en84 rfl (rMulMod_ok B x y p _ hS.inv (by omega) (by omega) (by omega)) ?_; clear hF a; intro v w' a hv hF
      obtain ⟨rfl, hS'⟩ := hv
      replace hS := hS.trans hS'
      clear hS'
      refine sv hF (v_cv Tryz.underlying27 Tryz.underlying3 rfl (wrap_i64 _ (by omega))) rfl ?_; clear hF a; intro a hF
      refine sv hF (v_assign rfl) rfl ?_; clear hF a; intro a hF
      refine WL_nil (hK _ _ ?_)
      clear hK K
      replace hF := hF.sub _ (c_ 8 rfl (n_))
      refine W_ret ?_
      refine ⟨_, _, hF, rfl, ?_⟩
      exact ⟨by rw [gmul_in hx hy], hS⟩

set_option maxRecDepth 100000 in
set_option maxHeartbeats 1000000 in
theorem rPow_gf (B wb p : Nat) (ia n : Int) (w : World) (hI : Inv FDx B w) (hp : Prm wb p) (hn : -9223372036854775808 ≤ n ∧ n < 9223372036854775808) : Ret Tryz.prog 44 [.int .i64 (wb : Int), .int .u32 (p : Int), .int .i64 ia, .int .i64 n] w fun v w' => v = .int .i64 (gpow (some (wb, p)) ia n) ∧ St FDx B w w' := by
  refine enter 24 [(0, .int .i64 (wb : Int)), (1, .int .u32 (p : Int)), (2, .int .i64 ia), (3, .int .i64 n)] 8 Tryz.func44 rfl rfl rfl rfl rfl ?_; intro a hF
  have hS := St.refl hI
  have hsz := hp.size
  have hwb : wb ≤ 16 := by have := hp.w; omega
  have hplt := hp.lt
  refine W_sr rfl (fun K hK => ?_)
  refine sv hF (v_assign rfl) rfl ?_; clear hF a; intro a hF
  refine WL_nil (hK _ _ ?_)
  clear hK K
  refine W_seq ?_
  refine W_sr rfl (fun K hK => ?_)
  refine sv hF (v_move rfl) rfl ?_; clear hF a; intro a hF
  refine sv hF (v_move rfl) rfl ?_; clear hF a; intro a hF
  refine sc hF rfl rfl rfl en39 rfl (rIn_ok B wb p ia _ hS.inv (by omega)) ?_; clear hF a; intro v w' a hv hF
  obtain ⟨rfl, hw⟩ := hv
  obtain rfl := hw.symm
  have hS' := St.refl hS.inv
  replace hS := hS.trans hS'
  clear hS'
  refine sb hF (v_not rfl) rfl ?_ ?_
  · clear hF a; intro hc1 a hF
    try simp only [decide_eq_true_eq, decide_eq_false_iff_not, Bool.not_eq_true', Bool.not_eq_false', Bool.not_true, Bool.not_false] at hc1
    refine sv hF (v_move rfl) rfl ?_; clear hF a; intro a hF
    refine svn hF rfl rfl rfl ?_; clear hF a; intro a hF
    refine svn hF rfl rfl rfl ?_; clear hF a; intro a hF
    refine sv hF (v_pickT rfl rfl) rfl ?_; clear hF a; intro a hF
    refine WL_nil (hK _ _ ?_)
    clear hK K
    replace hF := hF.sub _ (c_ 16 rfl (c_ 8 rfl (c_ 1 rfl (c_ 2 rfl (c_ 3 rfl (n_))))))
    refine W_ifT hF rfl ?_
    refine W_sr rfl (fun K hK => ?_)
    refine sv hF (v_assign rfl) rfl ?_; clear hF a; intro a hF
    refine WL_nil (hK _ _ ?_)
    clear hK K
    replace hF := hF.sub _ (c_ 8 rfl (c_ 1 rfl (c_ 2 rfl (c_ 3 rfl (n_)))))
    refine W_ret ?_
    refine ⟨_, _, hF, rfl, ?_⟩
    exact ⟨by rw [gpow_out (.inl hc1)], hS⟩
  · clear hF a; intro hc1 a hF
    try simp only [decide_eq_true_eq, decide_eq_false_iff_not, Bool.not_eq_true', Bool.not_eq_false', Bool.not_true, Bool.not_false] at hc1
    refine sv hF (v_move rfl) rfl ?_; clear hF a; intro a hF
    refine svg hF rfl ?_
    refine sv hF (v_move rfl) rfl ?_; clear hF a; intro a hF
    refine svg hF rfl ?_
    refine sv hF (v_lss rfl rfl) rfl ?_; clear hF a; intro a hF
    refine sv hF (v_pickF rfl rfl) rfl ?_; clear hF a; intro a hF
    refine WL_nil (hK _ _ ?_)
    clear hK K
    replace hF := hF.sub _ (c_ 16 rfl (c_ 8 rfl (c_ 1 rfl (c_ 2 rfl (c_ 3 rfl (n_))))))
    refine W_if hF rfl (fun hc2 => ?_) (fun hc2 => ?_)
    · skip
      try simp only [decide_eq_true_eq, decide_eq_false_iff_not, Bool.not_eq_true', Bool.not_eq_false', Bool.not_true, Bool.not_false] at hc2
      refine W_sr rfl (fun K hK => ?_)
      refine sv hF (v_assign rfl) rfl ?_; clear hF a; intro a hF
      refine WL_nil (hK _ _ ?_)
      clear hK K
      replace hF := hF.sub _ (c_ 8 rfl (c_ 1 rfl (c_ 2 rfl (c_ 3 rfl (n_)))))
      refine W_ret ?_
      refine ⟨_, _, hF, rfl, ?_⟩
      exact ⟨by rw [gpow_out (.inr (by omega))], hS⟩
    · skip
      try simp only [decide_eq_true_eq, decide_eq_false_iff_not, Bool.not_eq_true', Bool.not_eq_false', Bool.not_true, Bool.not_false] at hc2
      refine W_skip ?_
      obtain ⟨x, rfl, hx⟩ := inF_nat hc1
      obtain ⟨m, rfl⟩ : ∃ m : Nat, n = (m : Int) := ⟨n.toNat, by omega⟩
      have hml := hp.pow_lt x m
      refine W_sr rfl (fun K hK => ?_)
      refine sv hF (v_move rfl) rfl ?_; clear hF a; intro a hF
      refine sv hF (v_cv Tryz.underlying3 Tryz.underlying27 rfl (wrap_u32 _ (by omega))) rfl ?_; clear hF a; intro a hF
      refine sv hF (v_move rfl) rfl ?_; clear hF a; intro a hF
      refine sv hF (v_cv Tryz.underlying3 Tryz.underlying75 rfl (wrap_u64 _ (by omega))) rfl ?_; clear hF a; intro a hF
      refine sv hF (v_move rfl) rfl ?_; clear hF a; intro a hF
      refine sc hF rfl rfl rfl en70 rfl (rPower_ok B x m p _ hS.inv (by omega) (by omega) (by omega)) ?_; clear hF a; intro v w' a hv hF
      obtain ⟨rfl, hS'⟩ := hv
      replace hS := hS.trans hS'
      clear hS'
      rw [powB_one] at hF
      refine sv hF (v_cv Tryz.underlying27 Tryz.underlying3 rfl (wrap_i64 _ (by omega))) rfl ?_; clear hF a; intro a hF
      refine sv hF (v_assign rfl) rfl ?_; clear hF a; intro a hF
      refine WL_nil (hK _ _ ?_)
      clear hK K
      replace hF := hF.sub _ (c_ 8 rfl (n_))
      refine W_ret ?_
      refine ⟨_, _, hF, rfl, ?_⟩
      exact ⟨by rw [gpow_in hx], hS⟩

set_option maxRecDepth 100000 in
set_option maxHeartbeats 1000000 in
theorem rInv_gf (B wb p : Nat) (ia : Int) (w : World) (hI : Inv FDx B w) (hp : Prm wb p) : Ret Tryz.prog 61 [.int .i64 (wb : Int), .int .u32 (p : Int), .int .i64 ia] w fun v w' => v = .tuple #[.int .i64 (ginv (some (wb, p)) ia), .bool (ginvb (some (wb, p)) ia)] ∧ St FDx B w w' := by
  refine enter2 23 [(0, .int .i64 (wb : Int)), (1, .int .u32 (p : Int)), (2, .int .i64 ia)] 6 7 Tryz.func61 rfl rfl rfl rfl rfl ?_; intro a hF
  have hS := St.refl hI
  have hsz := hp.size
  have hwb : wb ≤ 16 := by have := hp.w; omega
  have hplt := hp.lt
  refine W_sr rfl (fun K hK => ?_)
  refine sv hF (v_assign rfl) rfl ?_; clear hF a; intro a hF
  refine sv hF (v_assign rfl) rfl ?_; clear hF a; intro a hF
  refine WL_nil (hK _ _ ?_)
  clear hK K
  refine W_seq ?_
  refine W_sr rfl (fun K hK => ?_)
  refine sv hF (v_move rfl) rfl ?_; clear hF a; intro a hF
  refine sv hF (v_move rfl) rfl ?_; clear hF a; intro a hF
  refine sc hF rfl rfl rfl en39 rfl (rIn_ok B wb p ia _ hS.inv (by omega)) ?_; clear hF a; intro v w' a hv hF
  obtain ⟨rfl, hw⟩ := hv
  obtain rfl := hw.symm
  have hS' := St.refl hS.inv
  replace hS := hS.trans hS'
  clear hS'
  refine sb hF (v_not rfl) rfl ?_ ?_
  · clear hF a; intro hc1 a hF
    try simp only [decide_eq_true_eq, decide_eq_false_iff_not, Bool.not_eq_true', Bool.not_eq_false', Bool.not_true, Bool.not_false] at hc1
    refine sv hF (v_move rfl) rfl ?_; clear hF a; intro a hF
    refine svn hF rfl rfl rfl ?_; clear hF a; intro a hF
    refine svn hF rfl rfl rfl ?_; clear hF a; intro a hF
    refine sv hF (v_pickT rfl rfl) rfl ?_; clear hF a; intro a hF
    refine WL_nil (hK _ _ ?_)
    clear hK K
    replace hF := hF.sub _ (c_ 15 rfl (c_ 7 rfl (c_ 6 rfl (c_ 0 rfl (c_ 1 rfl (c_ 2 rfl (n_)))))))
    refine W_ifT hF rfl ?_
    refine W_sr rfl (fun K hK => ?_)
    refine sv hF (v_assign rfl) rfl ?_; clear hF a; intro a hF
    refine sv hF (v_assign rfl) rfl ?_; clear hF a; intro a hF
    refine WL_nil (hK _ _ ?_)
    clear hK K
    replace hF := hF.sub _ (c_ 7 rfl (c_ 6 rfl (c_ 0 rfl (c_ 1 rfl (c_ 2 rfl (n_))))))
    refine W_ret ?_
    refine ⟨_, _, _, hF, rfl, rfl, ?_⟩
    exact ⟨by rw [ginv_out (.inl hc1), ginvb_out (.inl hc1)], hS⟩
  · clear hF a; intro hc1 a hF
    try simp only [decide_eq_true_eq, decide_eq_false_iff_not, Bool.not_eq_true', Bool.not_eq_false', Bool.not_true, Bool.not_false] at hc1
    refine sv hF (v_move rfl) rfl ?_; clear hF a; intro a hF
    refine svg hF rfl ?_
    refine sv hF (v_move rfl) rfl ?_; clear hF a; intro a hF
    refine svg hF rfl ?_
    refine sv hF (v_eql rfl rfl) rfl ?_; clear hF a; intro a hF
    refine sv hF (v_pickF rfl rfl) rfl ?_; clear hF a; intro a hF
    refine WL_nil (hK _ _ ?_)
    clear hK K
    replace hF := hF.sub _ (c_ 15 rfl (c_ 7 rfl (c_ 6 rfl (c_ 0 rfl (c_ 1 rfl (c_ 2 rfl (n_)))))))
    refine W_if hF rfl (fun hc2 => ?_) (fun hc2 => ?_)
    · skip
      try simp only [decide_eq_true_eq, decide_eq_false_iff_not, Bool.not_eq_true', Bool.not_eq_false', Bool.not_true, Bool.not_false] at hc2
      refine W_sr rfl (fun K hK => ?_)
      refine sv hF (v_assign rfl) rfl ?_; clear hF a; intro a hF
      refine sv hF (v_assign rfl) rfl ?_; clear hF a; intro a hF
      refine WL_nil (hK _ _ ?_)
      clear hK K
      replace hF := hF.sub _ (c_ 7 rfl (c_ 6 rfl (c_ 0 rfl (c_ 1 rfl (c_ 2 rfl (n_))))))
      refine W_ret ?_
      refine ⟨_, _, _, hF, rfl, rfl, ?_⟩
      exact ⟨by rw [ginv_out (.inr (by omega)), ginvb_out (.inr (by omega))], hS⟩
    · skip
      try simp only [decide_eq_true_eq, decide_eq_false_iff_not, Bool.not_eq_true', Bool.not_eq_false', Bool.not_true, Bool.not_false] at hc2
      refine W_skip ?_
      refine W_sr rfl (fun K hK => ?_)
      refine sv hF (v_move rfl) rfl ?_; clear hF a; intro a hF
      refine sv hF (v_move rfl) rfl ?_; clear hF a; intro a hF
      refine sv hF (v_move rfl) rfl ?_; clear hF a; intro a hF
      refine sv hF (v_move rfl) rfl ?_; clear hF a; intro a hF
      refine sc hF rfl rfl rfl en68 rfl (rsize_ok wb _ (by omega)) ?_; clear hF a; intro v w' a hv hF
      obtain ⟨rfl, hw⟩ := hv
      obtain rfl := hw.symm
      have hS' := St.refl hS.inv
      replace hS := hS.trans hS'
      clear hS'
      refine sv hF (v_subI rfl rfl (by omega)) rfl ?_; clear hF a; intro a hF
      refine sc hF rfl rfl rfl en44 rfl (rPow_gf B wb p ia _ _ hS.inv hp (by omega)) ?_; clear hF a; intro v w' a hv hF
      obtain ⟨rfl, hS'⟩ := hv
      replace hS := hS.trans hS'
      clear hS'
      refine sv hF (v_assign rfl) rfl ?_; clear hF a; intro a hF
      refine sv hF (v_assign rfl) rfl ?_; clear hF a; intro a hF
      refine WL_nil (hK _ _ ?_)
      clear hK K
      replace hF := hF.sub _ (c_ 7 rfl (c_ 6 rfl (n_)))
      refine W_ret ?_
      refine ⟨_, _, _, hF, rfl, rfl, ?_⟩
      exact ⟨by rw [ginv_in hc1 (by omega), ginvb_in hc1 (by omega)]; rfl, hS⟩

set_option maxRecDepth 100000 in
set_option maxHeartbeats 1000000 in
theorem rExp_gf (B wb p : Nat) (n : Int) (w : World) (hI : Inv FDx B w) (hp : Prm wb p) (hn : -9223372036854775808 ≤ n ∧ n < 9223372036854775808) : Ret Tryz.prog 50 [.int .i64 (wb : Int), .int .u32 (p : Int), .int .i64 n] w fun v w' => v = .int .i64 (gexp (some (wb, p)) n) ∧ St FDx B w w' := by
  refine enter 23 [(0, .int .i64 (wb : Int)), (1, .int .u32 (p : Int)), (2, .int .i64 n)] 6 Tryz.func50 rfl rfl rfl rfl rfl ?_; intro a hF
  have hS := St.refl hI
  have hsz := hp.size
  have hwb : wb ≤ 16 := by have := hp.w; omega
  have hplt := hp.lt
  have horder := hp.order
  have htm := tmod_bd n (m := 2 ^ wb - 1) (by omega)
  have hidx := exp_index n (m := 2 ^ wb - 1) (by omega)
  refine W_sr rfl (fun K hK => ?_)
  refine sv hF (v_assign rfl) rfl ?_; clear hF a; intro a hF
  refine WL_nil (hK _ _ ?_)
  clear hK K
  refine W_sr rfl (fun K hK => ?_)
  refine sv hF (v_move rfl) rfl ?_; clear hF a; intro a hF
  refine sc hF rfl rfl rfl en68 rfl (rsize_ok wb _ (by omega)) ?_; clear hF a; intro v w' a hv hF
  obtain ⟨rfl, hw⟩ := hv
  obtain rfl := hw.symm
  have hS' := St.refl hS.inv
  replace hS := hS.trans hS'
  clear hS'
  refine sv hF (v_subN (m := 2 ^ wb) (n := 1) rfl rfl (by omega) (by omega)) rfl ?_; clear hF a; intro a hF
  refine sv hF (v_assign rfl) rfl ?_; clear hF a; intro a hF
  refine WL_nil (hK _ _ ?_)
  clear hK K
  replace hF := hF.sub _ (c_ 7 rfl (c_ 6 rfl (c_ 0 rfl (c_ 1 rfl (c_ 2 rfl (n_))))))
  refine W_sr rfl (fun K hK => ?_)
  refine sv hF (v_move rfl) rfl ?_; clear hF a; intro a hF
  refine sv hF (v_move rfl) rfl ?_; clear hF a; intro a hF
  refine sv hF (v_rem rfl rfl (by omega)) rfl ?_; clear hF a; intro a hF
  refine sv hF (v_assign rfl) rfl ?_; clear hF a; intro a hF
  refine WL_nil (hK _ _ ?_)
  clear hK K
  replace hF := hF.sub _ (c_ 2 rfl (c_ 7 rfl (c_ 6 rfl (c_ 0 rfl (c_ 1 rfl (n_))))))
  refine W_seq ?_
  refine W_sr rfl (fun K hK => ?_)
  refine sv hF (v_move rfl) rfl ?_; clear hF a; intro a hF
  refine sv hF (v_lss rfl rfl) rfl ?_; clear hF a; intro a hF
  refine WL_nil (hK _ _ ?_)
  clear hK K
  replace hF := hF.sub _ (c_ 15 rfl (c_ 2 rfl (c_ 7 rfl (c_ 6 rfl (c_ 0 rfl (c_ 1 rfl (n_)))))))
  refine W_if hF rfl (fun hc1 => ?_) (fun hc1 => ?_)
  · skip
    try simp only [decide_eq_true_eq, decide_eq_false_iff_not, Bool.not_eq_true', Bool.not_eq_false', Bool.not_true, Bool.not_false] at hc1
    rw [Int.emod_eq_of_lt (by omega) (by omega)] at hidx
    refine W_reg rfl (fun K hK => ?_)
    refine sv hF (v_move rfl) rfl ?_; clear hF a; intro a hF
    refine sv hF (v_move rfl) rfl ?_; clear hF a; intro a hF
    refine sv hF (v_addI rfl rfl (by omega)) rfl ?_; clear hF a; intro a hF
    refine sv hF (v_assign rfl) rfl ?_; clear hF a; intro a hF
    refine WL_nil (hK _ _ ?_)
    clear hK K
    replace hF := hF.sub _ (c_ 2 rfl (c_ 6 rfl (c_ 0 rfl (c_ 1 rfl (n_)))))
    rw [hidx] at hF
    obtain ⟨i, hi⟩ : ∃ i : Nat, n % ((2 ^ wb - 1 : Nat) : Int) = (i : Int) := ⟨(n % ((2 ^ wb - 1 : Nat) : Int)).toNat, by have := Int.emod_nonneg n (show ((2 ^ wb - 1 : Nat) : Int) ≠ 0 by omega); omega⟩
    rw [hi] at hF
    have hi2 := Int.emod_lt_of_pos n (show (0 : Int) < ((2 ^ wb - 1 : Nat) : Int) by omega)
    rw [hi] at hi2
    refine W_sr rfl (fun K hK => ?_)
    refine sv hF (v_move rfl) rfl ?_; clear hF a; intro a hF
    refine sv hF (v_move rfl) rfl ?_; clear hF a; intro a hF
    refine sv hF (v_move rfl) rfl ?_; clear hF a; intro a hF
    refine sc hF rfl rfl rfl en44 rfl (rPow_gf B wb p 2 _ _ hS.inv hp (by omega)) ?_; clear hF a; intro v w' a hv hF
    obtain ⟨rfl, hS'⟩ := hv
    replace hS := hS.trans hS'
    clear hS'
    refine sv hF (v_assign rfl) rfl ?_; clear hF a; intro a hF
    refine WL_nil (hK _ _ ?_)
    clear hK K
    replace hF := hF.sub _ (c_ 6 rfl (n_))
    refine W_ret ?_
    refine ⟨_, _, hF, rfl, ?_⟩
    refine ⟨?_, hS⟩
    rw [show (2 : Int) = ((2 : Nat) : Int) from rfl, gpow_in (by omega), hp.pw_x]
    rw [show gexp (some (wb, p)) n = (Px.pw p (n % ((2 ^ wb - 1 : Nat) : Int)).toNat : Int) from rfl, hi]; rfl
  · skip
    try simp only [decide_eq_true_eq, decide_eq_false_iff_not, Bool.not_eq_true', Bool.not_eq_false', Bool.not_true, Bool.not_false] at hc1
    rw [Int.add_emod_right, Int.emod_eq_of_lt (by omega) (by omega)] at hidx
    refine W_skip ?_
    rw [hidx] at hF
    obtain ⟨i, hi⟩ : ∃ i : Nat, n % ((2 ^ wb - 1 : Nat) : Int) = (i : Int) := ⟨(n % ((2 ^ wb - 1 : Nat) : Int)).toNat, by have := Int.emod_nonneg n (show ((2 ^ wb - 1 : Nat) : Int) ≠ 0 by omega); omega⟩
    rw [hi] at hF
    have hi2 := Int.emod_lt_of_pos n (show (0 : Int) < ((2 ^ wb - 1 : Nat) : Int) by omega)
    rw [hi] at hi2
    refine W_sr rfl (fun K hK => ?_)
    refine sv hF (v_move rfl) rfl ?_; clear hF a; intro a hF
    refine sv hF (v_move rfl) rfl ?_; clear hF a; intro a hF
    refine sv hF (v_move rfl) rfl ?_; clear hF a; intro a hF
    refine sc hF rfl rfl rfl en44 rfl (rPow_gf B wb p 2 _ _ hS.inv hp (by omega)) ?_; clear hF a; intro v w' a hv hF
    obtain ⟨rfl, hS'⟩ := hv
    replace hS := hS.trans hS'
    clear hS'
    refine sv hF (v_assign rfl) rfl ?_; clear hF a; intro a hF
    refine WL_nil (hK _ _ ?_)
    clear hK K
    replace hF := hF.sub _ (c_ 6 rfl (n_))
    refine W_ret ?_
    refine ⟨_, _, hF, rfl, ?_⟩
    refine ⟨?_, hS⟩
    rw [show (2 : Int) = ((2 : Nat) : Int) from rfl, gpow_in (by omega), hp.pw_x]
    rw [show gexp (some (wb, p)) n = (Px.pw p (n % ((2 ^ wb - 1 : Nat) : Int)).toNat : Int) from rfl, hi]; rfl

noncomputable def knownB (W : Int) (p : Nat) : Bool := (newF W p).isSome

end Go.Proofs.YtcnlooajjnghaaaGreat
