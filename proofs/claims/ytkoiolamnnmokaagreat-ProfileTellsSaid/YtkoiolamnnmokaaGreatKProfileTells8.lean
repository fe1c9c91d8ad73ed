/- Texts of the claim ProfileTells (part 8), put together in the order of their imports. -/
import Derived.Test.YtkoiolamnnmokaaGreatKProfileTells7
import Derived.Laws.Tables
import Derived.Laws.BytesString
import Derived.MapKept
import Derived.Laws.StructEq
/- The walks of package vander. -/
set_option linter.unusedVariables false
set_option linter.unusedSimpArgs false
namespace Go.Proofs.YtkoiolamnnmokaaGreat
open Go Go.Gam
namespace FxFVan
theorem en23 : Ent Tryz.prog 23 := ent Tryz.func23 (by kernel_rfl) (by kernel_rfl)
theorem en55 : Ent Tryz.prog 55 := ent Tryz.func55 (by kernel_rfl) (by kernel_rfl)
theorem en56 : Ent Tryz.prog 56 := ent Tryz.func56 (by kernel_rfl) (by kernel_rfl)
theorem en58 : Ent Tryz.prog 58 := ent Tryz.func58 (by kernel_rfl) (by kernel_rfl)
theorem en86 : Ent Tryz.prog 86 := ent Tryz.func86 (by kernel_rfl) (by kernel_rfl)
theorem en87 : Ent Tryz.prog 87 := ent Tryz.func87 (by kernel_rfl) (by kernel_rfl)
theorem hmix : Tryz.prog.follows .mixedOrders = true := by kernel_rfl
theorem sc42 : Scalar Tryz.prog 42 := ⟨_, Tryz.underlying42, by simp, by simp⟩
theorem sl36 : Sl Tryz.prog 36 53 (.slice none 0 0) 24 := sl_of Tryz.underlying36 rfl (by kernel_rfl)
theorem sl53 : Sl Tryz.prog 53 3 (.int .i64 0) 8 := sl_of Tryz.underlying53 rfl (by kernel_rfl)
end FxFVan
open FxFVan
theorem Inverse_n (B M wb p : Nat) (hp : Prm wb p) (fv : Value) (pmt : Option Addr) (cmt n : Nat) (mt : Mtx) (w : World) (hI : Inv FDx B w) (hM : M ≤ w.heap.size) (hf : Fo FDx B w fv (some (wb, p))) (hA : Mat FDx B M w pmt cmt mt) (hl : mt.length ≤ maxLen) (hb : ∀ r ∈ mt, r.length ≤ maxLen) (hn : mt.length = n) :
  Ret Tryz.prog 23 [fv, .slice pmt n cmt] w fun v w' => ∃ ob u, v = .tuple #[u, .int .i64 (invR hp mt).1] ∧ MOwn FDx B w.heap.size 0 w'.heap.size w' 53 u ob (invR hp mt).2 ∧ St FDx B w w' := by
 subst hn; exact Inverse_ok B M wb p hp fv pmt cmt mt w hI hM hf hA hl hb
set_option maxRecDepth 100000 in
set_option maxHeartbeats 1000000 in
theorem fits_ok (B : Nat) (o : Fq) (fv : Value) (k m : Int) (w : World) (hf : Fo FDx B w fv o) : Ret Tryz.prog 55 [fv, .int .i64 k, .int .i64 m] w fun v w' => v = .bool (fitB o k m) ∧ w' = w := by
 refine enter 31 [(0, fv), (1, .int .i64 k), (2, .int .i64 m)] 6 Tryz.func55 rfl rfl rfl rfl rfl ?_; intro a hF
 obtain ⟨pa_, rfl, hpa⟩ := hf.ptr
 refine W_sr rfl fun K hK => ?_
 refine svw hK hF (v_assign rfl) rfl ?_; clear hF a hK K; intro a hF
 refine W_sr rfl fun K hK => ?_
 refine sv hF (v_move rfl) rfl ?_; clear hF a; intro a hF
 refine sb hF (v_neqNil (by exact Tryz.underlying42) rfl rfl) rfl ?_ ?_
 ·
  clear hF a; intro hc1 a hF
  try simp only [dcl] at hc1
  refine sv hF (v_move rfl) rfl ?_; clear hF a; intro a hF
  refine svg hF rfl ?_
  refine sv hF (v_move rfl) rfl ?_; clear hF a; intro a hF
  refine svg hF rfl ?_
  refine sb hF (v_geq rfl rfl) rfl ?_ ?_
  ·
   clear hF a; intro hc2 a hF
   try simp only [dcl] at hc2
   refine sv2 hF (v_pickT rfl rfl) (v_move rfl) rfl rfl ?_; clear hF a; intro a hF
   refine svg hF rfl ?_
   refine sv hF (v_move rfl) rfl ?_; clear hF a; intro a hF
   refine svg hF rfl ?_
   refine sb hF (v_geq rfl rfl) rfl ?_ ?_
   ·
    clear hF a; intro hc3 a hF
    try simp only [dcl] at hc3
    refine sv2 hF (v_pickT rfl rfl) (v_move rfl) rfl rfl ?_; clear hF a; intro a hF
    refine svg hF rfl ?_
    refine sv hF (v_move rfl) rfl ?_; clear hF a; intro a hF
    refine svg hF rfl ?_
    refine sb hF (v_lss rfl rfl) rfl ?_ ?_
    ·
     clear hF a; intro hc4 a hF
     try simp only [dcl] at hc4
     refine sv2 hF (v_pickT rfl rfl) (v_move rfl) rfl rfl ?_; clear hF a; intro a hF
     refine svg hF rfl ?_
     refine sv hF (v_move rfl) rfl ?_; clear hF a; intro a hF
     refine svg hF rfl ?_
     refine sb hF (v_lss rfl rfl) rfl ?_ ?_
     ·
      clear hF a; intro hc5 a hF
      try simp only [dcl] at hc5
      refine sv2 hF (v_pickT rfl rfl) (v_move rfl) rfl rfl ?_; clear hF a; intro a hF
      refine svg hF rfl ?_
      refine sv hF (v_move rfl) rfl ?_; clear hF a; intro a hF
      refine svg hF rfl ?_
      refine sv hF (v_move rfl) rfl ?_; clear hF a; intro a hF
      refine svg hF rfl ?_
      refine sv hF (v_addI rfl rfl (by omega)) rfl ?_; clear hF a; intro a hF
      refine svg hF rfl ?_
      refine sv3w hK hF (v_leq rfl rfl) (v_pickT rfl rfl) (v_assign rfl) rfl rfl rfl ?_; clear hF a hK K; intro a hF
      replace hF := hF.sub _ (c_ 6 rfl (n_))
      refine W_ret ?_
      refine ⟨_, _, hF, rfl, ?_⟩
      refine ⟨congrArg Value.bool ?_, rfl⟩
      unfold fitB
      rw [← hpa]
      cases pa_ <;> first | (exfalso; simp_all; done) | (simp only [Option.isSome_some, Option.isSome_none, Bool.true_and, Bool.false_and]; done) | (simp only [Option.isSome_some, Bool.true_and]; first | (symm; rw [decide_eq_false_iff_not]; omega) | (rw [decide_eq_decide]; omega))
     ·
      clear hF a; intro hc5 a hF
      try simp only [dcl] at hc5
      refine sv2 hF (v_pickT rfl rfl) (v_move rfl) rfl rfl ?_; clear hF a; intro a hF
      refine svn4 hF rfl rfl rfl rfl rfl rfl rfl rfl rfl rfl rfl rfl ?_; clear hF a; intro a hF
      refine sv2w hK hF (v_pickF rfl rfl) (v_assign rfl) rfl rfl ?_; clear hF a hK K; intro a hF
      replace hF := hF.sub _ (c_ 6 rfl (n_))
      refine W_ret ?_
      refine ⟨_, _, hF, rfl, ?_⟩
      refine ⟨congrArg Value.bool ?_, rfl⟩
      unfold fitB
      rw [← hpa]
      cases pa_ <;> first | (exfalso; simp_all; done) | (simp only [Option.isSome_some, Option.isSome_none, Bool.true_and, Bool.false_and]; done) | (simp only [Option.isSome_some, Bool.true_and]; first | (symm; rw [decide_eq_false_iff_not]; omega) | (rw [decide_eq_decide]; omega))
    ·
     clear hF a; intro hc4 a hF
     try simp only [dcl] at hc4
     refine sv2 hF (v_pickT rfl rfl) (v_move rfl) rfl rfl ?_; clear hF a; intro a hF
     refine svn2 hF rfl rfl rfl rfl rfl rfl ?_; clear hF a; intro a hF
     refine sv2 hF (v_pickF rfl rfl) (v_move rfl) rfl rfl ?_; clear hF a; intro a hF
     refine svn4 hF rfl rfl rfl rfl rfl rfl rfl rfl rfl rfl rfl rfl ?_; clear hF a; intro a hF
     refine sv2w hK hF (v_pickF rfl rfl) (v_assign rfl) rfl rfl ?_; clear hF a hK K; intro a hF
     replace hF := hF.sub _ (c_ 6 rfl (n_))
     refine W_ret ?_
     refine ⟨_, _, hF, rfl, ?_⟩
     refine ⟨congrArg Value.bool ?_, rfl⟩
     unfold fitB
     rw [← hpa]
     cases pa_ <;> first | (exfalso; simp_all; done) | (simp only [Option.isSome_some, Option.isSome_none, Bool.true_and, Bool.false_and]; done) | (simp only [Option.isSome_some, Bool.true_and]; first | (symm; rw [decide_eq_false_iff_not]; omega) | (rw [decide_eq_decide]; omega))
   ·
    clear hF a; intro hc3 a hF
    try simp only [dcl] at hc3
    refine sv2 hF (v_pickT rfl rfl) (v_move rfl) rfl rfl ?_; clear hF a; intro a hF
    refine svn2 hF rfl rfl rfl rfl rfl rfl ?_; clear hF a; intro a hF
    refine sv2 hF (v_pickF rfl rfl) (v_move rfl) rfl rfl ?_; clear hF a; intro a hF
    refine svn2 hF rfl rfl rfl rfl rfl rfl ?_; clear hF a; intro a hF
    refine sv2 hF (v_pickF rfl rfl) (v_move rfl) rfl rfl ?_; clear hF a; intro a hF
    refine svn4 hF rfl rfl rfl rfl rfl rfl rfl rfl rfl rfl rfl rfl ?_; clear hF a; intro a hF
    refine sv2w hK hF (v_pickF rfl rfl) (v_assign rfl) rfl rfl ?_; clear hF a hK K; intro a hF
    replace hF := hF.sub _ (c_ 6 rfl (n_))
    refine W_ret ?_
    refine ⟨_, _, hF, rfl, ?_⟩
    refine ⟨congrArg Value.bool ?_, rfl⟩
    unfold fitB
    rw [← hpa]
    cases pa_ <;> first | (exfalso; simp_all; done) | (simp only [Option.isSome_some, Option.isSome_none, Bool.true_and, Bool.false_and]; done) | (simp only [Option.isSome_some, Bool.true_and]; first | (symm; rw [decide_eq_false_iff_not]; omega) | (rw [decide_eq_decide]; omega))
  ·
   clear hF a; intro hc2 a hF
   try simp only [dcl] at hc2
   refine sv2 hF (v_pickT rfl rfl) (v_move rfl) rfl rfl ?_; clear hF a; intro a hF
   refine svn2 hF rfl rfl rfl rfl rfl rfl ?_; clear hF a; intro a hF
   refine sv2 hF (v_pickF rfl rfl) (v_move rfl) rfl rfl ?_; clear hF a; intro a hF
   refine svn2 hF rfl rfl rfl rfl rfl rfl ?_; clear hF a; intro a hF
   refine sv2 hF (v_pickF rfl rfl) (v_move rfl) rfl rfl ?_; clear hF a; intro a hF
   refine svn2 hF rfl rfl rfl rfl rfl rfl ?_; clear hF a; intro a hF
   refine sv2 hF (v_pickF rfl rfl) (v_move rfl) rfl rfl ?_; clear hF a; intro a hF
   refine svn4 hF rfl rfl rfl rfl rfl rfl rfl rfl rfl rfl rfl rfl ?_; clear hF a; intro a hF
   refine sv2w hK hF (v_pickF rfl rfl) (v_assign rfl) rfl rfl ?_; clear hF a hK K; intro a hF
   replace hF := hF.sub _ (c_ 6 rfl (n_))
   refine W_ret ?_
   refine ⟨_, _, hF, rfl, ?_⟩
   refine ⟨congrArg Value.bool ?_, rfl⟩
   unfold fitB
   rw [← hpa]
   cases pa_ <;> first | (exfalso; simp_all; done) | (simp only [Option.isSome_some, Option.isSome_none, Bool.true_and, Bool.false_and]; done) | (simp only [Option.isSome_some, Bool.true_and]; first | (symm; rw [decide_eq_false_iff_not]; omega) | (rw [decide_eq_decide]; omega))
 ·
  clear hF a; intro hc1 a hF
  try simp only [dcl] at hc1
  refine sv hF (v_move rfl) rfl ?_; clear hF a; intro a hF
  refine svn2 hF rfl rfl rfl rfl rfl rfl ?_; clear hF a; intro a hF
  refine sv2 hF (v_pickF rfl rfl) (v_move rfl) rfl rfl ?_; clear hF a; intro a hF
  refine svn2 hF rfl rfl rfl rfl rfl rfl ?_; clear hF a; intro a hF
  refine sv2 hF (v_pickF rfl rfl) (v_move rfl) rfl rfl ?_; clear hF a; intro a hF
  refine svn2 hF rfl rfl rfl rfl rfl rfl ?_; clear hF a; intro a hF
  refine sv2 hF (v_pickF rfl rfl) (v_move rfl) rfl rfl ?_; clear hF a; intro a hF
  refine svn2 hF rfl rfl rfl rfl rfl rfl ?_; clear hF a; intro a hF
  refine sv2 hF (v_pickF rfl rfl) (v_move rfl) rfl rfl ?_; clear hF a; intro a hF
  refine svn4 hF rfl rfl rfl rfl rfl rfl rfl rfl rfl rfl rfl rfl ?_; clear hF a; intro a hF
  refine sv2w hK hF (v_pickF rfl rfl) (v_assign rfl) rfl rfl ?_; clear hF a hK K; intro a hF
  replace hF := hF.sub _ (c_ 6 rfl (n_))
  refine W_ret ?_
  refine ⟨_, _, hF, rfl, ?_⟩
  refine ⟨congrArg Value.bool ?_, rfl⟩
  unfold fitB
  rw [← hpa]
  cases pa_ <;> first | (exfalso; simp_all; done) | (simp only [Option.isSome_some, Option.isSome_none, Bool.true_and, Bool.false_and]; done) | (simp only [Option.isSome_some, Bool.true_and]; first | (symm; rw [decide_eq_false_iff_not]; omega) | (rw [decide_eq_decide]; omega))
set_option maxRecDepth 100000 in
set_option maxHeartbeats 1000000 in
theorem made_ok (B n m : Nat) (g : FuncId) (lb : List Value) (f : Tb) (w : World) (hI : Inv FDx B w) (hn : n ≤ 100 ∧ m ≤ 100) (eg : Ent Tryz.prog g) (hc : ∀ i j, i < n → j < m → ∀ w1, St FDx B w w1 → Ret Tryz.prog g (.int .i64 (i : Int) :: .int .i64 (j : Int) :: lb) w1 fun v w' => v = .int .i64 (f i j : Int) ∧ St FDx B w1 w') : Ret Tryz.prog 56 [.int .i64 (n : Int), .int .i64 (m : Int), .func (.func g) ([] : List Value).toArray (lb : List Value).toArray] w fun v w' => ∃ ob, MOwn FDx B w.heap.size 0 w'.heap.size w' 53 v ob (tab n m f) ∧ St FDx B w w' := by
 refine enter 33 [(0, .int .i64 (n : Int)), (1, .int .i64 (m : Int)), (2, .func (.func g) ([] : List Value).toArray (lb : List Value).toArray)] 6 Tryz.func56 rfl rfl rfl rfl rfl ?_; intro a hF
 have hS := St.refl hI
 refine W_sr rfl fun K hK => ?_
 refine svw hK hF (v_assign rfl) rfl ?_; clear hF a hK K; intro a hF
 refine W_sr rfl fun K hK => ?_
 refine svw hK hF (v_assign rfl) rfl ?_; clear hF a hK K; intro a hF
 refine W_seq ?_
 refine W_sr rfl fun K hK => ?_
 refine sv2w hK hF (v_move rfl) (v_move rfl) rfl rfl ?_; clear hF a hK K; intro a hF
 replace hF := hF.sub _ (c_ 12 rfl (c_ 11 rfl (c_ 7 rfl (c_ 6 rfl (c_ 1 rfl (c_ 2 rfl (n_)))))))
 refine W_block ?_
 refine W_loop (fun q a w1 => ∃ (i : Nat) (v7 : Value) (b7 : Option Nat), Fr 33 [(1, .int .i64 (m : Int)), (2, .func (.func g) ([] : List Value).toArray (lb : List Value).toArray), (7, v7), (11, .int .i64 (n : Int)), (12, .int .i64 (i : Int))] a ∧ (St FDx B w w1) ∧ (MOwn FDx B w.heap.size 0 w1.heap.size w1 53 v7 b7 ((List.range i).map (trow m f))) ∧ (i ≤ n) ∧ (q + i = n)) (n) ?_ ?_
 ·
  skip
  exact ⟨0, _, none, hF.sub _ (c_ 1 rfl (c_ 2 rfl (c_ 7 rfl (c_ 11 rfl (c_ 12 rfl (n_)))))), hS, MOwn.nil _ _ _ _ _ _ _ (Nat.zero_le _), by omega, by omega⟩
 ·
  skip
  clear hF
  clear hS
  rintro q a w1 ⟨i, v7, b7, hF, hS, hMO, hi, hq⟩
  obtain ⟨KM, hKe⟩ : ∃ KM, KM = w1.heap.size := ⟨_, rfl⟩
  rw [← hKe] at hMO
  have hKs : KM ≤ w1.heap.size := by omega
  have hNK : w.heap.size ≤ KM := by have := hS.ext.size; omega
  clear hKe
  refine W_sr rfl fun K hK => ?_
  refine svw hK hF (v_lss rfl rfl) rfl ?_; clear hF a hK K; intro a hF
  refine W_seq ?_
  refine W_if hF rfl (fun hc1 => ?_) (fun hc1 => ?_)
  ·
   skip
   try simp only [dcl] at hc1
   have hlt : i < n := by omega
   refine W_skip ?_
   refine W_seq ?_
   refine W_block ?_
   refine W_sr rfl fun K hK => ?_
   refine sv2w hK hF (v_move rfl) (v_assign rfl) rfl rfl ?_; clear hF a hK K; intro a hF
   replace hF := hF.sub _ (c_ 8 rfl (c_ 1 rfl (c_ 2 rfl (c_ 7 rfl (c_ 11 rfl (c_ 12 rfl (n_)))))))
   refine W_sr rfl fun K hK => ?_
   refine svw hK hF (v_assign rfl) rfl ?_; clear hF a hK K; intro a hF
   refine W_seq ?_
   refine W_sr rfl fun K hK => ?_
   refine sv2w hK hF (v_move rfl) (v_move rfl) rfl rfl ?_; clear hF a hK K; intro a hF
   refine W_block ?_
   refine W_loop (fun q2 a w2 => ∃ (j : Nat) (v9 : Value) (b9 : Option Nat), Fr 33 [(1, .int .i64 (m : Int)), (2, .func (.func g) ([] : List Value).toArray (lb : List Value).toArray), (7, v7), (8, .int .i64 (i : Int)), (9, v9), (11, .int .i64 (n : Int)), (12, .int .i64 (i : Int)), (15, .int .i64 (m : Int)), (16, .int .i64 (j : Int))] a ∧ (St FDx B w w2) ∧ (MOwn FDx B w.heap.size 0 KM w2 53 v7 b7 ((List.range i).map (trow m f))) ∧ (KM ≤ w2.heap.size) ∧ (Gam.Own FDx B KM w2 FDx.E v9 b9 (zints ((List.range j).map fun j => (f i j : Int)))) ∧ (j ≤ m) ∧ (q2 + j = m)) (m) ?_ ?_
   ·
    skip
    exact ⟨0, _, none, hF.sub _ (c_ 1 rfl (c_ 2 rfl (c_ 7 rfl (c_ 8 rfl (c_ 9 rfl (c_ 11 rfl (c_ 12 rfl (c_ 15 rfl (c_ 16 rfl (n_)))))))))), hS, hMO, hKs, Gam.Own.nil _ _ _ _ _, by omega, by omega⟩
   ·
    skip
    clear hF
    clear hS hMO hKs
    rintro q2 a w2 ⟨j, v9, b9, hF, hS, hMO, hKs, hO, hj, hq2⟩
    refine W_sr rfl fun K hK => ?_
    refine svw hK hF (v_lss rfl rfl) rfl ?_; clear hF a hK K; intro a hF
    refine W_seq ?_
    refine W_if hF rfl (fun hc2 => ?_) (fun hc2 => ?_)
    ·
     skip
     try simp only [dcl] at hc2
     have hlt2 : j < m := by omega
     refine W_skip ?_
     refine W_seq ?_
     refine W_block ?_
     refine W_sr rfl fun K hK => ?_
     refine sv2w hK hF (v_move rfl) (v_assign rfl) rfl rfl ?_; clear hF a hK K; intro a hF
     replace hF := hF.sub _ (c_ 10 rfl (c_ 1 rfl (c_ 2 rfl (c_ 7 rfl (c_ 8 rfl (c_ 9 rfl (c_ 11 rfl (c_ 12 rfl (c_ 15 rfl (c_ 16 rfl (n_)))))))))))
     refine W_reg rfl fun K hK => ?_
     refine sv4 hF (v_move rfl) (v_move rfl) (v_move rfl) (v_move rfl) rfl rfl rfl rfl ?_; clear hF a; intro a hF
     refine sc hF rfl rfl rfl eg rfl (hc i j hlt hlt2 _ hS) ?_; clear hF a; intro v w' a hv hF
     obtain ⟨rfl, hS'⟩ := hv
     replace hMO := hMO.st (by decide) hS'
     replace hKs := Nat.le_trans hKs hS'.ext.size
     replace hO := hO.st (by decide) hS'
     replace hS := hS.trans hS'
     clear hS'
     refine s_bs (D := FDx) (B := B) hF sl53 rfl rfl (by decide) (by simp [Value.cells]) (by decide) hS.inv rfl ?_; clear hF a; intro w' a hm hI' hL hF
     replace hMO := hMO.mb0 hm
     replace hKs := Nat.le_trans hKs hm.size
     replace hO := hO.mb hm (fun _ _ => by simp)
     replace hS := hS.mb0 hm
     clear hm hI'
     refine s_app (D := FDx) (B := B) hF rfl sl53 rfl rfl hO (hL.row (by decide)) (by simp [Value.oneCell']) (by simp; omega) (by simp [maxLen]; omega) (hKs) (by decide) hS.inv rfl ?_; clear hF a; intro v' b' w' a ho' hm hI' hb' hF
     replace hMO := hMO.mbo hm hO (by decide) (Nat.le_refl _) (Nat.zero_le _)
     replace hKs := Nat.le_trans hKs hm.size
     replace hS := hS.mb hm (fun k h => Nat.le_trans (hNK) (hO.lt k h).1)
     replace hO := ho'
     clear hm hI' ho'
     refine svw hK hF (v_assign rfl) rfl ?_; clear hF a hK K; intro a hF
     replace hF := hF.sub _ (c_ 9 rfl (c_ 1 rfl (c_ 2 rfl (c_ 7 rfl (c_ 8 rfl (c_ 11 rfl (c_ 12 rfl (c_ 15 rfl (c_ 16 rfl (n_))))))))))
     refine W_reg rfl fun K hK => ?_
     refine sv2w hK hF (v_addI rfl rfl (by omega)) (v_move rfl) rfl rfl ?_; clear hF a hK K; intro a hF
     exact ⟨q2 - 1, by omega, j + 1, _, _, hF.sub _ (c_ 1 rfl (c_ 2 rfl (c_ 7 rfl (c_ 8 rfl (c_ 9 rfl (c_ 11 rfl (c_ 12 rfl (c_ 15 rfl (c_ 16 rfl (n_)))))))))), hS, hMO, hKs, hO.cast (by rw [List.range_succ, List.map_append]; simp [zints]), by omega, by omega⟩
    ·
     skip
     try simp only [dcl] at hc2
     have hjm : j = m := by omega
     rw [hjm] at hO
     refine W_exit rfl ?_
     refine W_reg rfl fun K hK => ?_
     refine sv2 hF (v_move rfl) (v_move rfl) rfl rfl ?_; clear hF a; intro a hF
     obtain ⟨a_, c_r, rfl⟩ := hO.shape
     refine s_bs (D := FDx) (B := B) hF sl36 rfl rfl (by decide) (by simp [Value.cells]) (by decide) hS.inv rfl ?_; clear hF a; intro w' a hm hI' hL hF
     replace hMO := hMO.mb0 hm
     replace hKs := Nat.le_trans hKs hm.size
     replace hO := hO.mb hm (fun _ _ => by simp)
     replace hS := hS.mb0 hm
     clear hm hI'
     replace hMO := hMO.up hKs
     clear hKs
     refine s_appM (D := FDx) (B := B) hF rfl sl36 rfl rfl hMO hL (.of (r := trow m f i) hO (Nat.zero_le _)) rfl rfl (by simp; omega) (hS.ext.size) (by decide) (by decide) hS.inv rfl ?_; clear hF a; intro v' b' w' a ho' hm hI' hF
     replace hS := hS.mb hm (fun k h => (hMO.lt k h).1)
     have hKm := hm.size
     replace hMO := ho'
     clear hm hI' ho' hL
     refine svw hK hF (v_assign rfl) rfl ?_; clear hF a hK K; intro a hF
     replace hF := hF.sub _ (c_ 7 rfl (c_ 30 rfl (c_ 29 rfl (c_ 28 rfl (c_ 27 rfl (c_ 1 rfl (c_ 2 rfl (c_ 8 rfl (c_ 9 rfl (c_ 11 rfl (c_ 12 rfl (c_ 15 rfl (c_ 16 rfl (n_))))))))))))))
     refine W_reg rfl fun K hK => ?_
     refine sv2w hK hF (v_addI rfl rfl (by omega)) (v_move rfl) rfl rfl ?_; clear hF a hK K; intro a hF
     exact ⟨q - 1, by omega, i + 1, _, _, hF.sub _ (c_ 1 rfl (c_ 2 rfl (c_ 7 rfl (c_ 11 rfl (c_ 12 rfl (n_)))))), hS, (hMO.up hKm).cast (by rw [List.range_succ, List.map_append]; rfl), by omega, by omega⟩
  ·
   skip
   try simp only [dcl] at hc1
   refine W_exit rfl ?_
   refine W_sr rfl fun K hK => ?_
   refine sv2w hK hF (v_move rfl) (v_assign rfl) rfl rfl ?_; clear hF a hK K; intro a hF
   replace hF := hF.sub _ (c_ 6 rfl (c_ 32 rfl (c_ 1 rfl (c_ 2 rfl (c_ 7 rfl (c_ 11 rfl (c_ 12 rfl (n_))))))))
   refine W_ret ?_
   refine ⟨_, _, hF, rfl, ?_⟩
   obtain rfl : i = n := by omega
   exact ⟨_, (hMO.up hKs).cast rfl, hS⟩
set_option maxRecDepth 100000 in
set_option maxHeartbeats 1000000 in
theorem Raw1_ok (B : Nat) (o : Fq) (fv : Value) (pf i j : Nat) (w : World) (hI : Inv FDx B w) (hf : Fo FDx B w fv o) (hkf : KC FDx B w ⟨pf, 0, none⟩ fv) (hij : i ≤ 100 ∧ j ≤ 100) : Ret Tryz.prog 106 [.int .i64 (i : Int), .int .i64 (j : Int), .pointer (some ⟨pf, 0, none⟩)] w fun v w' => v = .int .i64 (pwT o i j : Int) ∧ St FDx B w w' := by
 refine enter 10 [(0, .int .i64 (i : Int)), (1, .int .i64 (j : Int)), (2, .pointer (some ⟨pf, 0, none⟩))] 5 Tryz.func106 rfl rfl rfl rfl rfl ?_; intro a hF
 have hS := St.refl hI
 refine W_sr rfl fun K hK => ?_
 refine svw hK hF (v_assign rfl) rfl ?_; clear hF a hK K; intro a hF
 refine W_sr rfl fun K hK => ?_
 refine sv3 hF (v_load sc42 rfl hkf.c) (v_move rfl) (v_move rfl) rfl rfl rfl ?_; clear hF a; intro a hF
 refine sc hF rfl rfl rfl en58 rfl (Pow_gf B o fv (i : Int) (j : Int) _ hS.inv hf (by omega)) ?_; clear hF a; intro v w' a hv hF
 obtain ⟨rfl, hS'⟩ := hv
 replace hS := hS.trans hS'
 clear hS'
 refine svw hK hF (v_assign rfl) rfl ?_; clear hF a hK K; intro a hF
 replace hF := hF.sub _ (c_ 5 rfl (n_))
 refine W_ret ?_
 refine ⟨_, _, hF, rfl, ?_⟩
 exact ⟨congrArg _ (pwT_nn hf.prms _ _).symm, hS⟩
set_option maxRecDepth 100000 in
set_option maxHeartbeats 1000000 in
theorem Isal1_ok (B : Nat) (o : Fq) (fv : Value) (pf i j : Nat) (w : World) (hI : Inv FDx B w) (hf : Fo FDx B w fv o) (hkf : KC FDx B w ⟨pf, 0, none⟩ fv) (hij : i ≤ 100 ∧ j ≤ 100) : Ret Tryz.prog 57 [.int .i64 (i : Int), .int .i64 (j : Int), .pointer (some ⟨pf, 0, none⟩)] w fun v w' => v = .int .i64 (isT o i j : Int) ∧ St FDx B w w' := by
 refine enter 12 [(0, .int .i64 (i : Int)), (1, .int .i64 (j : Int)), (2, .pointer (some ⟨pf, 0, none⟩))] 5 Tryz.func57 rfl rfl rfl rfl rfl ?_; intro a hF
 have hS := St.refl hI
 refine W_sr rfl fun K hK => ?_
 refine svw hK hF (v_assign rfl) rfl ?_; clear hF a hK K; intro a hF
 refine W_sd (m := 7) rfl hmix hS.inv (fun K hK w1 hS' hh => ?_)
 replace hf := hf.st hS'
 replace hkf := hkf.st hS'
 replace hS := hS.trans hS'
 clear hS'
 clear hh
 refine a_v (i := 0) rfl (by kernel_rfl) hF (fun w2 hx => v_load sc42 rfl (hkf.ld hx)) rfl ?_; clear hF a; intro a hF
 refine a_v (i := 1) rfl (by kernel_rfl) hF (fun w2 hx => v_load sc42 rfl (hkf.ld hx)) rfl ?_; clear hF a; intro a hF
 refine a_v (i := 2) rfl (by kernel_rfl) hF (fun w2 hx => v_move rfl) rfl ?_; clear hF a; intro a hF
 refine a_v (i := 4) rfl (by kernel_rfl) hF (fun w2 hx => v_move rfl) rfl ?_; clear hF a; intro a hF
 refine a_e (i := 3) rfl (by kernel_rfl) ?_
 refine sc hF rfl rfl rfl en58 rfl (Pow_gf B o fv 2 (i : Int) _ hS.inv hf (by omega)) ?_; clear hF a; intro v w' a hv hF
 obtain ⟨rfl, hS'⟩ := hv
 refine WL_nil ⟨hS'.ext, ?_⟩
 replace hf := hf.st hS'
 replace hkf := hkf.st hS'
 replace hS := hS.trans hS'
 clear hS'
 refine a_e (i := 5) rfl (by kernel_rfl) ?_
 refine sc hF rfl rfl rfl en58 rfl (Pow_gf B o fv (gpow o 2 (i : Int)) (j : Int) _ hS.inv hf (by omega)) ?_; clear hF a; intro v w' a hv hF
 obtain ⟨rfl, hS'⟩ := hv
 refine WL_nil ⟨hS'.ext, ?_⟩
 replace hf := hf.st hS'
 replace hkf := hkf.st hS'
 replace hS := hS.trans hS'
 clear hS'
 refine a_v (i := 6) rfl (by kernel_rfl) hF (fun w2 hx => v_assign rfl) rfl ?_; clear hF a; intro a hF
 refine a_done (by kernel_rfl) (hK _ _ ?_)
 clear hK K
 replace hF := hF.sub _ (c_ 5 rfl (n_))
 refine W_ret ?_
 refine ⟨_, _, hF, rfl, ?_⟩
 exact ⟨congrArg _ (pwT_nn hf.prms _ _).symm, hS⟩
set_option maxRecDepth 100000 in
set_option maxHeartbeats 1000000 in
theorem Raw_ok (B : Nat) (o : Fq) (fv : Value) (k m : Int) (w : World) (hI : Inv FDx B w) (hf : Fo FDx B w fv o) : Ret Tryz.prog 86 [fv, .int .i64 k, .int .i64 m] w fun v w' => ∃ ob u, v = .tuple #[u, .int .i64 (errV (rawM o k m))] ∧ MOwn FDx B w.heap.size 0 w'.heap.size w' 53 u ob ((rawM o k m).getD []) ∧ St FDx B w w' := by
 refine enter2 30 [(0, fv), (1, .int .i64 k), (2, .int .i64 m)] 6 7 Tryz.func86 rfl rfl rfl rfl rfl ?_; intro a hF
 have hS := St.refl hI
 obtain ⟨pa_, rfl, hpa⟩ := hf.ptr
 refine W_sr rfl fun K hK => ?_
 obtain ⟨pf, hpf⟩ : ∃ pf, pf = w.heap.size := ⟨_, rfl⟩
 refine s_boxN (D := FDx) (B := B) hF rfl (hf.cells1) (by decide) hS.inv rfl ?_; clear hF a; intro w' a hm hI' hbf hsz hF
 replace hf := hf.mb hm
 replace hS := hS.mb0 hm
 clear hm hI' hsz
 rw [← hpf] at hbf hF
 have hkf := hbf.kc
 clear hbf
 refine sv2w hK hF (v_assign rfl) (v_assign rfl) rfl rfl ?_; clear hF a hK K; intro a hF
 replace hF := hF.sub _ (c_ 7 rfl (c_ 6 rfl (c_ 3 rfl (c_ 1 rfl (c_ 2 rfl (n_))))))
 refine W_seq ?_
 refine W_sr rfl fun K hK => ?_
 refine sv hF (v_load sc42 rfl hkf.c) rfl ?_; clear hF a; intro a hF
 refine sb hF (v_eqlNil (by exact Tryz.underlying42) rfl rfl) rfl ?_ ?_
 ·
  clear hF a; intro hc1 a hF
  try simp only [dcl] at hc1
  refine sv hF (v_move rfl) rfl ?_; clear hF a; intro a hF
  refine svn2 hF rfl rfl rfl rfl rfl rfl ?_; clear hF a; intro a hF
  refine sv2 hF (v_pickT rfl rfl) (v_move rfl) rfl rfl ?_; clear hF a; intro a hF
  refine svn2 hF rfl rfl rfl rfl rfl rfl ?_; clear hF a; intro a hF
  refine sv2 hF (v_pickT rfl rfl) (v_move rfl) rfl rfl ?_; clear hF a; intro a hF
  refine svn2 hF rfl rfl rfl rfl rfl rfl ?_; clear hF a; intro a hF
  refine sv2 hF (v_pickT rfl rfl) (v_move rfl) rfl rfl ?_; clear hF a; intro a hF
  refine svn2 hF rfl rfl rfl rfl rfl rfl ?_; clear hF a; intro a hF
  refine svw hK hF (v_pickT rfl rfl) rfl ?_; clear hF a hK K; intro a hF
  replace hF := hF.sub _ (c_ 25 rfl (c_ 7 rfl (c_ 6 rfl (c_ 3 rfl (c_ 1 rfl (c_ 2 rfl (n_)))))))
  refine W_ifT hF rfl ?_
  refine W_sr rfl fun K hK => ?_
  refine sv2w hK hF (v_assign rfl) (v_assign rfl) rfl rfl ?_; clear hF a hK K; intro a hF
  replace hF := hF.sub _ (c_ 7 rfl (c_ 6 rfl (c_ 3 rfl (c_ 1 rfl (c_ 2 rfl (n_))))))
  refine W_ret ?_
  refine ⟨_, _, _, hF, rfl, rfl, ?_⟩
  have hb : rawB o k m = false := by unfold rawB; rw [← hpa]; cases pa_ <;> first | (exfalso; simp_all; done) | rfl | (rw [decide_eq_false (by omega)]; rfl)
  rw [rawM_no hb]
  exact ⟨none, _, rfl, MOwn.nil _ _ _ _ _ _ _ (Nat.zero_le _), hS⟩
 ·
  clear hF a; intro hc1 a hF
  try simp only [dcl] at hc1
  refine sv hF (v_move rfl) rfl ?_; clear hF a; intro a hF
  refine svg hF rfl ?_
  refine sv hF (v_move rfl) rfl ?_; clear hF a; intro a hF
  refine svg hF rfl ?_
  refine sb hF (v_lss rfl rfl) rfl ?_ ?_
  ·
   clear hF a; intro hc2 a hF
   try simp only [dcl] at hc2
   refine sv2 hF (v_pickF rfl rfl) (v_move rfl) rfl rfl ?_; clear hF a; intro a hF
   refine svn2 hF rfl rfl rfl rfl rfl rfl ?_; clear hF a; intro a hF
   refine sv2 hF (v_pickT rfl rfl) (v_move rfl) rfl rfl ?_; clear hF a; intro a hF
   refine svn2 hF rfl rfl rfl rfl rfl rfl ?_; clear hF a; intro a hF
   refine sv2 hF (v_pickT rfl rfl) (v_move rfl) rfl rfl ?_; clear hF a; intro a hF
   refine svn2 hF rfl rfl rfl rfl rfl rfl ?_; clear hF a; intro a hF
   refine svw hK hF (v_pickT rfl rfl) rfl ?_; clear hF a hK K; intro a hF
   replace hF := hF.sub _ (c_ 25 rfl (c_ 7 rfl (c_ 6 rfl (c_ 3 rfl (c_ 1 rfl (c_ 2 rfl (n_)))))))
   refine W_ifT hF rfl ?_
   refine W_sr rfl fun K hK => ?_
   refine sv2w hK hF (v_assign rfl) (v_assign rfl) rfl rfl ?_; clear hF a hK K; intro a hF
   replace hF := hF.sub _ (c_ 7 rfl (c_ 6 rfl (c_ 3 rfl (c_ 1 rfl (c_ 2 rfl (n_))))))
   refine W_ret ?_
   refine ⟨_, _, _, hF, rfl, rfl, ?_⟩
   have hb : rawB o k m = false := by unfold rawB; rw [← hpa]; cases pa_ <;> first | (exfalso; simp_all; done) | rfl | (rw [decide_eq_false (by omega)]; rfl)
   rw [rawM_no hb]
   exact ⟨none, _, rfl, MOwn.nil _ _ _ _ _ _ _ (Nat.zero_le _), hS⟩
  ·
   clear hF a; intro hc2 a hF
   try simp only [dcl] at hc2
   refine sv2 hF (v_pickF rfl rfl) (v_move rfl) rfl rfl ?_; clear hF a; intro a hF
   refine svg hF rfl ?_
   refine sv hF (v_move rfl) rfl ?_; clear hF a; intro a hF
   refine svg hF rfl ?_
   refine sb hF (v_gtr rfl rfl) rfl ?_ ?_
   ·
    clear hF a; intro hc3 a hF
    try simp only [dcl] at hc3
    refine sv2 hF (v_pickF rfl rfl) (v_move rfl) rfl rfl ?_; clear hF a; intro a hF
    refine svn2 hF rfl rfl rfl rfl rfl rfl ?_; clear hF a; intro a hF
    refine sv2 hF (v_pickT rfl rfl) (v_move rfl) rfl rfl ?_; clear hF a; intro a hF
    refine svn2 hF rfl rfl rfl rfl rfl rfl ?_; clear hF a; intro a hF
    refine svw hK hF (v_pickT rfl rfl) rfl ?_; clear hF a hK K; intro a hF
    replace hF := hF.sub _ (c_ 25 rfl (c_ 7 rfl (c_ 6 rfl (c_ 3 rfl (c_ 1 rfl (c_ 2 rfl (n_)))))))
    refine W_ifT hF rfl ?_
    refine W_sr rfl fun K hK => ?_
    refine sv2w hK hF (v_assign rfl) (v_assign rfl) rfl rfl ?_; clear hF a hK K; intro a hF
    replace hF := hF.sub _ (c_ 7 rfl (c_ 6 rfl (c_ 3 rfl (c_ 1 rfl (c_ 2 rfl (n_))))))
    refine W_ret ?_
    refine ⟨_, _, _, hF, rfl, rfl, ?_⟩
    have hb : rawB o k m = false := by unfold rawB; rw [← hpa]; cases pa_ <;> first | (exfalso; simp_all; done) | rfl | (rw [decide_eq_false (by omega)]; rfl)
    rw [rawM_no hb]
    exact ⟨none, _, rfl, MOwn.nil _ _ _ _ _ _ _ (Nat.zero_le _), hS⟩
   ·
    clear hF a; intro hc3 a hF
    try simp only [dcl] at hc3
    refine sv2 hF (v_pickF rfl rfl) (v_move rfl) rfl rfl ?_; clear hF a; intro a hF
    refine svg hF rfl ?_
    refine sv hF (v_move rfl) rfl ?_; clear hF a; intro a hF
    refine svg hF rfl ?_
    refine sb hF (v_lss rfl rfl) rfl ?_ ?_
    ·
     clear hF a; intro hc4 a hF
     try simp only [dcl] at hc4
     refine sv2 hF (v_pickF rfl rfl) (v_move rfl) rfl rfl ?_; clear hF a; intro a hF
     refine svn2 hF rfl rfl rfl rfl rfl rfl ?_; clear hF a; intro a hF
     refine svw hK hF (v_pickT rfl rfl) rfl ?_; clear hF a hK K; intro a hF
     replace hF := hF.sub _ (c_ 25 rfl (c_ 7 rfl (c_ 6 rfl (c_ 3 rfl (c_ 1 rfl (c_ 2 rfl (n_)))))))
     refine W_ifT hF rfl ?_
     refine W_sr rfl fun K hK => ?_
     refine sv2w hK hF (v_assign rfl) (v_assign rfl) rfl rfl ?_; clear hF a hK K; intro a hF
     replace hF := hF.sub _ (c_ 7 rfl (c_ 6 rfl (c_ 3 rfl (c_ 1 rfl (c_ 2 rfl (n_))))))
     refine W_ret ?_
     refine ⟨_, _, _, hF, rfl, rfl, ?_⟩
     have hb : rawB o k m = false := by unfold rawB; rw [← hpa]; cases pa_ <;> first | (exfalso; simp_all; done) | rfl | (rw [decide_eq_false (by omega)]; rfl)
     rw [rawM_no hb]
     exact ⟨none, _, rfl, MOwn.nil _ _ _ _ _ _ _ (Nat.zero_le _), hS⟩
    ·
     clear hF a; intro hc4 a hF
     try simp only [dcl] at hc4
     refine sv2 hF (v_pickF rfl rfl) (v_move rfl) rfl rfl ?_; clear hF a; intro a hF
     refine svg hF rfl ?_
     refine sv hF (v_move rfl) rfl ?_; clear hF a; intro a hF
     refine svg hF rfl ?_
     refine sv2w hK hF (v_gtr rfl rfl) (v_pickF rfl rfl) rfl rfl ?_; clear hF a hK K; intro a hF
     replace hF := hF.sub _ (c_ 25 rfl (c_ 7 rfl (c_ 6 rfl (c_ 3 rfl (c_ 1 rfl (c_ 2 rfl (n_)))))))
     refine W_if hF rfl (fun hc5 => ?_) (fun hc5 => ?_)
     ·
      skip
      try simp only [dcl] at hc5
      refine W_sr rfl fun K hK => ?_
      refine sv2w hK hF (v_assign rfl) (v_assign rfl) rfl rfl ?_; clear hF a hK K; intro a hF
      replace hF := hF.sub _ (c_ 7 rfl (c_ 6 rfl (c_ 3 rfl (c_ 1 rfl (c_ 2 rfl (n_))))))
      refine W_ret ?_
      refine ⟨_, _, _, hF, rfl, rfl, ?_⟩
      have hb : rawB o k m = false := by unfold rawB; rw [← hpa]; cases pa_ <;> first | (exfalso; simp_all; done) | rfl | (rw [decide_eq_false (by omega)]; rfl)
      rw [rawM_no hb]
      exact ⟨none, _, rfl, MOwn.nil _ _ _ _ _ _ _ (Nat.zero_le _), hS⟩
     ·
      skip
      try simp only [dcl] at hc5
      have hb : rawB o k m = true := by unfold rawB; rw [← hpa]; cases pa_ <;> first | (exfalso; simp_all; done) | (rw [decide_eq_true (by omega)]; rfl)
      obtain ⟨kn, rfl⟩ : ∃ n : Nat, k = (n : Int) := ⟨k.toNat, by omega⟩
      obtain ⟨mn, rfl⟩ : ∃ n : Nat, m = (n : Int) := ⟨m.toNat, by omega⟩
      refine W_skip ?_
      refine W_sr rfl fun K hK => ?_
      refine sv3 hF (v_move rfl) (v_move rfl) (v_mkf (cs := [.tmp 3]) (vs := [.pointer (some ⟨pf, 0, none⟩)]) rfl) rfl rfl rfl ?_; clear hF a; intro a hF
      refine sc hF rfl rfl rfl en56 rfl (made_ok B kn mn 106 [.pointer (some ⟨pf, 0, none⟩)] (pwT o) _ hS.inv (by omega) (ent Tryz.func106 (by kernel_rfl) (by kernel_rfl)) (fun i j hi hj w1 hs => Raw1_ok B o _ pf i j w1 hs.inv (hf.st hs) (hkf.st hs) (by omega))) ?_; clear hF a; intro v w' a hv hF
      obtain ⟨ob, hMO, hS'⟩ := hv
      replace hMO := hMO.le hS.ext.size (Nat.zero_le _)
      replace hf := hf.st hS'
      replace hkf := hkf.st hS'
      replace hS := hS.trans hS'
      clear hS'
      refine sv2w hK hF (v_assign rfl) (v_assign rfl) rfl rfl ?_; clear hF a hK K; intro a hF
      replace hF := hF.sub _ (c_ 7 rfl (c_ 6 rfl (n_)))
      refine W_ret ?_
      refine ⟨_, _, _, hF, rfl, rfl, ?_⟩
      rw [show rawM o (kn : Int) (mn : Int) = some (tab kn mn (pwT o)) by unfold rawM; rw [if_pos hb]; rfl]
      exact ⟨_, _, rfl, hMO, hS⟩
set_option maxRecDepth 100000 in
set_option maxHeartbeats 1000000 in
theorem Isal_ok (B : Nat) (o : Fq) (fv : Value) (k m : Int) (w : World) (hI : Inv FDx B w) (hf : Fo FDx B w fv o) : Ret Tryz.prog 28 [fv, .int .i64 k, .int .i64 m] w fun v w' => ∃ ob u, v = .tuple #[u, .int .i64 (errV (isalM o k m))] ∧ MOwn FDx B w.heap.size 0 w'.heap.size w' 53 u ob ((isalM o k m).getD []) ∧ St FDx B w w' := by
 refine enter2 17 [(0, fv), (1, .int .i64 k), (2, .int .i64 m)] 6 7 Tryz.func28 rfl rfl rfl rfl rfl ?_; intro a hF
 have hS := St.refl hI
 refine W_sr rfl fun K hK => ?_
 obtain ⟨pf, hpf⟩ : ∃ pf, pf = w.heap.size := ⟨_, rfl⟩
 refine s_boxN (D := FDx) (B := B) hF rfl (hf.cells1) (by decide) hS.inv rfl ?_; clear hF a; intro w' a hm hI' hbf hsz hF
 replace hf := hf.mb hm
 replace hS := hS.mb0 hm
 clear hm hI' hsz
 rw [← hpf] at hbf hF
 have hkf := hbf.kc
 clear hbf
 refine sv2w hK hF (v_assign rfl) (v_assign rfl) rfl rfl ?_; clear hF a hK K; intro a hF
 replace hF := hF.sub _ (c_ 7 rfl (c_ 6 rfl (c_ 3 rfl (c_ 1 rfl (c_ 2 rfl (n_))))))
 refine W_seq ?_
 refine W_sr rfl fun K hK => ?_
 refine sv3 hF (v_load sc42 rfl hkf.c) (v_move rfl) (v_move rfl) rfl rfl rfl ?_; clear hF a; intro a hF
 refine sc hF rfl rfl rfl en55 rfl (fits_ok B o fv k m _ hf) ?_; clear hF a; intro v w' a hv hF
 obtain ⟨rfl, hw⟩ := hv
 obtain rfl := hw.symm
 have hS' := St.refl hS.inv
 replace hf := hf.st hS'
 replace hkf := hkf.st hS'
 replace hS := hS.trans hS'
 clear hS'
 refine svw hK hF (v_not rfl) rfl ?_; clear hF a hK K; intro a hF
 replace hF := hF.sub _ (c_ 12 rfl (c_ 7 rfl (c_ 6 rfl (c_ 3 rfl (c_ 1 rfl (c_ 2 rfl (n_)))))))
 refine W_if hF rfl (fun hc1 => ?_) (fun hc1 => ?_)
 ·
  skip
  try simp only [dcl] at hc1
  refine W_sr rfl fun K hK => ?_
  refine sv2w hK hF (v_assign rfl) (v_assign rfl) rfl rfl ?_; clear hF a hK K; intro a hF
  replace hF := hF.sub _ (c_ 7 rfl (c_ 6 rfl (c_ 3 rfl (c_ 1 rfl (c_ 2 rfl (n_))))))
  refine W_ret ?_
  refine ⟨_, _, _, hF, rfl, rfl, ?_⟩
  rw [isalM_no (by simpa using hc1)]
  exact ⟨none, _, rfl, MOwn.nil _ _ _ _ _ _ _ (Nat.zero_le _), hS⟩
 ·
  skip
  try simp only [dcl] at hc1
  refine W_skip ?_
  have hb : fitB o k m = true := by simpa using hc1
  obtain ⟨-, hb2⟩ := fitB_iff.1 hb
  obtain ⟨kn, rfl⟩ : ∃ n : Nat, k = (n : Int) := ⟨k.toNat, by omega⟩
  obtain ⟨mn, rfl⟩ : ∃ n : Nat, m = (n : Int) := ⟨m.toNat, by omega⟩
  refine W_sr rfl fun K hK => ?_
  refine sv3 hF (v_move rfl) (v_move rfl) (v_mkf (cs := [.tmp 3]) (vs := [.pointer (some ⟨pf, 0, none⟩)]) rfl) rfl rfl rfl ?_; clear hF a; intro a hF
  refine sc hF rfl rfl rfl en56 rfl (made_ok B mn kn 57 [.pointer (some ⟨pf, 0, none⟩)] (isT o) _ hS.inv (by omega) (ent Tryz.func57 (by kernel_rfl) (by kernel_rfl)) (fun i j hi hj w1 hs => Isal1_ok B o _ pf i j w1 hs.inv (hf.st hs) (hkf.st hs) (by omega))) ?_; clear hF a; intro v w' a hv hF
  obtain ⟨ob, hMO, hS'⟩ := hv
  replace hMO := hMO.le hS.ext.size (Nat.zero_le _)
  replace hf := hf.st hS'
  replace hkf := hkf.st hS'
  replace hS := hS.trans hS'
  clear hS'
  refine sv2w hK hF (v_assign rfl) (v_assign rfl) rfl rfl ?_; clear hF a hK K; intro a hF
  replace hF := hF.sub _ (c_ 7 rfl (c_ 6 rfl (n_)))
  refine W_ret ?_
  refine ⟨_, _, _, hF, rfl, rfl, ?_⟩
  rw [show isalM o (kn : Int) (mn : Int) = some (tab mn kn (isT o)) by unfold isalM; rw [if_pos hb]; rfl]
  exact ⟨_, _, rfl, hMO, hS⟩
set_option maxRecDepth 100000 in
set_option maxHeartbeats 1000000 in
theorem System_ok (B wb p : Nat) (hp : Prm wb p) (fv : Value) (k m : Int) (w : World) (hI : Inv FDx B w) (hf : Fo FDx B w fv (some (wb, p))) : Ret Tryz.prog 59 [fv, .int .i64 k, .int .i64 m] w fun v w' => ∃ ob u, v = .tuple #[u, .int .i64 (errV (sysM hp k m))] ∧ MOwn FDx B w.heap.size 0 w'.heap.size w' 53 u ob ((sysM hp k m).getD []) ∧ St FDx B w w' := by
 refine enter2 43 [(0, fv), (1, .int .i64 k), (2, .int .i64 m)] 6 7 Tryz.func59 rfl rfl rfl rfl rfl ?_; intro a hF
 have hS := St.refl hI
 refine W_sr rfl fun K hK => ?_
 refine sv2w hK hF (v_assign rfl) (v_assign rfl) rfl rfl ?_; clear hF a hK K; intro a hF
 refine W_seq ?_
 refine W_sr rfl fun K hK => ?_
 refine sv3 hF (v_move rfl) (v_move rfl) (v_move rfl) rfl rfl rfl ?_; clear hF a; intro a hF
 refine sc hF rfl rfl rfl en55 rfl (fits_ok B (some (wb, p)) fv k m _ hf) ?_; clear hF a; intro v w' a hv hF
 obtain ⟨rfl, hw⟩ := hv
 obtain rfl := hw.symm
 have hS' := St.refl hS.inv
 replace hf := hf.st hS'
 replace hS := hS.trans hS'
 clear hS'
 refine svw hK hF (v_not rfl) rfl ?_; clear hF a hK K; intro a hF
 replace hF := hF.sub _ (c_ 16 rfl (c_ 7 rfl (c_ 6 rfl (c_ 0 rfl (c_ 1 rfl (c_ 2 rfl (n_)))))))
 refine W_if hF rfl (fun hc1 => ?_) (fun hc1 => ?_)
 ·
  skip
  try simp only [dcl] at hc1
  refine W_sr rfl fun K hK => ?_
  refine sv2w hK hF (v_assign rfl) (v_assign rfl) rfl rfl ?_; clear hF a hK K; intro a hF
  replace hF := hF.sub _ (c_ 7 rfl (c_ 6 rfl (c_ 0 rfl (c_ 1 rfl (c_ 2 rfl (n_))))))
  refine W_ret ?_
  refine ⟨_, _, _, hF, rfl, rfl, ?_⟩
  rw [show sysM hp k m = none by unfold sysM; rw [if_neg (by simpa using hc1)]]
  exact ⟨none, _, rfl, MOwn.nil _ _ _ _ _ _ _ (Nat.zero_le _), hS⟩
 ·
  skip
  try simp only [dcl] at hc1
  refine W_skip ?_
  have hb : fitB (some (wb, p)) k m = true := by simpa using hc1
  obtain ⟨-, hb2⟩ := fitB_iff.1 hb
  obtain ⟨kn, rfl⟩ : ∃ n : Nat, k = (n : Int) := ⟨k.toNat, by omega⟩
  obtain ⟨mn, rfl⟩ : ∃ n : Nat, m = (n : Int) := ⟨m.toNat, by omega⟩
  have hraw : rawM (some (wb, p)) ((kn + mn : Nat) : Int) (kn : Int) = some (tab (kn + mn) kn (pwT (some (wb, p)))) := by unfold rawM rawB; rw [if_pos (by rw [decide_eq_true (by omega)]; rfl)]; rfl
  have hinv := raw_inv hp (k := kn) (by omega) (by omega)
  have hmul := sys_mul hp (k := kn) (m := mn) (by omega) (by omega) (by omega)
  refine W_sr rfl fun K hK => ?_
  refine sv3 hF (v_move rfl) (v_move rfl) (v_move rfl) rfl rfl rfl ?_; clear hF a; intro a hF
  refine sv hF ((v_addI rfl rfl (by omega)).as (show Value.int .i64 ((kn : Int) + (mn : Int)) = .int .i64 ((kn + mn : Nat) : Int) by simp)) rfl ?_; clear hF a; intro a hF
  refine sv hF (v_move rfl) rfl ?_; clear hF a; intro a hF
  refine sc hF rfl rfl rfl en86 rfl (Raw_ok B (some (wb, p)) fv ((kn + mn : Nat) : Int) (kn : Int) _ hS.inv hf) ?_; clear hF a; intro v w' a hv hF
  obtain ⟨obX, uX, rfl, hoX, hS'⟩ := hv
  rw [hraw] at hoX hF
  try simp only [Option.getD_some, Option.getD_none] at hoX
  obtain ⟨sX, cX, rfl, hX⟩ := hoX.mat (by decide) (Nat.zero_le _)
  clear hoX
  replace hf := hf.st hS'
  replace hS := hS.trans hS'
  clear hS'
  refine sv5w hK hF (v_move rfl) (v_ext rfl rfl) (v_ext rfl rfl) (v_assign rfl) (v_assign rfl) rfl rfl rfl rfl rfl ?_; clear hF a hK K; intro a hF
  replace hF := hF.sub _ (c_ 8 rfl (c_ 7 rfl (c_ 6 rfl (c_ 0 rfl (c_ 1 rfl (n_))))))
  have hcap := hX.capd
  have hxl : (tab (kn + mn) kn (pwT (some (wb, p)))).length = kn + mn := tab_length _ _ _
  rw [hxl] at hcap
  have hX1 := hX.to (b := tab kn kn (pwT (some (wb, p)))) (hi := kn) (by omega) (tab_take (by omega)).symm
  have hl1 : ∀ n, n ≤ 20 → (tab n kn (pwT (some (wb, p)))).length ≤ maxLen ∧ ∀ r ∈ tab n kn (pwT (some (wb, p))), r.length ≤ maxLen := fun n hn => len20 ⟨by rw [tab_length]; exact hn, fun r hr => by obtain ⟨i, _, rfl⟩ := List.mem_map.1 hr; simp; omega⟩
  refine W_sr rfl fun K hK => ?_
  refine sv4 hF (v_move rfl) (v_move rfl) (v_move rfl) (v_slHi sl36 rfl rfl (by omega) (by omega)) rfl rfl rfl rfl ?_; clear hF a; intro a hF
  refine sc hF rfl rfl rfl en23 rfl (Inverse_n B _ wb p hp fv _ _ kn (tab kn kn (pwT (some (wb, p)))) _ hS.inv (Nat.le_refl _) hf hX1 (hl1 _ (by omega)).1 (hl1 _ (by omega)).2 (tab_length _ _ _)) ?_; clear hF a; intro v w' a hv hF
  obtain ⟨obY, uY, rfl, hoY, hS'⟩ := hv
  rw [hinv] at hoY hF
  dsimp only at hoY hF
  obtain ⟨sY, cY, rfl, hY⟩ := hoY.mat (by decide) (Nat.zero_le _)
  clear hoY
  replace hf := hf.st hS'
  replace hX := (hX.st hS').mono hS'.ext.size
  replace hS := hS.trans hS'
  clear hS'
  clear hX1
  refine sv5w hK hF (v_move rfl) (v_ext rfl rfl) (v_ext rfl rfl) (v_assign rfl) (v_assign rfl) rfl rfl rfl rfl rfl ?_; clear hF a hK K; intro a hF
  replace hF := hF.sub _ (c_ 11 rfl (c_ 10 rfl (c_ 8 rfl (c_ 7 rfl (c_ 6 rfl (c_ 0 rfl (n_)))))))
  refine W_seq ?_
  refine W_sr rfl fun K hK => ?_
  refine sv2w hK hF (v_move rfl) ((v_neq rfl rfl).as (congrArg Value.bool (decide_eq_false (by decide)))) rfl rfl ?_; clear hF a hK K; intro a hF
  replace hF := hF.sub _ (c_ 35 rfl (c_ 11 rfl (c_ 10 rfl (c_ 8 rfl (c_ 7 rfl (c_ 6 rfl (c_ 0 rfl (n_))))))))
  refine W_ifF hF rfl ?_
  refine W_skip ?_
  have hl2 : (tab kn kn (vinv hp kn)).length ≤ maxLen ∧ ∀ r ∈ tab kn kn (vinv hp kn), r.length ≤ maxLen := len20 ⟨by rw [tab_length]; omega, fun r hr => by obtain ⟨i, _, rfl⟩ := List.mem_map.1 hr; simp; omega⟩
  refine W_sr rfl fun K hK => ?_
  refine sv3 hF (v_move rfl) (v_move rfl) (v_move rfl) rfl rfl rfl ?_; clear hF a; intro a hF
  refine sc hF rfl rfl rfl en87 rfl (MulM_ok B _ (some (wb, p)) fv _ _ (tab (kn + mn) kn (pwT (some (wb, p)))) _ _ (tab kn kn (vinv hp kn)) _ hS.inv (Nat.le_refl _) hf hX (hl1 _ (by omega)).1 (hl1 _ (by omega)).2 hY (hl2).1 (hl2).2) ?_; clear hF a; intro v w' a hv hF
  obtain ⟨ob, u, rfl, hMO, hS'⟩ := hv
  rw [hmul] at hMO hF
  simp only [Option.getD_some] at hMO
  replace hMO := hMO.le hS.ext.size (Nat.zero_le _)
  replace hf := hf.st hS'
  replace hX := (hX.st hS').mono hS'.ext.size
  replace hY := (hY.st hS').mono hS'.ext.size
  replace hS := hS.trans hS'
  clear hS'
  refine sv4w hK hF (v_ext rfl rfl) (v_ext rfl rfl) (v_assign rfl) (v_assign rfl) rfl rfl rfl rfl ?_; clear hF a hK K; intro a hF
  replace hF := hF.sub _ (c_ 7 rfl (c_ 6 rfl (n_)))
  refine W_ret ?_
  refine ⟨_, _, _, hF, rfl, rfl, ?_⟩
  rw [show sysM hp (kn : Int) (mn : Int) = some (tab (kn + mn) kn (sysT hp kn)) by unfold sysM; rw [if_pos hb]; rfl]
  exact ⟨_, _, rfl, hMO, hS⟩
end Go.Proofs.YtkoiolamnnmokaaGreat

/- Records and rows of records: values that are built, blocks of a walk's own. No program in sight. -/
set_option linter.unusedSectionVars false
namespace Go.Gam
open Px
def evP (F : Fs) : List (Nat × Operand) → Option (List (Nat × Value))
  | [] => some []
  | (i, x) :: r => match ev F x with
    | none => none
    | some v => match evP F r with
      | none => none
      | some l => some ((i, v) :: l)
theorem evP_reads {F : Fs} {ρ : Operand → Value} (h : Reads F ρ) : ∀ (ps : List (Nat × Operand)) (vs : List (Nat × Value)), evP F ps = some vs → ps.map (fun x => (x.1, ρ x.2)) = vs
  | [], vs, e => by simp [evP] at e; simp [e]
  | (i, x) :: r, vs, e => by
    unfold evP at e
    cases hx : ev F x with
    | none => rw [hx] at e; cases e
    | some v =>
      rw [hx] at e
      dsimp only at e
      cases hr : evP F r with
      | none => rw [hr] at e; cases e
      | some l =>
        rw [hr] at e
        obtain rfl := Option.some.inj e
        rw [List.map_cons, evP_reads h r l hr, h x v hx]
structure RecB (D : FD) (B N : Nat) (w : World) (g : Nat) (E : TypeId) (cs : List Value) : Prop where
  blk : Blk w g E cs
  low : N ≤ g
  base : B ≤ g
  priv : Priv D B w g
  ty : E ≠ D.T
section
variable {D : FD} {B N g : Nat} {w w' : World} {E : TypeId} {cs : List Value}
theorem RecB.st (h : RecB D B N w g E cs) (hs : St D B w w') : RecB D B N w' g E cs := ⟨h.blk.st h.ty hs, h.low, h.base, hs.ext.priv g (heap_lt h.blk) h.priv, h.ty⟩
theorem RecB.mb {b : Option Nat} (h : RecB D B N w g E cs) (hm : Mb D B b w w') (hb : b ≠ some g) : RecB D B N w' g E cs := ⟨h.blk.mb hm hb, h.low, h.base, hm.priv h.priv, h.ty⟩
theorem RecB.kc (h : RecB D B N w g E cs) (i : Nat) {v : Value} (hv : nth cs i = some v) : KC D B w ⟨g, i, none⟩ v := h.blk.kc h.ty i hv
theorem RecB.le {N' : Nat} (h : RecB D B N w g E cs) (hN : N' ≤ N) : RecB D B N' w g E cs := ⟨h.blk, Nat.le_trans hN h.low, h.base, h.priv, h.ty⟩
end
section
variable {P : Program} {ops : Array Oper} {K : Kont} {rest : List Oper} {n : NN} {F : Fs} {T : TypeId} {pp : String} {af : Array Edge} {v : Value} {d : Nat} {a : Act} {w : World} {x y : Operand} {D : FD} {B : Nat}
theorem v_build {t : TypeId} {ps : List (Nat × Operand)} {vs : List (Nat × Value)} {cs : Array Value} (hv : evP F ps = some vs) (h : P.built t vs = some cs) : Val P (.build t ps.toArray) T F w (.agg cs) :=
  fun ρ hr d p af g => by
    have e := evP_reads hr ps vs hv
    have := run_build (P := P) w t vs.toArray cs (by simpa using h)
    simp only [execOp, List.map_toArray, e]
    simp [this]
theorem v_loadN {t E : TypeId} {g : Nat} {cs : List Value} {d' : TypeDesc} (hu : P.underlying t = some d') (hd : (match d' with | .struct _ | .array _ _ => true | _ => false) = true) (hi : (P.info? t).map (fun i => i.size) = some cs.length) (hx : ev F x = some (.pointer (some ⟨g, 0, none⟩))) (hb : Blk w g E cs) : Val P (.load t x) T F w (.agg cs.toArray) :=
  fun ρ h d p af g' => by
    have := run_loadVar_row (P := P) w g E t cs.toArray (0, 0) _ hb hu hd (by simpa using hi)
    simp only [execOp, h x _ hx, Instr.loadAt, Instr.sureAddr]
    simp [this]
theorem s_allocN {e : TypeId} {z : Value} (hF : Fr n F a) (hz : (P.info? e).map (fun i => i.zero) = some (some z)) (he : e ≠ D.T) (hI : Inv D B w) (hd : Nat.blt d n.n = true)
    (k : ∀ g w' a, Mb D B none w w' → Inv D B w' → RecB D B w.heap.size w' g e z.cells.toList → Fr n ((d, .pointer (some ⟨g, 0, none⟩)) :: F) a → WL P ops K rest a w') :
    WL P ops K (⟨some d, .alloc e, T, pp, af, none⟩ :: rest) a w := by
  cases hi : P.info? e with
  | none => rw [hi] at hz; cases hz
  | some i =>
    rw [hi] at hz
    have hz2 : i.zero = some z := by simpa using hz
    have hm := Mb.alloc D B w z.cells e (0, 0) he
    refine s_run (w' := w.alloc (.cells z.cells e)) hF (fun ρ h => ?_) hd fun a hF => k _ _ a hm (hm.inv hI) ⟨by unfold Blk; rw [Array.toArray_toList]; exact alloc_new w _, Nat.le_refl _, hI.1, hm.priv (hI.priv_new (Nat.le_refl _)), he⟩ hF
    simp [execOp, Instr.alloc, zeroValue, typeInfo, hi, hz2, newVar, newRow, newObj, Sem.run]
theorem s_storeN {t E : TypeId} {g N : Nat} {old : List Value} {cs : Array Value} (hF : Fr n F a) (hi : (P.info? t).map (fun i => i.size) = some cs.size) (hx : ev F x = some (.pointer (some ⟨g, 0, none⟩))) (hy : ev F y = some (.agg cs)) (h1 : cs.toList.all (·.oneCell') = true) (hl : old.length = cs.size) (hb : RecB D B N w g E old) (hI : Inv D B w)
    (k : ∀ w', Mb D B (some g) w w' → Inv D B w' → RecB D B N w' g E cs.toList → WL P ops K rest a w') : WL P ops K (⟨none, .store t x y, T, pp, af, none⟩ :: rest) a w := by
  have hg : w.heap[g]? = some (.cells old.toArray E (0, 0)) := hb.blk
  have hst := run_storeVar_row (P := P) w g E t old.toArray cs hg hi (by simpa using hl) (by simpa using h1)
  have hrun : (execOp a.eval ⟨none, .store t x y, T, pp, af, none⟩).run P w = .ok .skip (w.setRow g cs) := by
    simp only [execOp, hF.reads x _ hx, hF.reads y _ hy, Instr.storeAt, Instr.sureAddr]
    simp [hst]
  have hm := Mb.setRow (D := D) (B := B) (cs := cs) hg hb.ty hb.base hb.priv
  unfold WL wpList
  rw [if_pos (by simp [Region.wanted])]
  refine .inl ?_
  unfold Oper.wp
  rw [hrun]
  exact k _ hm (hm.inv hI) ⟨by unfold Blk; rw [Array.toArray_toList]; exact setRow_heap w g _ cs E _ hg, hb.low, hb.base, hm.priv hb.priv, hb.ty⟩
theorem v_indexR {t e s m : Nat} {i : Operand} {kd : IntKind} {I : Int} {cs : Array Value} {ds : TypeDesc} (ht : P.underlying t = some (.array m e)) (hs : (P.info? e).map (fun i => i.size) = some s) (hu : P.underlying e = some ds) (hd : (match ds with | .struct _ | .array _ _ => true | _ => false) = true)
    (hx : ev F x = some (.agg cs)) (hi : ev F i = some (.int kd I)) (h0 : 0 ≤ I) (hl : I < m) : Val P (.index t x i) T F w (.agg (cs.extract (I.toNat * s) (I.toNat * s + s))) :=
  fun ρ h d p af g => by
    cases hinf : P.info? e with
    | none => rw [hinf] at hs; cases hs
    | some inf =>
      rw [hinf] at hs
      have hs2 : inf.size = s := by simpa using hs
      have hagg : (isAgg e).run P w = .ok true w := by
        unfold isAgg
        rw [Sem.run_bind, run_underlying hu w]
        cases ds <;> simp_all
      simp [execOp, h x _ hx, h i _ hi, Instr.index, asIntOf, run_underlying ht, h0, hl, part, hagg, sizeOf, typeInfo, hinf, hs2]
end
/-! ### results that are read from cells -/
section
variable {P : Program}
theorem ld_rec {D : FD} {B N g : Nat} {w : World} {t E : TypeId} {cs : List Value} {d' : TypeDesc} (hu : P.underlying t = some d') (hd : (match d' with | .struct _ | .array _ _ => true | _ => false) = true) (hi : (P.info? t).map (fun i => i.size) = some cs.length) (hb : RecB D B N w g E cs) : (loadVar t ⟨g, 0, none⟩).run P w = .ok (.agg cs.toArray) w :=
  run_loadVar_row (P := P) w g E t cs.toArray (0, 0) _ hb.blk hu hd (by simpa using hi)
theorem enterC {w : World} {f : FuncId} {fn : Func} {c : Code} {vs : List Value} {Q : Value → World → Prop} (n : NN) (F : Fs) (t ty : Nat) (hf : P.funcs[f]? = some fn) (hb : fn.body = some c) (hn : n = ⟨fn.ntmps, []⟩) (hr : fn.results = #[.cell t ty]) (hle : Nat.ble vs.length n.n = true) (hF : F = idx vs 0)
    (h : ∀ a, Fr n F a → W P c (fun a w => ∃ F' g v, Fr n F' a ∧ look F' t = some (.pointer (some g)) ∧ (loadVar ty g).run P w = .ok v w ∧ Q v w) [] (fun a w => ∃ F' g v, Fr n F' a ∧ look F' t = some (.pointer (some g)) ∧ (loadVar ty g).run P w = .ok v w ∧ Q v w) a w) : Ret P f vs w Q := by
  refine enterG _ hf hb hn hle hF (fun a w ⟨F', g, v, hF', hl, hld, hq⟩ => ⟨by rw [hF'.defers, hn]; rfl, v, ?_, hq⟩) h
  have hv := hF'.val t _ hl
  simp [results, hr, Array.getD_eq_getD_getElem?, hv, asAddr, hld]
theorem enterCT {w : World} {f : FuncId} {fn : Func} {c : Code} {vs : List Value} {Q : Value → World → Prop} (n : NN) (F : Fs) (t ty s : Nat) (hf : P.funcs[f]? = some fn) (hb : fn.body = some c) (hn : n = ⟨fn.ntmps, []⟩) (hr : fn.results = #[.cell t ty, .tmp s]) (hle : Nat.ble vs.length n.n = true) (hF : F = idx vs 0)
    (h : ∀ a, Fr n F a → W P c (fun a w => ∃ F' g v u, Fr n F' a ∧ look F' t = some (.pointer (some g)) ∧ (loadVar ty g).run P w = .ok v w ∧ look F' s = some u ∧ Q (.tuple #[v, u]) w) [] (fun a w => ∃ F' g v u, Fr n F' a ∧ look F' t = some (.pointer (some g)) ∧ (loadVar ty g).run P w = .ok v w ∧ look F' s = some u ∧ Q (.tuple #[v, u]) w) a w) : Ret P f vs w Q := by
  refine enterG _ hf hb hn hle hF (fun a w ⟨F', g, v, u, hF', hl, hld, hm, hq⟩ => ⟨by rw [hF'.defers, hn]; rfl, _, ?_, hq⟩) h
  have hv := hF'.val t _ hl
  have hu := hF'.val s u hm
  simp [results, hr, Array.getD_eq_getD_getElem?, hv, hu, asAddr, hld]
end
end Go.Gam

/- The table of profiles. No program in sight. -/
set_option linter.unusedSectionVars false
namespace Go.Gam
def prf (a b : UInt8) (bits poly : Int) (l : Int) (m : Int) : List Value := [.string ⟨#[a, b]⟩, .int .i64 bits, .int .u32 poly, .int .u8 l, .int .i64 m]
def prz : List Value := [.string ⟨#[]⟩, .int .i64 0, .int .u32 0, .int .u8 0, .int .i64 0]
def prN : Nat → List Value
  | 0 => prf 106 118 8 285 106 4
  | 1 => prf 106 99 16 69643 106 4
  | 2 => prf 105 114 8 285 105 3
  | 3 => prf 105 99 8 285 105 4
  | 4 => prf 98 98 8 285 98 4
  | _ => prf 107 112 8 285 112 4
def prAll : List Value := prN 0 ++ (prN 1 ++ (prN 2 ++ (prN 3 ++ (prN 4 ++ prN 5))))
def prOf (p : Int) : List Value := if 1 ≤ p ∧ p ≤ 6 then prN (p - 1).toNat else prz
theorem prN_len (i : Nat) : (prN i).length = 5 := by unfold prN; split <;> rfl
theorem prOf_len (p : Int) : (prOf p).length = 5 := by unfold prOf; split; exact prN_len _; rfl
theorem prOf_one (p : Int) : (prOf p).toArray.toList.all (·.oneCell') = true := by
  unfold prOf prN
  split
  · split <;> rfl
  · rfl
theorem prOf_ext {p : Int} (h1 : 1 ≤ p) (h2 : p ≤ 6) : prAll.toArray.extract ((p - 1).toNat * 5) ((p - 1).toNat * 5 + 5) = (prOf p).toArray := by
  have : p = 1 ∨ p = 2 ∨ p = 3 ∨ p = 4 ∨ p = 5 ∨ p = 6 := by omega
  rcases this with rfl | rfl | rfl | rfl | rfl | rfl <;> rfl
theorem prOf_no {p : Int} (h : ¬ (1 ≤ p ∧ p ≤ 6)) : prOf p = prz := if_neg h
def tagS : Nat → ByteArray
  | 0 => ⟨#[106, 118]⟩
  | 1 => ⟨#[106, 99]⟩
  | 2 => ⟨#[105, 114]⟩
  | 3 => ⟨#[105, 99]⟩
  | 4 => ⟨#[98, 98]⟩
  | _ => ⟨#[107, 112]⟩
theorem prN_tag (i : Nat) : nth (prN i).toArray.toList 0 = some (.string (tagS i)) := by unfold prN tagS; split <;> rfl
theorem prN_one (i : Nat) : (prN i).toArray.toList.all (·.oneCell') = true := by unfold prN; split <;> rfl
theorem prN_ext {i : Nat} (h : i < 6) : prAll.toArray.extract ((i : Int).toNat * 5) ((i : Int).toNat * 5 + 5) = (prN i).toArray := by
  have : i = 0 ∨ i = 1 ∨ i = 2 ∨ i = 3 ∨ i = 4 ∨ i = 5 := by omega
  rcases this with rfl | rfl | rfl | rfl | rfl | rfl <;> rfl
def tagR (s : ByteArray) : Nat → Nat → Int × Bool
  | _, 0 => (0, false)
  | i, d + 1 => if tagS i = s then (((i + 1 : Nat) : Int), true) else tagR s (i + 1) d
def maxM (p : Int) : Int := if p = 3 then 3 else 4
theorem prOf_max {p : Int} (h1 : 1 ≤ p) (h2 : p ≤ 6) : nth (prOf p).toArray.toList 4 = some (.int .i64 (maxM p)) := by
  have : p = 1 ∨ p = 2 ∨ p = 3 ∨ p = 4 ∨ p = 5 ∨ p = 6 := by omega
  rcases this with rfl | rfl | rfl | rfl | rfl | rfl <;> rfl
def mayP (p k m : Int) : Bool := decide (1 ≤ p ∧ p ≤ 6 ∧ 1 ≤ k ∧ k ≤ 8 ∧ 1 ≤ m ∧ m ≤ maxM p)
def pfl (p : Int) : Nat × Nat := if p = 2 then (16, 69643) else (8, 285)
theorem prOf_bits {p : Int} (h1 : 1 ≤ p) (h2 : p ≤ 6) : nth (prOf p).toArray.toList 1 = some (.int .i64 (((pfl p).1 : Nat) : Int)) := by
  have : p = 1 ∨ p = 2 ∨ p = 3 ∨ p = 4 ∨ p = 5 ∨ p = 6 := by omega
  rcases this with rfl | rfl | rfl | rfl | rfl | rfl <;> rfl
theorem prOf_poly {p : Int} (h1 : 1 ≤ p) (h2 : p ≤ 6) : nth (prOf p).toArray.toList 2 = some (.int .u32 (((pfl p).2 : Nat) : Int)) := by
  have : p = 1 ∨ p = 2 ∨ p = 3 ∨ p = 4 ∨ p = 5 ∨ p = 6 := by omega
  rcases this with rfl | rfl | rfl | rfl | rfl | rfl <;> rfl
theorem pfl_new (p : Int) : newF ((pfl p).1 : Int) (pfl p).2 = some (pfl p) := by
  unfold pfl
  split
  · exact newF_p prm_69643
  · exact newF_p prm_285
theorem pfl_lt (p : Int) : (pfl p).1 ≤ 16 ∧ (pfl p).2 < 4294967296 := by unfold pfl; split <;> decide
section
variable {wb q : Nat} (hp : Prm wb q)
def behM (k m : Int) : Option Mtx := if fitB (some (wb, q)) k m = true then some (tab m.toNat k.toNat fun i j => sysT hp k.toNat (k.toNat + i) j) else none
end
/-! ### parity rows of a profile -/
theorem rnL_nodup (fr n : Nat) : (rnL fr n).Nodup := by
  unfold rnL
  rw [List.nodup_iff_pairwise_ne, List.pairwise_map]
  exact List.nodup_range.imp fun h e => h (by omega)
theorem rnL_mem {fr n : Nat} {z : Int} : z ∈ rnL fr n ↔ ∃ j, j < n ∧ z = ((fr + j : Nat) : Int) := by
  unfold rnL
  simp only [List.mem_map, List.mem_range]
  exact ⟨fun ⟨j, h, e⟩ => ⟨j, h, e.symm⟩, fun ⟨j, h, e⟩ => ⟨j, h, e.symm⟩⟩
theorem rn_ok {wb a n b m : Nat} (hw : wb = 8 ∨ wb = 16) (h1 : 1 ≤ n) (h2 : 1 ≤ m) (h3 : n + m ≤ 20) (hd : a + n = b ∧ a = 0 ∨ b + m = a ∧ b = 0) : ofB wb (rnL a n) (rnL b m) = true := by
  have hs : 2 ^ wb ≥ 256 := by rcases hw with h | h <;> rw [h] <;> decide
  refine ofB_ok (by rw [rnL_length, rnL_length]; omega) (List.nodup_append.2 ⟨rnL_nodup _ _, rnL_nodup _ _, fun x hx y hy e => ?_⟩) fun z hz => ?_
  · obtain ⟨i, hi, rfl⟩ := rnL_mem.1 hx
    obtain ⟨j, hj, rfl⟩ := rnL_mem.1 hy
    omega
  · rcases List.mem_append.1 hz with hz | hz <;> obtain ⟨i, hi, rfl⟩ := rnL_mem.1 hz <;> constructor <;> omega
section
variable {wb q : Nat} (hp : Prm wb q)
theorem origM_is {k m : Nat} (h1 : 1 ≤ k) (h2 : 1 ≤ m) (h3 : k + m ≤ 20) : origM hp (k : Int) (m : Int) = some (tab m k (ofT hp (rnL 0 m) (rnL m k))) := by
  unfold origM
  rw [if_pos (fitB_ok rfl h1 h2 h3), Int.toNat_natCast, Int.toNat_natCast, ofM_is hp (rn_ok hp.w (by omega) (by omega) (by omega) (by omega)), rnL_length, rnL_length]
theorem cisaM_is {k m : Nat} (h1 : 1 ≤ k) (h2 : 1 ≤ m) (h3 : k + m ≤ 20) : cisaM hp (k : Int) (m : Int) = some (tab m k (ofT hp (rnL k m) (rnL 0 k))) := by
  unfold cisaM
  rw [if_pos (fitB_ok rfl h1 h2 h3), Int.toNat_natCast, Int.toNat_natCast, ofM_is hp (rn_ok hp.w (by omega) (by omega) (by omega) (by omega)), rnL_length, rnL_length]
end
def prT (p : Int) (k m : Nat) : Tb :=
  if p = 1 then parT prm_285 k m else if p = 2 then ofT prm_69643 (rnL 0 m) (rnL m k) else if p = 3 then isT (some (8, 285)) else if p = 4 then ofT prm_285 (rnL k m) (rnL 0 k) else fun i j => sysT prm_285 k (k + i) j
theorem mayP_of {p k m : Int} (h : mayP p k m = true) : 1 ≤ p ∧ p ≤ 6 ∧ ∃ kn mn : Nat, k = (kn : Int) ∧ m = (mn : Int) ∧ 1 ≤ kn ∧ kn ≤ 8 ∧ 1 ≤ mn ∧ mn ≤ 4 ∧ (p = 3 → mn ≤ 3) := by
  unfold mayP maxM at h
  have h := of_decide_eq_true h
  refine ⟨h.1, h.2.1, k.toNat, m.toNat, ?_⟩
  split at h <;> omega
theorem mayP_is {p : Int} {kn mn : Nat} (h1 : 1 ≤ p ∧ p ≤ 6) (h2 : 1 ≤ kn ∧ kn ≤ 8) (h3 : 1 ≤ mn ∧ mn ≤ 4) (h4 : p = 3 → mn ≤ 3) : mayP p (kn : Int) (mn : Int) = true := by
  unfold mayP maxM
  refine decide_eq_true ?_
  split <;> omega
/-! ### plain laws of layer 9 -/
theorem aw9_par : tab 2 2 (prT 3 2 2) = [[1, 1], [1, 2]] := by
  have h1 := isalM_is (o := some (8, 285)) rfl (k := 2) (m := 2) (by decide) (by decide) (by decide)
  have e : prT 3 2 2 = isT (some (8, 285)) := by unfold prT; simp
  rw [e]
  exact Option.some.inj (h1.symm.trans aw6_isal)
theorem prOf_N {i : Nat} (h : i < 6) : prOf ((i + 1 : Nat) : Int) = prN i := by
  unfold prOf
  rw [if_pos (by omega), show (((i + 1 : Nat) : Int) - 1).toNat = i by omega]
theorem prOf_tag {i : Nat} (h : i < 6) : nth (prOf ((i + 1 : Nat) : Int)).toArray.toList 0 = some (.string (tagS i)) := by rw [prOf_N h]; exact prN_tag i
def fns (a b c d e f : FuncId) : List Value := [.func (.func a) #[] #[], .func (.func b) #[] #[], .func (.func c) #[] #[], .func (.func d) #[] #[], .func (.func e) #[] #[], .func (.func f) #[] #[]]
end Go.Gam

/- Rows of bytes as strings. No program in sight. -/
namespace Go.Gam
def bstr (l : List Nat) : ByteArray := ⟨(l.map UInt8.ofNat).toArray⟩
section
variable {P : Program} {F : Fs} {T : TypeId} {w : World} {x y : Operand} {D : FD} {B : Nat}
theorem v_eqlS {a b : ByteArray} {t s : TypeId} (hx : ev F x = some (.string a)) (hy : ev F y = some (.string b)) : Val P (.binOp .eql t x y s) T F w (.bool (a == b)) :=
  fun ρ h d p af g => by
    simp only [execOp, h x _ hx, h y _ hy, eqGuard, binOp]
    simp [Op.stringOp, beq_toListBytes]
end
end Go.Gam

/- The walks of package profile: the table, a profile. -/
namespace Go.Proofs.YtkoiolamnnmokaaGreat
open Go Go.Gam
namespace FxFProf
theorem en7 : Ent Tryz.prog 7 := ent Tryz.func7 (by kernel_rfl) (by kernel_rfl)
theorem en25 : Ent Tryz.prog 25 := ent Tryz.func25 (by kernel_rfl) (by kernel_rfl)
theorem en36 : Ent Tryz.prog 36 := ent Tryz.func36 (by kernel_rfl) (by kernel_rfl)
theorem en59 : Ent Tryz.prog 59 := ent Tryz.func59 (by kernel_rfl) (by kernel_rfl)
theorem fa23_0 : FieldFact Tryz.prog 23 0 0 := ff_of (sz := 0) Tryz.underlying23 (by kernel_rfl)
theorem fa23_1 : FieldFact Tryz.prog 23 1 1 := ff_of (sz := 0) Tryz.underlying23 (by kernel_rfl)
theorem fa23_2 : FieldFact Tryz.prog 23 2 2 := ff_of (sz := 0) Tryz.underlying23 (by kernel_rfl)
theorem fa27_0 : FieldFact Tryz.prog 27 0 0 := ff_of (sz := 0) Tryz.underlying27 (by kernel_rfl)
theorem fa27_1 : FieldFact Tryz.prog 27 1 1 := ff_of (sz := 0) Tryz.underlying27 (by kernel_rfl)
theorem fa27_2 : FieldFact Tryz.prog 27 2 2 := ff_of (sz := 0) Tryz.underlying27 (by kernel_rfl)
theorem fa27_4 : FieldFact Tryz.prog 27 4 4 := ff_of (sz := 0) Tryz.underlying27 (by kernel_rfl)
theorem sc25 : Scalar Tryz.prog 25 := ⟨_, Tryz.underlying25, by simp, by simp⟩
theorem sc3 : Scalar Tryz.prog 3 := ⟨_, Tryz.underlying3, by simp, by simp⟩
theorem sc9 : Scalar Tryz.prog 9 := ⟨_, Tryz.underlying9, by simp, by simp⟩
theorem sl36 : Sl Tryz.prog 36 53 (.slice none 0 0) 24 := sl_of Tryz.underlying36 rfl (by kernel_rfl)
end FxFProf
open FxFProf
set_option maxRecDepth 100000 in
set_option maxHeartbeats 1000000 in
theorem table_ok (B : Nat) (w : World) (hI : Inv FDx B w) : Ret Tryz.prog 25 [] w fun v w' => v = .agg prAll.toArray ∧ St FDx B w w' := by
 refine enterC 8 [] 0 62 Tryz.func25 rfl rfl rfl rfl rfl ?_; intro a hF
 have hS := St.refl hI
 refine W_sr rfl fun K hK => ?_
 refine s_allocN (D := FDx) (B := B) (z := .agg (prz ++ (prz ++ (prz ++ (prz ++ (prz ++ prz))))).toArray) hF (by kernel_rfl) (by decide) hS.inv rfl ?_; clear hF a; intro gT w' a hm hI' hT hF
 replace hS := hS.mb0 hm
 clear hm hI'
 refine wn hK ?_
 clear hK K
 refine W_sr rfl fun K hK => ?_
 refine sv hF (v_build (cs := (prN 0).toArray) rfl (by kernel_rfl)) rfl ?_; clear hF a; intro a hF
 refine sv hF (v_build (cs := (prN 1).toArray) rfl (by kernel_rfl)) rfl ?_; clear hF a; intro a hF
 refine sv hF (v_build (cs := (prN 2).toArray) rfl (by kernel_rfl)) rfl ?_; clear hF a; intro a hF
 refine sv hF (v_build (cs := (prN 3).toArray) rfl (by kernel_rfl)) rfl ?_; clear hF a; intro a hF
 refine sv hF (v_build (cs := (prN 4).toArray) rfl (by kernel_rfl)) rfl ?_; clear hF a; intro a hF
 refine sv hF (v_build (cs := (prN 5).toArray) rfl (by kernel_rfl)) rfl ?_; clear hF a; intro a hF
 refine sv hF (v_build (cs := (prAll).toArray) rfl (by kernel_rfl)) rfl ?_; clear hF a; intro a hF
 refine s_storeN (D := FDx) (B := B) hF (by kernel_rfl) rfl rfl (rfl) (by rfl) hT hS.inv ?_; intro w' hm hI' hrc'
 replace hS := hS.mb hm (fun k h => by cases h; exact hT.low)
 replace hT := hrc'
 clear hm hI' hrc'
 refine wn hK ?_
 clear hK K
 replace hF := hF.sub _ (c_ 0 rfl (n_))
 refine W_ret ?_
 refine ⟨_, _, _, hF, rfl, (ld_rec Tryz.underlying62 rfl (by kernel_rfl) hT), ?_⟩
 exact ⟨rfl, hS⟩
set_option maxRecDepth 100000 in
set_option maxHeartbeats 1000000 in
theorem POf_ok (B : Nat) (p : Int) (w : World) (hI : Inv FDx B w) : Ret Tryz.prog 7 [.int .i64 p] w fun v w' => v = .tuple #[.agg (prOf p).toArray, .bool (decide (1 ≤ p ∧ p ≤ 6))] ∧ St FDx B w w' := by
 refine enterCT 15 [(0, .int .i64 p)] 2 27 3 Tryz.func7 rfl rfl rfl rfl rfl ?_; intro a hF
 have hS := St.refl hI
 refine W_sr rfl fun K hK => ?_
 refine s_allocN (D := FDx) (B := B) (z := .agg prz.toArray) hF (by kernel_rfl) (by decide) hS.inv rfl ?_; clear hF a; intro gR w' a hm hI' hR hF
 replace hS := hS.mb0 hm
 clear hm hI'
 refine svw hK hF (v_assign rfl) rfl ?_; clear hF a hK K; intro a hF
 refine W_seq ?_
 refine W_sr rfl fun K hK => ?_
 refine sv hF (v_move rfl) rfl ?_; clear hF a; intro a hF
 refine sb hF (v_lss rfl rfl) rfl ?_ ?_
 ·
  clear hF a; intro hc1 a hF
  try simp only [dcl] at hc1
  refine sv hF (v_move rfl) rfl ?_; clear hF a; intro a hF
  refine svn2 hF rfl rfl rfl rfl rfl rfl ?_; clear hF a; intro a hF
  refine svw hK hF (v_pickT rfl rfl) rfl ?_; clear hF a hK K; intro a hF
  replace hF := hF.sub _ (c_ 9 rfl (c_ 3 rfl (c_ 2 rfl (c_ 0 rfl (n_)))))
  refine W_ifT hF rfl ?_
  refine W_sr rfl fun K hK => ?_
  refine sv hF (v_build (cs := (prz).toArray) rfl (by kernel_rfl)) rfl ?_; clear hF a; intro a hF
  refine s_storeN (D := FDx) (B := B) hF (by kernel_rfl) rfl rfl (rfl) (by rfl) hR hS.inv ?_; intro w' hm hI' hrc'
  replace hS := hS.mb hm (fun k h => by cases h; exact hR.low)
  replace hR := hrc'
  clear hm hI' hrc'
  refine svw hK hF (v_assign rfl) rfl ?_; clear hF a hK K; intro a hF
  replace hF := hF.sub _ (c_ 3 rfl (c_ 2 rfl (c_ 0 rfl (n_))))
  refine W_ret ?_
  refine ⟨_, _, _, _, hF, rfl, (ld_rec Tryz.underlying27 rfl (by first | (rw [List.toList_toArray, prOf_len]; kernel_rfl) | kernel_rfl) hR), rfl, ?_⟩
  exact ⟨by rw [prOf_no (by omega), decide_eq_false (by omega)], hS⟩
 ·
  clear hF a; intro hc1 a hF
  try simp only [dcl] at hc1
  refine sv hF (v_move rfl) rfl ?_; clear hF a; intro a hF
  refine svg hF rfl ?_
  refine sv hF (v_move rfl) rfl ?_; clear hF a; intro a hF
  refine svg hF rfl ?_
  refine sv2w hK hF (v_gtr rfl rfl) (v_pickF rfl rfl) rfl rfl ?_; clear hF a hK K; intro a hF
  replace hF := hF.sub _ (c_ 9 rfl (c_ 3 rfl (c_ 2 rfl (c_ 0 rfl (n_)))))
  refine W_if hF rfl (fun hc2 => ?_) (fun hc2 => ?_)
  ·
   skip
   try simp only [dcl] at hc2
   refine W_sr rfl fun K hK => ?_
   refine sv hF (v_build (cs := (prz).toArray) rfl (by kernel_rfl)) rfl ?_; clear hF a; intro a hF
   refine s_storeN (D := FDx) (B := B) hF (by kernel_rfl) rfl rfl (rfl) (by rfl) hR hS.inv ?_; intro w' hm hI' hrc'
   replace hS := hS.mb hm (fun k h => by cases h; exact hR.low)
   replace hR := hrc'
   clear hm hI' hrc'
   refine svw hK hF (v_assign rfl) rfl ?_; clear hF a hK K; intro a hF
   replace hF := hF.sub _ (c_ 3 rfl (c_ 2 rfl (c_ 0 rfl (n_))))
   refine W_ret ?_
   refine ⟨_, _, _, _, hF, rfl, (ld_rec Tryz.underlying27 rfl (by first | (rw [List.toList_toArray, prOf_len]; kernel_rfl) | kernel_rfl) hR), rfl, ?_⟩
   exact ⟨by rw [prOf_no (by omega), decide_eq_false (by omega)], hS⟩
  ·
   skip
   try simp only [dcl] at hc2
   refine W_skip ?_
   refine W_sr rfl fun K hK => ?_
   refine sc hF rfl rfl rfl en25 rfl (table_ok B _ hS.inv) ?_; clear hF a; intro v w' a hv hF
   obtain ⟨rfl, hS'⟩ := hv
   replace hR := hR.st hS'
   replace hS := hS.trans hS'
   clear hS'
   refine sv2 hF (v_move rfl) (v_subI rfl rfl (by omega)) rfl rfl ?_; clear hF a; intro a hF
   refine sv hF ((v_indexR (s := 5) Tryz.underlying62 (by kernel_rfl) Tryz.underlying27 rfl rfl rfl (by omega) (by omega)).as (congrArg Value.agg (prOf_ext (p := p) (by omega) (by omega)))) rfl ?_; clear hF a; intro a hF
   refine s_storeN (D := FDx) (B := B) hF (by rw [List.size_toArray, prOf_len]; kernel_rfl) rfl rfl (prOf_one p) (by rw [List.size_toArray, prOf_len]; rfl) hR hS.inv ?_; intro w' hm hI' hrc'
   replace hS := hS.mb hm (fun k h => by cases h; exact hR.low)
   replace hR := hrc'
   clear hm hI' hrc'
   refine svw hK hF (v_assign rfl) rfl ?_; clear hF a hK K; intro a hF
   replace hF := hF.sub _ (c_ 3 rfl (c_ 2 rfl (n_)))
   refine W_ret ?_
   refine ⟨_, _, _, _, hF, rfl, (ld_rec Tryz.underlying27 rfl (by first | (rw [List.toList_toArray, prOf_len]; kernel_rfl) | kernel_rfl) hR), rfl, ?_⟩
   exact ⟨by rw [decide_eq_true (by omega)], hS⟩
set_option maxRecDepth 100000 in
set_option maxHeartbeats 1000000 in
theorem PMay_in (B : Nat) (p k m : Int) (w : World) (hI : Inv FDx B w) (hpp : 1 ≤ p ∧ p ≤ 6) : Ret Tryz.prog 14 [.agg #[.int .i64 p, .int .i64 k, .int .i64 m]] w fun v w' => v = .bool (mayP p k m) ∧ St FDx B w w' := by
 refine enter 34 [(0, .agg #[.int .i64 p, .int .i64 k, .int .i64 m])] 2 Tryz.func14 rfl rfl rfl rfl rfl ?_; intro a hF
 have hS := St.refl hI
 refine W_sr rfl fun K hK => ?_
 refine s_box (D := FDx) (B := B) hF rfl (by decide) hS.inv rfl ?_; clear hF a; intro w' a hm hbx hsz hF
 replace hS := hS.mb0 hm
 clear hm
 refine svw hK hF (v_assign rfl) rfl ?_; clear hF a hK K; intro a hF
 replace hF := hF.sub _ (c_ 2 rfl (c_ 1 rfl (n_)))
 refine W_sr rfl fun K hK => ?_
 refine sv2 hF (v_fieldAddr fa23_0 rfl) (v_load sc3 rfl (hbx.at 0 rfl)) rfl rfl ?_; clear hF a; intro a hF
 refine sc hF rfl rfl rfl en7 rfl (POf_ok B p _ hS.inv) ?_; clear hF a; intro v w' a hv hF
 obtain ⟨rfl, hS'⟩ := hv
 replace hbx := hbx.st (by decide) hS'
 replace hS := hS.trans hS'
 clear hS'
 refine sv3 hF (v_move rfl) (v_ext rfl rfl) ((v_ext rfl rfl).as (congrArg Value.bool (decide_eq_true (hpp)))) rfl rfl rfl ?_; clear hF a; intro a hF
 have hs0 := hS.ext.size
 refine s_allocN (D := FDx) (B := B) (z := .agg prz.toArray) hF (by kernel_rfl) (by decide) hS.inv rfl ?_; clear hF a; intro gR w' a hm hI' hR hF
 replace hbx := hbx.mb hm (by simp)
 replace hS := hS.mb0 hm
 clear hm hI'
 replace hR := hR.le hs0
 clear hs0
 refine s_storeN (D := FDx) (B := B) hF (by rw [List.size_toArray, prOf_len]; kernel_rfl) rfl rfl (prOf_one p) (by rw [List.size_toArray, prOf_len]; rfl) hR hS.inv ?_; intro w' hm hI' hrc'
 replace hbx := hbx.mb hm (by intro e; cases e; exact absurd hR.blk (by intro e2; have := hbx.symm.trans e2; cases this))
 replace hS := hS.mb hm (fun k h => by cases h; exact hR.low)
 replace hR := hrc'
 clear hm hI' hrc'
 refine svw hK hF (v_assign rfl) rfl ?_; clear hF a hK K; intro a hF
 replace hF := hF.sub _ (c_ 4 rfl (c_ 3 rfl (c_ 2 rfl (c_ 1 rfl (n_)))))
 refine W_sr rfl fun K hK => ?_
 refine sv2 hF (v_move rfl) (v_move rfl) rfl rfl ?_; clear hF a; intro a hF
 refine svg hF rfl ?_
 refine sv hF (v_fieldAddr fa23_1 rfl) rfl ?_; clear hF a; intro a hF
 refine svg hF rfl ?_
 refine sv hF (v_load sc3 rfl (hbx.at 1 rfl)) rfl ?_; clear hF a; intro a hF
 refine svg hF rfl ?_
 refine sb hF (v_geq rfl rfl) rfl ?_ ?_
 ·
  clear hF a; intro hc1 a hF
  try simp only [dcl] at hc1
  refine sv2 hF (v_pickT rfl rfl) (v_move rfl) rfl rfl ?_; clear hF a; intro a hF
  refine svg hF rfl ?_
  refine sv hF (v_fieldAddr fa23_1 rfl) rfl ?_; clear hF a; intro a hF
  refine svg hF rfl ?_
  refine sv hF (v_load sc3 rfl (hbx.at 1 rfl)) rfl ?_; clear hF a; intro a hF
  refine svg hF rfl ?_
  refine sb hF (v_leq rfl rfl) rfl ?_ ?_
  ·
   clear hF a; intro hc2 a hF
   try simp only [dcl] at hc2
   refine sv2 hF (v_pickT rfl rfl) (v_move rfl) rfl rfl ?_; clear hF a; intro a hF
   refine svg hF rfl ?_
   refine sv hF (v_fieldAddr fa23_2 rfl) rfl ?_; clear hF a; intro a hF
   refine svg hF rfl ?_
   refine sv hF (v_load sc3 rfl (hbx.at 2 rfl)) rfl ?_; clear hF a; intro a hF
   refine svg hF rfl ?_
   refine sb hF (v_geq rfl rfl) rfl ?_ ?_
   ·
    clear hF a; intro hc3 a hF
    try simp only [dcl] at hc3
    refine sv2 hF (v_pickT rfl rfl) (v_move rfl) rfl rfl ?_; clear hF a; intro a hF
    refine svg hF rfl ?_
    refine sv hF (v_fieldAddr fa23_2 rfl) rfl ?_; clear hF a; intro a hF
    refine svg hF rfl ?_
    refine sv hF (v_load sc3 rfl (hbx.at 2 rfl)) rfl ?_; clear hF a; intro a hF
    refine svg hF rfl ?_
    refine sv hF (v_fieldAddr fa27_4 rfl) rfl ?_; clear hF a; intro a hF
    refine svg hF rfl ?_
    refine sv hF (v_load sc3 rfl ((hR.kc 4 (prOf_max hpp.1 hpp.2)).c)) rfl ?_; clear hF a; intro a hF
    refine svg hF rfl ?_
    refine sv3w hK hF (v_leq rfl rfl) (v_pickT rfl rfl) (v_assign rfl) rfl rfl rfl ?_; clear hF a hK K; intro a hF
    replace hF := hF.sub _ (c_ 2 rfl (n_))
    refine W_ret ?_
    refine ⟨_, _, hF, rfl, ?_⟩
    exact ⟨by unfold mayP; congr 1; first | (symm; rw [decide_eq_false_iff_not]; omega) | (rw [decide_eq_decide]; omega), hS⟩
   ·
    clear hF a; intro hc3 a hF
    try simp only [dcl] at hc3
    refine sv2 hF (v_pickT rfl rfl) (v_move rfl) rfl rfl ?_; clear hF a; intro a hF
    refine svn5 hF rfl rfl rfl rfl rfl rfl rfl rfl rfl rfl rfl rfl rfl rfl rfl ?_; clear hF a; intro a hF
    refine sv2w hK hF (v_pickF rfl rfl) (v_assign rfl) rfl rfl ?_; clear hF a hK K; intro a hF
    replace hF := hF.sub _ (c_ 2 rfl (n_))
    refine W_ret ?_
    refine ⟨_, _, hF, rfl, ?_⟩
    exact ⟨by unfold mayP; congr 1; first | (symm; rw [decide_eq_false_iff_not]; omega) | (rw [decide_eq_decide]; omega), hS⟩
  ·
   clear hF a; intro hc2 a hF
   try simp only [dcl] at hc2
   refine sv2 hF (v_pickT rfl rfl) (v_move rfl) rfl rfl ?_; clear hF a; intro a hF
   refine svn3 hF rfl rfl rfl rfl rfl rfl rfl rfl rfl ?_; clear hF a; intro a hF
   refine sv2 hF (v_pickF rfl rfl) (v_move rfl) rfl rfl ?_; clear hF a; intro a hF
   refine svn5 hF rfl rfl rfl rfl rfl rfl rfl rfl rfl rfl rfl rfl rfl rfl rfl ?_; clear hF a; intro a hF
   refine sv2w hK hF (v_pickF rfl rfl) (v_assign rfl) rfl rfl ?_; clear hF a hK K; intro a hF
   replace hF := hF.sub _ (c_ 2 rfl (n_))
   refine W_ret ?_
   refine ⟨_, _, hF, rfl, ?_⟩
   exact ⟨by unfold mayP; congr 1; first | (symm; rw [decide_eq_false_iff_not]; omega) | (rw [decide_eq_decide]; omega), hS⟩
 ·
  clear hF a; intro hc1 a hF
  try simp only [dcl] at hc1
  refine sv2 hF (v_pickT rfl rfl) (v_move rfl) rfl rfl ?_; clear hF a; intro a hF
  refine svn3 hF rfl rfl rfl rfl rfl rfl rfl rfl rfl ?_; clear hF a; intro a hF
  refine sv2 hF (v_pickF rfl rfl) (v_move rfl) rfl rfl ?_; clear hF a; intro a hF
  refine svn3 hF rfl rfl rfl rfl rfl rfl rfl rfl rfl ?_; clear hF a; intro a hF
  refine sv2 hF (v_pickF rfl rfl) (v_move rfl) rfl rfl ?_; clear hF a; intro a hF
  refine svn5 hF rfl rfl rfl rfl rfl rfl rfl rfl rfl rfl rfl rfl rfl rfl rfl ?_; clear hF a; intro a hF
  refine sv2w hK hF (v_pickF rfl rfl) (v_assign rfl) rfl rfl ?_; clear hF a hK K; intro a hF
  replace hF := hF.sub _ (c_ 2 rfl (n_))
  refine W_ret ?_
  refine ⟨_, _, hF, rfl, ?_⟩
  exact ⟨by unfold mayP; congr 1; first | (symm; rw [decide_eq_false_iff_not]; omega) | (rw [decide_eq_decide]; omega), hS⟩
set_option maxRecDepth 100000 in
set_option maxHeartbeats 1000000 in
theorem PMay_out (B : Nat) (p k m : Int) (w : World) (hI : Inv FDx B w) (hpp : ¬ (1 ≤ p ∧ p ≤ 6)) : Ret Tryz.prog 14 [.agg #[.int .i64 p, .int .i64 k, .int .i64 m]] w fun v w' => v = .bool (mayP p k m) ∧ St FDx B w w' := by
 refine enter 34 [(0, .agg #[.int .i64 p, .int .i64 k, .int .i64 m])] 2 Tryz.func14 rfl rfl rfl rfl rfl ?_; intro a hF
 have hS := St.refl hI
 refine W_sr rfl fun K hK => ?_
 refine s_box (D := FDx) (B := B) hF rfl (by decide) hS.inv rfl ?_; clear hF a; intro w' a hm hbx hsz hF
 replace hS := hS.mb0 hm
 clear hm
 refine svw hK hF (v_assign rfl) rfl ?_; clear hF a hK K; intro a hF
 replace hF := hF.sub _ (c_ 2 rfl (c_ 1 rfl (n_)))
 refine W_sr rfl fun K hK => ?_
 refine sv2 hF (v_fieldAddr fa23_0 rfl) (v_load sc3 rfl (hbx.at 0 rfl)) rfl rfl ?_; clear hF a; intro a hF
 refine sc hF rfl rfl rfl en7 rfl (POf_ok B p _ hS.inv) ?_; clear hF a; intro v w' a hv hF
 obtain ⟨rfl, hS'⟩ := hv
 replace hbx := hbx.st (by decide) hS'
 replace hS := hS.trans hS'
 clear hS'
 refine sv3 hF (v_move rfl) (v_ext rfl rfl) ((v_ext rfl rfl).as (congrArg Value.bool (decide_eq_false hpp))) rfl rfl rfl ?_; clear hF a; intro a hF
 have hs0 := hS.ext.size
 refine s_allocN (D := FDx) (B := B) (z := .agg prz.toArray) hF (by kernel_rfl) (by decide) hS.inv rfl ?_; clear hF a; intro gR w' a hm hI' hR hF
 replace hbx := hbx.mb hm (by simp)
 replace hS := hS.mb0 hm
 clear hm hI'
 replace hR := hR.le hs0
 clear hs0
 refine s_storeN (D := FDx) (B := B) hF (by rw [List.size_toArray, prOf_len]; kernel_rfl) rfl rfl (prOf_one p) (by rw [List.size_toArray, prOf_len]; rfl) hR hS.inv ?_; intro w' hm hI' hrc'
 replace hbx := hbx.mb hm (by intro e; cases e; exact absurd hR.blk (by intro e2; have := hbx.symm.trans e2; cases this))
 replace hS := hS.mb hm (fun k h => by cases h; exact hR.low)
 replace hR := hrc'
 clear hm hI' hrc'
 refine svw hK hF (v_assign rfl) rfl ?_; clear hF a hK K; intro a hF
 replace hF := hF.sub _ (c_ 4 rfl (c_ 3 rfl (c_ 2 rfl (c_ 1 rfl (n_)))))
 refine W_sr rfl fun K hK => ?_
 refine sv2 hF (v_move rfl) (v_move rfl) rfl rfl ?_; clear hF a; intro a hF
 refine svn3 hF rfl rfl rfl rfl rfl rfl rfl rfl rfl ?_; clear hF a; intro a hF
 refine sv2 hF (v_pickF rfl rfl) (v_move rfl) rfl rfl ?_; clear hF a; intro a hF
 refine svn3 hF rfl rfl rfl rfl rfl rfl rfl rfl rfl ?_; clear hF a; intro a hF
 refine sv2 hF (v_pickF rfl rfl) (v_move rfl) rfl rfl ?_; clear hF a; intro a hF
 refine svn3 hF rfl rfl rfl rfl rfl rfl rfl rfl rfl ?_; clear hF a; intro a hF
 refine sv2 hF (v_pickF rfl rfl) (v_move rfl) rfl rfl ?_; clear hF a; intro a hF
 refine svn5 hF rfl rfl rfl rfl rfl rfl rfl rfl rfl rfl rfl rfl rfl rfl rfl ?_; clear hF a; intro a hF
 refine sv2w hK hF (v_pickF rfl rfl) (v_assign rfl) rfl rfl ?_; clear hF a hK K; intro a hF
 replace hF := hF.sub _ (c_ 2 rfl (n_))
 refine W_ret ?_
 refine ⟨_, _, hF, rfl, ?_⟩
 exact ⟨by unfold mayP; congr 1; symm; rw [decide_eq_false_iff_not]; omega, hS⟩
set_option maxRecDepth 100000 in
set_option maxHeartbeats 1000000 in
theorem PField_in (B : Nat) (p : Int) (w : World) (hI : Inv FDx B w) (hpp : 1 ≤ p ∧ p ≤ 6) : Ret Tryz.prog 13 [.int .i64 p] w fun v w' => Fo FDx B w' v (some (pfl p)) ∧ St FDx B w w' := by
 refine enter 17 [(0, .int .i64 p)] 2 Tryz.func13 rfl rfl rfl rfl rfl ?_; intro a hF
 have hS := St.refl hI
 refine W_sr rfl fun K hK => ?_
 refine svw hK hF (v_assign rfl) rfl ?_; clear hF a hK K; intro a hF
 refine W_sr rfl fun K hK => ?_
 refine sv hF (v_move rfl) rfl ?_; clear hF a; intro a hF
 refine sc hF rfl rfl rfl en7 rfl (POf_ok B p _ hS.inv) ?_; clear hF a; intro v w' a hv hF
 obtain ⟨rfl, hS'⟩ := hv
 replace hS := hS.trans hS'
 clear hS'
 refine sv3 hF (v_move rfl) (v_ext rfl rfl) ((v_ext rfl rfl).as (congrArg Value.bool (decide_eq_true (hpp)))) rfl rfl rfl ?_; clear hF a; intro a hF
 have hs0 := hS.ext.size
 refine s_allocN (D := FDx) (B := B) (z := .agg prz.toArray) hF (by kernel_rfl) (by decide) hS.inv rfl ?_; clear hF a; intro gR w' a hm hI' hR hF
 replace hS := hS.mb0 hm
 clear hm hI'
 replace hR := hR.le hs0
 clear hs0
 refine s_storeN (D := FDx) (B := B) hF (by rw [List.size_toArray, prOf_len]; kernel_rfl) rfl rfl (prOf_one p) (by rw [List.size_toArray, prOf_len]; rfl) hR hS.inv ?_; intro w' hm hI' hrc'
 replace hS := hS.mb hm (fun k h => by cases h; exact hR.low)
 replace hR := hrc'
 clear hm hI' hrc'
 refine svw hK hF (v_assign rfl) rfl ?_; clear hF a hK K; intro a hF
 replace hF := hF.sub _ (c_ 4 rfl (c_ 3 rfl (c_ 2 rfl (n_))))
 refine W_seq ?_
 refine W_sr rfl fun K hK => ?_
 refine sv2w hK hF (v_move rfl) (v_not rfl) rfl rfl ?_; clear hF a hK K; intro a hF
 replace hF := hF.sub _ (c_ 11 rfl (c_ 3 rfl (c_ 2 rfl (n_))))
 refine W_ifF hF rfl ?_
 refine W_skip ?_
 refine W_sr rfl fun K hK => ?_
 refine sv4 hF (v_fieldAddr fa27_1 rfl) (v_load sc3 rfl ((hR.kc 1 (prOf_bits hpp.1 hpp.2)).c)) (v_fieldAddr fa27_2 rfl) (v_load sc25 rfl ((hR.kc 2 (prOf_poly hpp.1 hpp.2)).c)) rfl rfl rfl rfl ?_; clear hF a; intro a hF
 refine sc hF rfl rfl rfl en36 rfl (New_ok B ((pfl p).1 : Int) (pfl p).2 _ hS.inv (by have := (pfl_lt p).1; omega) (pfl_lt p).2) ?_; clear hF a; intro v w' a hv hF
 obtain ⟨hf, hS'⟩ := hv
 rw [pfl_new] at hf
 replace hR := hR.st hS'
 replace hS := hS.trans hS'
 clear hS'
 refine svw hK hF (v_assign rfl) rfl ?_; clear hF a hK K; intro a hF
 replace hF := hF.sub _ (c_ 2 rfl (n_))
 refine W_ret ?_
 refine ⟨_, _, hF, rfl, ?_⟩
 exact ⟨hf, hS⟩
set_option maxRecDepth 100000 in
set_option maxHeartbeats 1000000 in
theorem PField_out (B : Nat) (p : Int) (w : World) (hI : Inv FDx B w) (hpp : ¬ (1 ≤ p ∧ p ≤ 6)) : Ret Tryz.prog 13 [.int .i64 p] w fun v w' => v = .pointer none ∧ St FDx B w w' := by
 refine enter 17 [(0, .int .i64 p)] 2 Tryz.func13 rfl rfl rfl rfl rfl ?_; intro a hF
 have hS := St.refl hI
 refine W_sr rfl fun K hK => ?_
 refine svw hK hF (v_assign rfl) rfl ?_; clear hF a hK K; intro a hF
 refine W_sr rfl fun K hK => ?_
 refine sv hF (v_move rfl) rfl ?_; clear hF a; intro a hF
 refine sc hF rfl rfl rfl en7 rfl (POf_ok B p _ hS.inv) ?_; clear hF a; intro v w' a hv hF
 obtain ⟨rfl, hS'⟩ := hv
 replace hS := hS.trans hS'
 clear hS'
 refine sv3 hF (v_move rfl) (v_ext rfl rfl) ((v_ext rfl rfl).as (congrArg Value.bool (decide_eq_false hpp))) rfl rfl rfl ?_; clear hF a; intro a hF
 have hs0 := hS.ext.size
 refine s_allocN (D := FDx) (B := B) (z := .agg prz.toArray) hF (by kernel_rfl) (by decide) hS.inv rfl ?_; clear hF a; intro gR w' a hm hI' hR hF
 replace hS := hS.mb0 hm
 clear hm hI'
 replace hR := hR.le hs0
 clear hs0
 refine s_storeN (D := FDx) (B := B) hF (by rw [List.size_toArray, prOf_len]; kernel_rfl) rfl rfl (prOf_one p) (by rw [List.size_toArray, prOf_len]; rfl) hR hS.inv ?_; intro w' hm hI' hrc'
 replace hS := hS.mb hm (fun k h => by cases h; exact hR.low)
 replace hR := hrc'
 clear hm hI' hrc'
 refine svw hK hF (v_assign rfl) rfl ?_; clear hF a hK K; intro a hF
 replace hF := hF.sub _ (c_ 4 rfl (c_ 3 rfl (c_ 2 rfl (n_))))
 refine W_seq ?_
 refine W_sr rfl fun K hK => ?_
 refine sv2w hK hF (v_move rfl) (v_not rfl) rfl rfl ?_; clear hF a hK K; intro a hF
 replace hF := hF.sub _ (c_ 11 rfl (c_ 3 rfl (c_ 2 rfl (n_))))
 refine W_ifT hF rfl ?_
 refine W_sr rfl fun K hK => ?_
 refine svw hK hF (v_assign rfl) rfl ?_; clear hF a hK K; intro a hF
 replace hF := hF.sub _ (c_ 2 rfl (c_ 3 rfl (n_)))
 refine W_ret ?_
 refine ⟨_, _, hF, rfl, ?_⟩
 exact ⟨rfl, hS⟩
set_option maxRecDepth 100000 in
set_option maxHeartbeats 1000000 in
theorem behind_fit (B wb p : Nat) (hp : Prm wb p) (fv : Value) (kn mn : Nat) (w : World) (hI : Inv FDx B w) (hf : Fo FDx B w fv (some (wb, p))) (h1 : 1 ≤ kn) (h2 : 1 ≤ mn) (h3 : kn + mn ≤ 20) : Ret Tryz.prog 30 [fv, .int .i64 (kn : Int), .int .i64 (mn : Int)] w fun v w' => ∃ sa cap, v = .tuple #[.slice sa mn cap, .int .i64 0] ∧ Mat FDx B w'.heap.size w' sa cap (tab mn kn fun i j => sysT hp kn (kn + i) j) ∧ St FDx B w w' := by
 refine enter2 23 [(0, fv), (1, .int .i64 (kn : Int)), (2, .int .i64 (mn : Int))] 6 7 Tryz.func30 rfl rfl rfl rfl rfl ?_; intro a hF
 have hS := St.refl hI
 refine W_sr rfl fun K hK => ?_
 refine sv2w hK hF (v_assign rfl) (v_assign rfl) rfl rfl ?_; clear hF a hK K; intro a hF
 refine W_sr rfl fun K hK => ?_
 refine sv3 hF (v_move rfl) (v_move rfl) (v_move rfl) rfl rfl rfl ?_; clear hF a; intro a hF
 refine sc hF rfl rfl rfl en59 rfl (System_ok B wb p hp fv (kn : Int) (mn : Int) _ hS.inv hf) ?_; clear hF a; intro v w' a hv hF
 obtain ⟨obX, uX, rfl, hoX, hS'⟩ := hv
 rw [(sysM_is hp h1 h2 h3)] at hoX hF
 try simp only [Option.getD_some, Option.getD_none] at hoX
 obtain ⟨sX, cX, rfl, hX⟩ := hoX.mat (by decide) (Nat.zero_le _)
 clear hoX
 replace hf := hf.st hS'
 replace hS := hS.trans hS'
 clear hS'
 refine sv5w hK hF (v_move rfl) (v_ext rfl rfl) (v_ext rfl rfl) (v_assign rfl) (v_assign rfl) rfl rfl rfl rfl rfl ?_; clear hF a hK K; intro a hF
 replace hF := hF.sub _ (c_ 9 rfl (c_ 8 rfl (c_ 7 rfl (c_ 6 rfl (c_ 1 rfl (n_))))))
 refine W_seq ?_
 refine W_sr rfl fun K hK => ?_
 refine sv2w hK hF (v_move rfl) ((v_neq rfl rfl).as (congrArg Value.bool (decide_eq_false (fun h => h rfl)))) rfl rfl ?_; clear hF a hK K; intro a hF
 replace hF := hF.sub _ (c_ 18 rfl (c_ 9 rfl (c_ 8 rfl (c_ 7 rfl (c_ 6 rfl (c_ 1 rfl (n_)))))))
 refine W_ifF hF rfl ?_
 refine W_skip ?_
 have hxl : (tab (kn + mn) kn (sysT hp kn)).length = kn + mn := tab_length _ _ _
 rw [hxl] at hF
 have hcX := hX.capd
 rw [hxl] at hcX
 have hX2 := hX.from (lo := kn) (b := tab mn kn fun i j => sysT hp kn (kn + i) j) (by rw [tab_length]; omega) (by rw [tab_drop (by omega), Nat.add_sub_cancel_left])
 refine W_sr rfl fun K hK => ?_
 refine sv3 hF (v_move rfl) (v_move rfl) (v_slLo sl36 rfl rfl (by omega) (by omega)) rfl rfl rfl ?_; clear hF a; intro a hF
 rw [show kn + mn - kn = mn by omega] at hF
 refine sv2w hK hF (v_assign rfl) (v_assign rfl) rfl rfl ?_; clear hF a hK K; intro a hF
 replace hF := hF.sub _ (c_ 7 rfl (c_ 6 rfl (n_)))
 refine W_ret ?_
 refine ⟨_, _, _, hF, rfl, rfl, ?_⟩
 exact ⟨_, _, rfl, hX2, hS⟩
set_option maxRecDepth 100000 in
set_option maxHeartbeats 1000000 in
theorem Tagged_ok (B : Nat) (s : ByteArray) (w : World) (hI : Inv FDx B w) : Ret Tryz.prog 9 [.string s] w fun v w' => v = .tuple #[.int .i64 (tagR s 0 6).1, .bool (tagR s 0 6).2] ∧ St FDx B w w' := by
 refine enter2 18 [(0, .string s)] 2 3 Tryz.func9 rfl rfl rfl rfl rfl ?_; intro a hF
 have hS := St.refl hI
 refine W_sr rfl fun K hK => ?_
 refine sv2w hK hF (v_assign rfl) (v_assign rfl) rfl rfl ?_; clear hF a hK K; intro a hF
 refine W_seq ?_
 refine W_sr rfl fun K hK => ?_
 refine sc hF rfl rfl rfl en25 rfl (table_ok B _ hS.inv) ?_; clear hF a; intro v w' a hv hF
 obtain ⟨rfl, hS'⟩ := hv
 replace hS := hS.trans hS'
 clear hS'
 refine svw hK hF (v_move rfl) rfl ?_; clear hF a hK K; intro a hF
 refine W_block ?_
 refine W_loop (fun q a w1 => ∃ (i : Nat), Fr 18 [(0, .string s), (6, .agg prAll.toArray), (7, .int .i64 (i : Int))] a ∧ (St FDx B w w1) ∧ (tagR s 0 6 = tagR s i (6 - i)) ∧ (i ≤ 6) ∧ (q + i = 6)) (6) ?_ ?_
 ·
  skip
  exact ⟨0, hF.sub _ (c_ 0 rfl (c_ 6 rfl (c_ 7 rfl (n_)))), hS, rfl, by omega, by omega⟩
 ·
  skip
  clear hF
  clear hS
  rintro q a w1 ⟨i, hF, hS, ht, hi, hq⟩
  refine W_sr rfl fun K hK => ?_
  refine svw hK hF (v_lss rfl rfl) rfl ?_; clear hF a hK K; intro a hF
  refine W_seq ?_
  refine W_if hF rfl (fun hc1 => ?_) (fun hc1 => ?_)
  ·
   skip
   try simp only [dcl] at hc1
   have hlt : i < 6 := by omega
   refine W_skip ?_
   refine W_seq ?_
   refine W_block ?_
   refine W_sr rfl fun K hK => ?_
   refine sv hF (v_move rfl) rfl ?_; clear hF a; intro a hF
   refine sv hF ((v_indexR (s := 5) Tryz.underlying62 (by kernel_rfl) Tryz.underlying27 rfl rfl rfl (by omega) (by omega)).as (congrArg Value.agg (prN_ext hlt))) rfl ?_; clear hF a; intro a hF
   have hs0 := hS.ext.size
   refine s_allocN (D := FDx) (B := B) (z := .agg prz.toArray) hF (by kernel_rfl) (by decide) hS.inv rfl ?_; clear hF a; intro gR w' a hm hI' hR hF
   replace hS := hS.mb0 hm
   clear hm hI'
   replace hR := hR.le hs0
   clear hs0
   refine sv hF (v_assign rfl) rfl ?_; clear hF a; intro a hF
   refine s_storeN (D := FDx) (B := B) hF (by rw [List.size_toArray, prN_len]; kernel_rfl) rfl rfl (prN_one i) (by rw [List.size_toArray, prN_len]; rfl) hR hS.inv ?_; intro w' hm hI' hrc'
   replace hS := hS.mb hm (fun k h => by cases h; exact hR.low)
   replace hR := hrc'
   clear hm hI' hrc'
   refine wn hK ?_
   clear hK K
   replace hF := hF.sub _ (c_ 4 rfl (c_ 5 rfl (c_ 0 rfl (c_ 6 rfl (c_ 7 rfl (n_))))))
   refine W_sr rfl fun K hK => ?_
   refine sv4w hK hF (v_fieldAddr fa27_0 rfl) (v_load sc9 rfl ((hR.kc 0 (prN_tag i)).c)) (v_move rfl) (v_eqlS rfl rfl) rfl rfl rfl rfl ?_; clear hF a hK K; intro a hF
   replace hF := hF.sub _ (c_ 14 rfl (c_ 4 rfl (c_ 0 rfl (c_ 6 rfl (c_ 7 rfl (n_))))))
   refine W_if hF rfl (fun hc2 => ?_) (fun hc2 => ?_)
   ·
    skip
    try simp only [dcl] at hc2
    have heq : tagS i = s := (Go.MapKept.bytes_beq _ _).1 (by assumption)
    refine W_sr rfl fun K hK => ?_
    refine sv4w hK hF (v_move rfl) (v_addI rfl rfl (by omega)) (v_assign rfl) (v_assign rfl) rfl rfl rfl rfl ?_; clear hF a hK K; intro a hF
    replace hF := hF.sub _ (c_ 3 rfl (c_ 2 rfl (c_ 0 rfl (c_ 6 rfl (c_ 7 rfl (n_))))))
    refine W_ret ?_
    refine ⟨_, _, _, hF, rfl, rfl, ?_⟩
    rw [ht, show 6 - i = 6 - (i + 1) + 1 by omega, tagR, if_pos heq]
    exact ⟨by simp, hS⟩
   ·
    skip
    try simp only [dcl] at hc2
    have hne : ¬ tagS i = s := fun e => by have h9 := (Go.MapKept.bytes_beq (tagS i) s).2 e; first | exact absurd h9 (by assumption) | simp_all
    refine W_skip ?_
    refine W_reg rfl fun K hK => ?_
    refine sv2w hK hF (v_addI rfl rfl (by omega)) (v_move rfl) rfl rfl ?_; clear hF a hK K; intro a hF
    replace hF := hF.sub _ (c_ 7 rfl (c_ 17 rfl (c_ 0 rfl (c_ 6 rfl (n_)))))
    exact ⟨q - 1, by omega, i + 1, hF.sub _ (c_ 0 rfl (c_ 6 rfl (c_ 7 rfl (n_)))), hS, by rw [ht, show 6 - i = 6 - (i + 1) + 1 by omega, tagR, if_neg hne], by omega, by omega⟩
  ·
   skip
   try simp only [dcl] at hc1
   refine W_exit rfl ?_
   refine W_sr rfl fun K hK => ?_
   refine sv2w hK hF (v_assign rfl) (v_assign rfl) rfl rfl ?_; clear hF a hK K; intro a hF
   replace hF := hF.sub _ (c_ 3 rfl (c_ 2 rfl (c_ 0 rfl (c_ 6 rfl (c_ 7 rfl (n_))))))
   refine W_ret ?_
   refine ⟨_, _, _, hF, rfl, rfl, ?_⟩
   obtain rfl : i = 6 := by omega
   rw [ht]
   exact ⟨rfl, hS⟩
end Go.Proofs.YtkoiolamnnmokaaGreat

/- The walk of package jvan: rows of powers. -/
namespace Go.Proofs.YtkoiolamnnmokaaGreat
open Go Go.Gam
namespace FxFJva
theorem en58 : Ent Tryz.prog 58 := ent Tryz.func58 (by kernel_rfl) (by kernel_rfl)
theorem on3 : Gam.One Tryz.prog 3 := by unfold Gam.One; kernel_rfl
theorem sl36 : Sl Tryz.prog 36 53 (.slice none 0 0) 24 := sl_of Tryz.underlying36 rfl (by kernel_rfl)
theorem sl53 : Sl Tryz.prog 53 3 (.int .i64 0) 8 := sl_of Tryz.underlying53 rfl (by kernel_rfl)
end FxFJva
open FxFJva
set_option maxRecDepth 100000 in
set_option maxHeartbeats 1000000 in
theorem Extended_ok (B : Nat) (o : Fq) (fv : Value) (k m : Int) (w : World) (hI : Inv FDx B w) (hf : Fo FDx B w fv o) : Ret Tryz.prog 47 [fv, .int .i64 k, .int .i64 m] w fun v w' => ((fitB o k m = false ∧ v = .tuple #[.slice none 0 0, .int .i64 1]) ∨ (fitB o k m = true ∧ ∃ g cap bs rc, v = .tuple #[.slice (some ⟨g, 0, none⟩) (k + m).toNat cap, .int .i64 0] ∧ Gam.Own FDx B w.heap.size w' 53 (.slice (some ⟨g, 0, none⟩) (k + m).toNat cap) (some g) (vls (k + m).toNat k.toNat bs rc) ∧ Wr FDx B w.heap.size w'.heap.size w' (k + m).toNat k.toNat bs rc (extT o k.toNat m.toNat))) ∧ St FDx B w w' := by
 refine enter2 71 [(0, fv), (1, .int .i64 k), (2, .int .i64 m)] 6 7 Tryz.func47 rfl rfl rfl rfl rfl ?_; intro a hF
 have hS := St.refl hI
 have hprm := hf.prms
 obtain ⟨pa_, rfl, hpa⟩ := hf.ptr
 refine W_sr rfl fun K hK => ?_
 refine sv2w hK hF (v_assign rfl) (v_assign rfl) rfl rfl ?_; clear hF a hK K; intro a hF
 refine W_seq ?_
 refine W_sr rfl fun K hK => ?_
 refine sv hF (v_move rfl) rfl ?_; clear hF a; intro a hF
 refine sb hF (v_eqlNil (by exact Tryz.underlying42) rfl rfl) rfl ?_ ?_
 ·
  clear hF a; intro hc1 a hF
  try simp only [dcl] at hc1
  refine sv hF (v_move rfl) rfl ?_; clear hF a; intro a hF
  refine svn2 hF rfl rfl rfl rfl rfl rfl ?_; clear hF a; intro a hF
  refine sv2 hF (v_pickT rfl rfl) (v_move rfl) rfl rfl ?_; clear hF a; intro a hF
  refine svn2 hF rfl rfl rfl rfl rfl rfl ?_; clear hF a; intro a hF
  refine sv2 hF (v_pickT rfl rfl) (v_move rfl) rfl rfl ?_; clear hF a; intro a hF
  refine svn2 hF rfl rfl rfl rfl rfl rfl ?_; clear hF a; intro a hF
  refine sv2 hF (v_pickT rfl rfl) (v_move rfl) rfl rfl ?_; clear hF a; intro a hF
  refine svn2 hF rfl rfl rfl rfl rfl rfl ?_; clear hF a; intro a hF
  refine sv2 hF (v_pickT rfl rfl) (v_move rfl) rfl rfl ?_; clear hF a; intro a hF
  refine svn4 hF rfl rfl rfl rfl rfl rfl rfl rfl rfl rfl rfl rfl ?_; clear hF a; intro a hF
  refine svw hK hF (v_pickT rfl rfl) rfl ?_; clear hF a hK K; intro a hF
  replace hF := hF.sub _ (c_ 36 rfl (c_ 7 rfl (c_ 6 rfl (c_ 0 rfl (c_ 1 rfl (c_ 2 rfl (n_)))))))
  refine W_ifT hF rfl ?_
  refine W_sr rfl fun K hK => ?_
  refine sv2w hK hF (v_assign rfl) (v_assign rfl) rfl rfl ?_; clear hF a hK K; intro a hF
  replace hF := hF.sub _ (c_ 7 rfl (c_ 6 rfl (c_ 0 rfl (c_ 1 rfl (c_ 2 rfl (n_))))))
  refine W_ret ?_
  refine ⟨_, _, _, hF, rfl, rfl, ?_⟩
  exact ⟨.inl ⟨by unfold fitB; rw [← hpa]; cases pa_ <;> first | (exfalso; simp_all; done) | rfl | (rw [decide_eq_false (by omega)]; rfl), rfl⟩, hS⟩
 ·
  clear hF a; intro hc1 a hF
  try simp only [dcl] at hc1
  refine sv hF (v_move rfl) rfl ?_; clear hF a; intro a hF
  refine svg hF rfl ?_
  refine sv hF (v_move rfl) rfl ?_; clear hF a; intro a hF
  refine svg hF rfl ?_
  refine sb hF (v_lss rfl rfl) rfl ?_ ?_
  ·
   clear hF a; intro hc2 a hF
   try simp only [dcl] at hc2
   refine sv2 hF (v_pickF rfl rfl) (v_move rfl) rfl rfl ?_; clear hF a; intro a hF
   refine svn2 hF rfl rfl rfl rfl rfl rfl ?_; clear hF a; intro a hF
   refine sv2 hF (v_pickT rfl rfl) (v_move rfl) rfl rfl ?_; clear hF a; intro a hF
   refine svn2 hF rfl rfl rfl rfl rfl rfl ?_; clear hF a; intro a hF
   refine sv2 hF (v_pickT rfl rfl) (v_move rfl) rfl rfl ?_; clear hF a; intro a hF
   refine svn2 hF rfl rfl rfl rfl rfl rfl ?_; clear hF a; intro a hF
   refine sv2 hF (v_pickT rfl rfl) (v_move rfl) rfl rfl ?_; clear hF a; intro a hF
   refine svn4 hF rfl rfl rfl rfl rfl rfl rfl rfl rfl rfl rfl rfl ?_; clear hF a; intro a hF
   refine svw hK hF (v_pickT rfl rfl) rfl ?_; clear hF a hK K; intro a hF
   replace hF := hF.sub _ (c_ 36 rfl (c_ 7 rfl (c_ 6 rfl (c_ 0 rfl (c_ 1 rfl (c_ 2 rfl (n_)))))))
   refine W_ifT hF rfl ?_
   refine W_sr rfl fun K hK => ?_
   refine sv2w hK hF (v_assign rfl) (v_assign rfl) rfl rfl ?_; clear hF a hK K; intro a hF
   replace hF := hF.sub _ (c_ 7 rfl (c_ 6 rfl (c_ 0 rfl (c_ 1 rfl (c_ 2 rfl (n_))))))
   refine W_ret ?_
   refine ⟨_, _, _, hF, rfl, rfl, ?_⟩
   exact ⟨.inl ⟨by unfold fitB; rw [← hpa]; cases pa_ <;> first | (exfalso; simp_all; done) | rfl | (rw [decide_eq_false (by omega)]; rfl), rfl⟩, hS⟩
  ·
   clear hF a; intro hc2 a hF
   try simp only [dcl] at hc2
   refine sv2 hF (v_pickF rfl rfl) (v_move rfl) rfl rfl ?_; clear hF a; intro a hF
   refine svg hF rfl ?_
   refine sv hF (v_move rfl) rfl ?_; clear hF a; intro a hF
   refine svg hF rfl ?_
   refine sb hF (v_lss rfl rfl) rfl ?_ ?_
   ·
    clear hF a; intro hc3 a hF
    try simp only [dcl] at hc3
    refine sv2 hF (v_pickF rfl rfl) (v_move rfl) rfl rfl ?_; clear hF a; intro a hF
    refine svn2 hF rfl rfl rfl rfl rfl rfl ?_; clear hF a; intro a hF
    refine sv2 hF (v_pickT rfl rfl) (v_move rfl) rfl rfl ?_; clear hF a; intro a hF
    refine svn2 hF rfl rfl rfl rfl rfl rfl ?_; clear hF a; intro a hF
    refine sv2 hF (v_pickT rfl rfl) (v_move rfl) rfl rfl ?_; clear hF a; intro a hF
    refine svn4 hF rfl rfl rfl rfl rfl rfl rfl rfl rfl rfl rfl rfl ?_; clear hF a; intro a hF
    refine svw hK hF (v_pickT rfl rfl) rfl ?_; clear hF a hK K; intro a hF
    replace hF := hF.sub _ (c_ 36 rfl (c_ 7 rfl (c_ 6 rfl (c_ 0 rfl (c_ 1 rfl (c_ 2 rfl (n_)))))))
    refine W_ifT hF rfl ?_
    refine W_sr rfl fun K hK => ?_
    refine sv2w hK hF (v_assign rfl) (v_assign rfl) rfl rfl ?_; clear hF a hK K; intro a hF
    replace hF := hF.sub _ (c_ 7 rfl (c_ 6 rfl (c_ 0 rfl (c_ 1 rfl (c_ 2 rfl (n_))))))
    refine W_ret ?_
    refine ⟨_, _, _, hF, rfl, rfl, ?_⟩
    exact ⟨.inl ⟨by unfold fitB; rw [← hpa]; cases pa_ <;> first | (exfalso; simp_all; done) | rfl | (rw [decide_eq_false (by omega)]; rfl), rfl⟩, hS⟩
   ·
    clear hF a; intro hc3 a hF
    try simp only [dcl] at hc3
    refine sv2 hF (v_pickF rfl rfl) (v_move rfl) rfl rfl ?_; clear hF a; intro a hF
    refine svg hF rfl ?_
    refine sv hF (v_move rfl) rfl ?_; clear hF a; intro a hF
    refine svg hF rfl ?_
    refine sb hF (v_geq rfl rfl) rfl ?_ ?_
    ·
     clear hF a; intro hc4 a hF
     try simp only [dcl] at hc4
     refine sv2 hF (v_pickF rfl rfl) (v_move rfl) rfl rfl ?_; clear hF a; intro a hF
     refine svn2 hF rfl rfl rfl rfl rfl rfl ?_; clear hF a; intro a hF
     refine sv2 hF (v_pickT rfl rfl) (v_move rfl) rfl rfl ?_; clear hF a; intro a hF
     refine svn4 hF rfl rfl rfl rfl rfl rfl rfl rfl rfl rfl rfl rfl ?_; clear hF a; intro a hF
     refine svw hK hF (v_pickT rfl rfl) rfl ?_; clear hF a hK K; intro a hF
     replace hF := hF.sub _ (c_ 36 rfl (c_ 7 rfl (c_ 6 rfl (c_ 0 rfl (c_ 1 rfl (c_ 2 rfl (n_)))))))
     refine W_ifT hF rfl ?_
     refine W_sr rfl fun K hK => ?_
     refine sv2w hK hF (v_assign rfl) (v_assign rfl) rfl rfl ?_; clear hF a hK K; intro a hF
     replace hF := hF.sub _ (c_ 7 rfl (c_ 6 rfl (c_ 0 rfl (c_ 1 rfl (c_ 2 rfl (n_))))))
     refine W_ret ?_
     refine ⟨_, _, _, hF, rfl, rfl, ?_⟩
     exact ⟨.inl ⟨by unfold fitB; rw [← hpa]; cases pa_ <;> first | (exfalso; simp_all; done) | rfl | (rw [decide_eq_false (by omega)]; rfl), rfl⟩, hS⟩
    ·
     clear hF a; intro hc4 a hF
     try simp only [dcl] at hc4
     refine sv2 hF (v_pickF rfl rfl) (v_move rfl) rfl rfl ?_; clear hF a; intro a hF
     refine svg hF rfl ?_
     refine sv hF (v_move rfl) rfl ?_; clear hF a; intro a hF
     refine svg hF rfl ?_
     refine sb hF (v_geq rfl rfl) rfl ?_ ?_
     ·
      clear hF a; intro hc5 a hF
      try simp only [dcl] at hc5
      refine sv2 hF (v_pickF rfl rfl) (v_move rfl) rfl rfl ?_; clear hF a; intro a hF
      refine svn4 hF rfl rfl rfl rfl rfl rfl rfl rfl rfl rfl rfl rfl ?_; clear hF a; intro a hF
      refine svw hK hF (v_pickT rfl rfl) rfl ?_; clear hF a hK K; intro a hF
      replace hF := hF.sub _ (c_ 36 rfl (c_ 7 rfl (c_ 6 rfl (c_ 0 rfl (c_ 1 rfl (c_ 2 rfl (n_)))))))
      refine W_ifT hF rfl ?_
      refine W_sr rfl fun K hK => ?_
      refine sv2w hK hF (v_assign rfl) (v_assign rfl) rfl rfl ?_; clear hF a hK K; intro a hF
      replace hF := hF.sub _ (c_ 7 rfl (c_ 6 rfl (c_ 0 rfl (c_ 1 rfl (c_ 2 rfl (n_))))))
      refine W_ret ?_
      refine ⟨_, _, _, hF, rfl, rfl, ?_⟩
      exact ⟨.inl ⟨by unfold fitB; rw [← hpa]; cases pa_ <;> first | (exfalso; simp_all; done) | rfl | (rw [decide_eq_false (by omega)]; rfl), rfl⟩, hS⟩
     ·
      clear hF a; intro hc5 a hF
      try simp only [dcl] at hc5
      refine sv2 hF (v_pickF rfl rfl) (v_move rfl) rfl rfl ?_; clear hF a; intro a hF
      refine svg hF rfl ?_
      refine sv hF (v_move rfl) rfl ?_; clear hF a; intro a hF
      refine svg hF rfl ?_
      refine sv hF (v_move rfl) rfl ?_; clear hF a; intro a hF
      refine svg hF rfl ?_
      refine sv hF (v_addI rfl rfl (by omega)) rfl ?_; clear hF a; intro a hF
      refine svg hF rfl ?_
      refine sv2w hK hF (v_gtr rfl rfl) (v_pickF rfl rfl) rfl rfl ?_; clear hF a hK K; intro a hF
      replace hF := hF.sub _ (c_ 36 rfl (c_ 7 rfl (c_ 6 rfl (c_ 0 rfl (c_ 1 rfl (c_ 2 rfl (n_)))))))
      refine W_if hF rfl (fun hc6 => ?_) (fun hc6 => ?_)
      ·
       skip
       try simp only [dcl] at hc6
       refine W_sr rfl fun K hK => ?_
       refine sv2w hK hF (v_assign rfl) (v_assign rfl) rfl rfl ?_; clear hF a hK K; intro a hF
       replace hF := hF.sub _ (c_ 7 rfl (c_ 6 rfl (c_ 0 rfl (c_ 1 rfl (c_ 2 rfl (n_))))))
       refine W_ret ?_
       refine ⟨_, _, _, hF, rfl, rfl, ?_⟩
       exact ⟨.inl ⟨by unfold fitB; rw [← hpa]; cases pa_ <;> first | (exfalso; simp_all; done) | rfl | (rw [decide_eq_false (by omega)]; rfl), rfl⟩, hS⟩
      ·
       skip
       try simp only [dcl] at hc6
       have hb : fitB o k m = true := by unfold fitB; rw [← hpa]; cases pa_ <;> first | (exfalso; simp_all; done) | (rw [decide_eq_true (by omega)]; rfl)
       obtain ⟨-, hb2⟩ := fitB_iff.1 hb
       obtain ⟨kn, rfl⟩ : ∃ n : Nat, k = (n : Int) := ⟨k.toNat, by omega⟩
       obtain ⟨mn, rfl⟩ : ∃ n : Nat, m = (n : Int) := ⟨m.toNat, by omega⟩
       refine W_skip ?_
       refine W_sr rfl fun K hK => ?_
       refine svw hK hF (v_assign rfl) rfl ?_; clear hF a hK K; intro a hF
       replace hF := hF.sub _ (c_ 8 rfl (c_ 7 rfl (c_ 6 rfl (c_ 0 rfl (c_ 1 rfl (c_ 2 rfl (n_)))))))
       refine W_seq ?_
       refine W_sr rfl fun K hK => ?_
       refine sv2 hF (v_move rfl) (v_move rfl) rfl rfl ?_; clear hF a; intro a hF
       refine sv hF ((v_addI rfl rfl (by omega)).as (show Value.int .i64 ((kn : Int) + (mn : Int)) = .int .i64 ((kn + mn : Nat) : Int) by simp)) rfl ?_; clear hF a; intro a hF
       refine sv hF ((v_subI rfl rfl (by omega)).as (show Value.int .i64 (((kn + mn : Nat) : Int) - 1) = .int .i64 ((kn + mn - 1 : Nat) : Int) by congr 1; omega)) rfl ?_; clear hF a; intro a hF
       refine svw hK hF (v_move rfl) rfl ?_; clear hF a hK K; intro a hF
       replace hF := hF.sub _ (c_ 41 rfl (c_ 40 rfl (c_ 8 rfl (c_ 7 rfl (c_ 6 rfl (c_ 0 rfl (c_ 1 rfl (n_))))))))
       refine W_block ?_
       refine W_loop (fun q a w1 => ∃ (i : Nat) (v8 : Value) (b8 : Option Nat) (bs rc : Nat → Nat), Fr 71 [(0, .pointer pa_), (1, .int .i64 (kn : Int)), (8, v8), (40, .int .i64 ((kn + mn - 1 : Nat) : Int)), (41, .int .i64 (i : Int))] a ∧ (St FDx B w w1) ∧ (Fo FDx B w1 (.pointer pa_) o) ∧ (Gam.Own FDx B w.heap.size w1 53 v8 b8 (vls i kn bs rc)) ∧ (Wr FDx B w.heap.size w1.heap.size w1 i kn bs rc (extT o kn mn)) ∧ (i ≤ kn + mn - 1) ∧ (q + i = kn + mn - 1)) (kn + mn - 1) ?_ ?_
       ·
        skip
        exact ⟨0, _, none, id, id, hF.sub _ (c_ 0 rfl (c_ 1 rfl (c_ 8 rfl (c_ 40 rfl (c_ 41 rfl (n_)))))), hS, hf, Gam.Own.nil _ _ _ _ _, Wr.nil, by omega, by omega⟩
       ·
        skip
        clear hF
        clear hS hf
        rintro q a w1 ⟨i, v8, b8, bs, rc, hF, hS, hf, hO, hW, hi, hq⟩
        obtain ⟨KM, hKe⟩ : ∃ KM, KM = w1.heap.size := ⟨_, rfl⟩
        rw [← hKe] at hW
        have hKs : KM ≤ w1.heap.size := by omega
        have hNK : w.heap.size ≤ KM := by have := hS.ext.size; omega
        clear hKe
        refine W_sr rfl fun K hK => ?_
        refine svw hK hF (v_lss rfl rfl) rfl ?_; clear hF a hK K; intro a hF
        refine W_seq ?_
        refine W_if hF rfl (fun hc7 => ?_) (fun hc7 => ?_)
        ·
         skip
         try simp only [dcl] at hc7
         have hlt : i < kn + mn - 1 := by omega
         refine W_skip ?_
         refine W_seq ?_
         refine W_block ?_
         refine W_sr rfl fun K hK => ?_
         refine sv2w hK hF (v_move rfl) (v_assign rfl) rfl rfl ?_; clear hF a hK K; intro a hF
         replace hF := hF.sub _ (c_ 9 rfl (c_ 0 rfl (c_ 1 rfl (c_ 8 rfl (c_ 40 rfl (c_ 41 rfl (n_)))))))
         refine W_sr rfl fun K hK => ?_
         refine svw hK hF (v_assign rfl) rfl ?_; clear hF a hK K; intro a hF
         refine W_seq ?_
         refine W_sr rfl fun K hK => ?_
         refine sv2w hK hF (v_move rfl) (v_move rfl) rfl rfl ?_; clear hF a hK K; intro a hF
         refine W_block ?_
         refine W_loop (fun q2 a w2 => ∃ (j : Nat) (v10 : Value) (b10 : Option Nat), Fr 71 [(0, .pointer pa_), (1, .int .i64 (kn : Int)), (8, v8), (9, .int .i64 (i : Int)), (10, v10), (40, .int .i64 ((kn + mn - 1 : Nat) : Int)), (41, .int .i64 (i : Int)), (44, .int .i64 (kn : Int)), (45, .int .i64 (j : Int))] a ∧ (St FDx B w w2) ∧ (Fo FDx B w2 (.pointer pa_) o) ∧ (Gam.Own FDx B w.heap.size w2 53 v8 b8 (vls i kn bs rc)) ∧ (Wr FDx B w.heap.size KM w2 i kn bs rc (extT o kn mn)) ∧ (KM ≤ w2.heap.size) ∧ (Gam.Own FDx B KM w2 FDx.E v10 b10 (zints ((List.range j).map fun j => ((extT o kn mn i j : Nat) : Int)))) ∧ (j ≤ kn) ∧ (q2 + j = kn)) (kn) ?_ ?_
         ·
          skip
          exact ⟨0, _, none, hF.sub _ (c_ 0 rfl (c_ 1 rfl (c_ 8 rfl (c_ 9 rfl (c_ 10 rfl (c_ 40 rfl (c_ 41 rfl (c_ 44 rfl (c_ 45 rfl (n_)))))))))), hS, hf, hO, hW, hKs, Gam.Own.nil _ _ _ _ _, by omega, by omega⟩
         ·
          skip
          clear hF
          clear hS hf hO hW hKs
          rintro q2 a w2 ⟨j, v10, b10, hF, hS, hf, hO, hW, hKs, hC, hj, hq2⟩
          refine W_sr rfl fun K hK => ?_
          refine svw hK hF (v_lss rfl rfl) rfl ?_; clear hF a hK K; intro a hF
          refine W_seq ?_
          refine W_if hF rfl (fun hc8 => ?_) (fun hc8 => ?_)
          ·
           skip
           try simp only [dcl] at hc8
           have hlt2 : j < kn := by omega
           refine W_skip ?_
           refine W_seq ?_
           refine W_block ?_
           refine W_sr rfl fun K hK => ?_
           refine sv2w hK hF (v_move rfl) (v_assign rfl) rfl rfl ?_; clear hF a hK K; intro a hF
           replace hF := hF.sub _ (c_ 11 rfl (c_ 0 rfl (c_ 1 rfl (c_ 8 rfl (c_ 9 rfl (c_ 10 rfl (c_ 40 rfl (c_ 41 rfl (c_ 44 rfl (c_ 45 rfl (n_)))))))))))
           refine W_reg rfl fun K hK => ?_
           refine sv4 hF (v_move rfl) (v_move rfl) (v_move rfl) (v_move rfl) rfl rfl rfl rfl ?_; clear hF a; intro a hF
           refine sc hF rfl rfl rfl en58 rfl (Pow_gf B o _ (i : Int) (j : Int) _ hS.inv hf (by omega)) ?_; clear hF a; intro v w' a hv hF
           obtain ⟨rfl, hS'⟩ := hv
           replace hf := hf.st hS'
           replace hO := hO.st (by decide) hS'
           replace hW := hW.st hS'
           replace hKs := Nat.le_trans hKs hS'.ext.size
           replace hC := hC.st (by decide) hS'
           replace hS := hS.trans hS'
           clear hS'
           rw [← ext_cell hprm (k := kn) (m := mn) (j := j) hlt] at hF
           refine s_bs (D := FDx) (B := B) hF sl53 rfl rfl (by decide) (by simp [Value.cells]) (by decide) hS.inv rfl ?_; clear hF a; intro w' a hm hI' hL hF
           replace hf := hf.mb hm
           replace hO := hO.mb hm (fun _ _ => by simp)
           replace hW := hW.mb0 hm
           replace hKs := Nat.le_trans hKs hm.size
           replace hC := hC.mb hm (fun _ _ => by simp)
           replace hS := hS.mb0 hm
           clear hm hI'
           refine s_app (D := FDx) (B := B) hF rfl sl53 rfl rfl hC (hL.row (by decide)) (by simp [Value.oneCell']) (by simp; omega) (by simp [maxLen]; omega) (hKs) (by decide) hS.inv rfl ?_; clear hF a; intro v' b' w' a ho' hm hI' hb' hF
           replace hf := hf.mb hm
           replace hO := hO.mb hm (hO.ne_type hC (by decide))
           replace hW := hW.mbx hm (fun k e => (hC.lt k e).1)
           replace hKs := Nat.le_trans hKs hm.size
           replace hS := hS.mb hm (fun k h => Nat.le_trans (hNK) (hC.lt k h).1)
           replace hC := ho'
           clear hm hI' ho'
           clear hL
           refine svw hK hF (v_assign rfl) rfl ?_; clear hF a hK K; intro a hF
           replace hF := hF.sub _ (c_ 10 rfl (c_ 0 rfl (c_ 1 rfl (c_ 8 rfl (c_ 9 rfl (c_ 40 rfl (c_ 41 rfl (c_ 44 rfl (c_ 45 rfl (n_))))))))))
           refine W_reg rfl fun K hK => ?_
           refine sv2w hK hF (v_addI rfl rfl (by omega)) (v_move rfl) rfl rfl ?_; clear hF a hK K; intro a hF
           exact ⟨q2 - 1, by omega, j + 1, _, _, hF.sub _ (c_ 0 rfl (c_ 1 rfl (c_ 8 rfl (c_ 9 rfl (c_ 10 rfl (c_ 40 rfl (c_ 41 rfl (c_ 44 rfl (c_ 45 rfl (n_)))))))))), hS, hf, hO, hW, hKs, hC.cast (by rw [List.range_succ, List.map_append]; simp [zints]), by omega, by omega⟩
          ·
           skip
           try simp only [dcl] at hc8
           obtain rfl : j = kn := by omega
           obtain ⟨gx, cx, rfl, rfl⟩ := hC.ptr (by simp; omega)
           rw [zints_length, List.length_map, List.length_range] at hC hF
           have hvl := vls_length i j bs rc
           refine W_exit rfl ?_
           refine W_reg rfl fun K hK => ?_
           refine sv2 hF (v_move rfl) (v_move rfl) rfl rfl ?_; clear hF a; intro a hF
           refine s_bs (D := FDx) (B := B) hF sl36 rfl rfl (by decide) (by simp [Value.cells]) (by decide) hS.inv rfl ?_; clear hF a; intro w' a hm hI' hL hF
           replace hf := hf.mb hm
           replace hO := hO.mb hm (fun _ _ => by simp)
           replace hW := hW.mb0 hm
           replace hKs := Nat.le_trans hKs hm.size
           replace hC := hC.mb hm (fun _ _ => by simp)
           replace hS := hS.mb0 hm
           clear hm hI'
           refine s_app (D := FDx) (B := B) hF rfl sl36 rfl rfl hO (hL.row (by decide)) (by simp [Value.oneCell']) (by rw [vls_length]; simp; omega) (by rw [vls_length]; simp [maxLen]; omega) (hS.ext.size) (by decide) hS.inv rfl ?_; clear hF a; intro v' b' w' a ho' hm hI' hb' hF
           replace hf := hf.mb hm
           replace hW := hW.mbo hm hO (by decide)
           replace hKs := Nat.le_trans hKs hm.size
           replace hC := hC.mb hm (hC.ne_type hO (by decide))
           replace hS := hS.mb hm (fun k h => Nat.le_trans (Nat.le_refl _) (hO.lt k h).1)
           replace hO := ho'
           clear hm hI' ho'
           clear hL
           refine svw hK hF (v_assign rfl) rfl ?_; clear hF a hK K; intro a hF
           replace hF := hF.sub _ (c_ 8 rfl (c_ 59 rfl (c_ 58 rfl (c_ 57 rfl (c_ 56 rfl (c_ 0 rfl (c_ 1 rfl (c_ 9 rfl (c_ 10 rfl (c_ 40 rfl (c_ 41 rfl (c_ 44 rfl (c_ 45 rfl (n_))))))))))))))
           refine W_reg rfl fun K hK => ?_
           refine sv2w hK hF (v_addI rfl rfl (by omega)) (v_move rfl) rfl rfl ?_; clear hF a hK K; intro a hF
           exact ⟨q - 1, by omega, i + 1, _, _, _, _, hF.sub _ (c_ 0 rfl (c_ 1 rfl (c_ 8 rfl (c_ 40 rfl (c_ 41 rfl (n_)))))), hS, hf, hO.cast vls_snoc.symm, hW.snoc (hC.le hNK) ((hC.lt _ rfl).1), by omega, by omega⟩
        ·
         skip
         try simp only [dcl] at hc7
         refine W_exit rfl ?_
         obtain rfl : i = kn + mn - 1 := by omega
         refine W_sr rfl fun K hK => ?_
         refine sv hF (v_move rfl) rfl ?_; clear hF a; intro a hF
         have hKs0 := hKs
         refine s_mk (D := FDx) (B := B) (m := kn) hF sl53 rfl rfl (by simp) (by omega) (by simp only [maxLen]; omega) (by decide) hS.inv rfl ?_; clear hF a; intro w' a hm hI' hC hF
         replace hf := hf.mb hm
         replace hO := hO.mb hm (fun _ _ => by simp)
         replace hW := hW.mb0 hm
         replace hKs := Nat.le_trans hKs hm.size
         replace hS := hS.mb0 hm
         clear hm hI'
         replace hC := hC.le hKs0
         clear hKs0
         refine svw hK hF (v_assign rfl) rfl ?_; clear hF a hK K; intro a hF
         replace hF := hF.sub _ (c_ 12 rfl (c_ 62 rfl (c_ 61 rfl (c_ 0 rfl (c_ 1 rfl (c_ 8 rfl (c_ 40 rfl (c_ 41 rfl (n_)))))))))
         refine W_sr rfl fun K hK => ?_
         refine sv2 hF (v_move rfl) (v_move rfl) rfl rfl ?_; clear hF a; intro a hF
         refine sv hF ((v_subI rfl rfl (by omega)).as (show Value.int .i64 ((kn : Int) - 1) = .int .i64 ((kn - 1 : Nat) : Int) by congr 1; omega)) rfl ?_; clear hF a; intro a hF
         refine sv hF (v_ixS sl53 rfl rfl (by omega) (by omega)) rfl ?_; clear hF a; intro a hF
         refine s_set (D := FDx) (B := B) hF on3 rfl (by rw [toNat_c]; simp; omega) rfl rfl hC (by decide) hS.inv ?_; intro w' hm hI' ho'
         replace hf := hf.mb hm
         replace hO := hO.mb hm (hO.ne_type hC (by decide))
         replace hW := hW.mbx hm (fun k e => (hC.lt k e).1)
         replace hKs := Nat.le_trans hKs hm.size
         replace hS := hS.mb hm (fun k h => Nat.le_trans (hNK) (hC.lt k h).1)
         replace hC := ho'
         clear hm hI' ho'
         rw [toNat_c, Nat.zero_add, ext_last (o := o) (m := mn) (by omega)] at hC
         refine wn hK ?_
         clear hK K
         refine W_sr rfl fun K hK => ?_
         refine sv2 hF (v_move rfl) (v_move rfl) rfl rfl ?_; clear hF a; intro a hF
         refine s_bs (D := FDx) (B := B) hF sl36 rfl rfl (by decide) (by simp [Value.cells]) (by decide) hS.inv rfl ?_; clear hF a; intro w' a hm hI' hL hF
         replace hf := hf.mb hm
         replace hO := hO.mb hm (fun _ _ => by simp)
         replace hW := hW.mb0 hm
         replace hKs := Nat.le_trans hKs hm.size
         replace hC := hC.mb hm (fun _ _ => by simp)
         replace hS := hS.mb0 hm
         clear hm hI'
         refine s_app (D := FDx) (B := B) hF rfl sl36 rfl rfl hO (hL.row (by decide)) (by simp [Value.oneCell']) (by rw [vls_length]; simp; omega) (by rw [vls_length]; simp [maxLen]; omega) (hS.ext.size) (by decide) hS.inv rfl ?_; clear hF a; intro v' b' w' a ho' hm hI' hb' hF
         replace hf := hf.mb hm
         replace hW := hW.mbo hm hO (by decide)
         replace hKs := Nat.le_trans hKs hm.size
         replace hC := hC.mb hm (hC.ne_type hO (by decide))
         replace hS := hS.mb hm (fun k h => Nat.le_trans (Nat.le_refl _) (hO.lt k h).1)
         replace hO := ho'
         clear hm hI' ho'
         clear hL
         refine sv2w hK hF (v_assign rfl) (v_assign rfl) rfl rfl ?_; clear hF a hK K; intro a hF
         refine W_ret ?_
         refine ⟨_, _, _, hF, rfl, rfl, ?_⟩
         have hO2 := hO.cast vls_snoc.symm
         have hW2 := hW.snoc (hC.le hNK) ((hC.lt _ rfl).1)
         rw [show kn + mn - 1 + 1 = kn + mn by omega] at hO2 hW2
         obtain ⟨g, cap, rfl, rfl⟩ := hO2.ptr (by simp; omega)
         rw [vls_length] at hO2
         rw [vls_length, show ((kn : Int) + (mn : Int)).toNat = kn + mn by omega]
         simp only [Int.toNat_natCast]
         exact ⟨.inr ⟨hb, g, cap, _, _, rfl, hO2, hW2⟩, hS⟩
end Go.Proofs.YtkoiolamnnmokaaGreat
