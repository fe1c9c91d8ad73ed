/- The walks of package vander. -/
import Derived.Test.YtcnlooajjnghaaaFInvD
import Derived.Test.YtcnlooajjnghaaaGVan
set_option linter.unusedVariables false
set_option linter.unusedSimpArgs false
namespace Go.Proofs.Ytcnlooajjnghaaa
open Go Go.Gam


namespace FxFVan
theorem en15 : Ent Try.prog 15 := ent Try.func15 (by kernel_rfl) (by kernel_rfl)
theorem en16 : Ent Try.prog 16 := ent Try.func16 (by kernel_rfl) (by kernel_rfl)
theorem en23 : Ent Try.prog 23 := ent Try.func23 (by kernel_rfl) (by kernel_rfl)
theorem en33 : Ent Try.prog 33 := ent Try.func33 (by kernel_rfl) (by kernel_rfl)
theorem en49 : Ent Try.prog 49 := ent Try.func49 (by kernel_rfl) (by kernel_rfl)
theorem en50 : Ent Try.prog 50 := ent Try.func50 (by kernel_rfl) (by kernel_rfl)
theorem hmix : Try.prog.follows .mixedOrders = true := by kernel_rfl
theorem sc24 : Scalar Try.prog 24 := ⟨_, Try.underlying24, by simp, by simp⟩
theorem sl28 : Sl Try.prog 28 3 (.int .i64 0) 8 := sl_of Try.underlying28 rfl (by kernel_rfl)
theorem sl30 : Sl Try.prog 30 28 (.slice none 0 0) 24 := sl_of Try.underlying30 rfl (by kernel_rfl)
end FxFVan
open FxFVan

theorem Inverse_n (B M wb p : Nat) (hp : Prm wb p) (fv : Value) (pmt : Option Addr) (cmt n : Nat) (mt : Mtx) (w : World) (hI : Inv FDx B w) (hM : M ≤ w.heap.size) (hf : Fo FDx B w fv (some (wb, p))) (hA : Mat FDx B M w pmt cmt mt) (hl : mt.length ≤ maxLen) (hb : ∀ r ∈ mt, r.length ≤ maxLen) (hn : mt.length = n) :
    Ret Try.prog 16 [fv, .slice pmt n cmt] w fun v w' => ∃ ob u, v = .tuple #[u, .int .i64 (invR hp mt).1] ∧ MOwn FDx B w.heap.size 0 w'.heap.size w' 28 u ob (invR hp mt).2 ∧ St FDx B w w' := by
  subst hn; exact Inverse_ok B M wb p hp fv pmt cmt mt w hI hM hf hA hl hb

set_option maxRecDepth 100000 in
set_option maxHeartbeats 1000000 in
theorem fits_ok (B : Nat) (o : Fq) (fv : Value) (k m : Int) (w : World) (hf : Fo FDx B w fv o) : Ret Try.prog 49 [fv, .int .i64 k, .int .i64 m] w fun v w' => v = .bool (fitB o k m) ∧ w' = w := by
  refine enter 31 [(0, fv), (1, .int .i64 k), (2, .int .i64 m)] 6 Try.func49 rfl rfl rfl rfl rfl ?_; intro a hF
  obtain ⟨pa_, rfl, hpa⟩ := hf.ptr
  refine W_sr rfl (fun K hK => ?_)
  refine sv hF (v_assign rfl) rfl ?_; clear hF a; intro a hF
  refine WL_nil (hK _ _ ?_)
  clear hK K
  refine W_sr rfl (fun K hK => ?_)
  refine sv hF (v_move rfl) rfl ?_; clear hF a; intro a hF
  refine sb hF (v_neqNil (by exact Try.underlying24) rfl rfl) rfl ?_ ?_
  · clear hF a; intro hc1 a hF
    try simp only [decide_eq_true_eq, decide_eq_false_iff_not, Bool.not_eq_true', Bool.not_eq_false', Bool.not_true, Bool.not_false] at hc1
    refine sv hF (v_move rfl) rfl ?_; clear hF a; intro a hF
    refine svg hF rfl ?_
    refine sv hF (v_move rfl) rfl ?_; clear hF a; intro a hF
    refine svg hF rfl ?_
    refine sb hF (v_geq rfl rfl) rfl ?_ ?_
    · clear hF a; intro hc2 a hF
      try simp only [decide_eq_true_eq, decide_eq_false_iff_not, Bool.not_eq_true', Bool.not_eq_false', Bool.not_true, Bool.not_false] at hc2
      refine sv hF (v_pickT rfl rfl) rfl ?_; clear hF a; intro a hF
      refine sv hF (v_move rfl) rfl ?_; clear hF a; intro a hF
      refine svg hF rfl ?_
      refine sv hF (v_move rfl) rfl ?_; clear hF a; intro a hF
      refine svg hF rfl ?_
      refine sb hF (v_geq rfl rfl) rfl ?_ ?_
      · clear hF a; intro hc3 a hF
        try simp only [decide_eq_true_eq, decide_eq_false_iff_not, Bool.not_eq_true', Bool.not_eq_false', Bool.not_true, Bool.not_false] at hc3
        refine sv hF (v_pickT rfl rfl) rfl ?_; clear hF a; intro a hF
        refine sv hF (v_move rfl) rfl ?_; clear hF a; intro a hF
        refine svg hF rfl ?_
        refine sv hF (v_move rfl) rfl ?_; clear hF a; intro a hF
        refine svg hF rfl ?_
        refine sb hF (v_lss rfl rfl) rfl ?_ ?_
        · clear hF a; intro hc4 a hF
          try simp only [decide_eq_true_eq, decide_eq_false_iff_not, Bool.not_eq_true', Bool.not_eq_false', Bool.not_true, Bool.not_false] at hc4
          refine sv hF (v_pickT rfl rfl) rfl ?_; clear hF a; intro a hF
          refine sv hF (v_move rfl) rfl ?_; clear hF a; intro a hF
          refine svg hF rfl ?_
          refine sv hF (v_move rfl) rfl ?_; clear hF a; intro a hF
          refine svg hF rfl ?_
          refine sb hF (v_lss rfl rfl) rfl ?_ ?_
          · clear hF a; intro hc5 a hF
            try simp only [decide_eq_true_eq, decide_eq_false_iff_not, Bool.not_eq_true', Bool.not_eq_false', Bool.not_true, Bool.not_false] at hc5
            refine sv hF (v_pickT rfl rfl) rfl ?_; clear hF a; intro a hF
            refine sv hF (v_move rfl) rfl ?_; clear hF a; intro a hF
            refine svg hF rfl ?_
            refine sv hF (v_move rfl) rfl ?_; clear hF a; intro a hF
            refine svg hF rfl ?_
            refine sv hF (v_move rfl) rfl ?_; clear hF a; intro a hF
            refine svg hF rfl ?_
            refine sv hF (v_addI rfl rfl (by omega)) rfl ?_; clear hF a; intro a hF
            refine svg hF rfl ?_
            refine sv hF (v_leq rfl rfl) rfl ?_; clear hF a; intro a hF
            refine sv hF (v_pickT rfl rfl) rfl ?_; clear hF a; intro a hF
            refine sv hF (v_assign rfl) rfl ?_; clear hF a; intro a hF
            refine WL_nil (hK _ _ ?_)
            clear hK K
            replace hF := hF.sub _ (c_ 6 rfl (n_))
            refine W_ret ?_
            refine ⟨_, _, hF, rfl, ?_⟩
            refine ⟨congrArg Value.bool ?_, rfl⟩
            unfold fitB
            rw [← hpa]
            cases pa_ <;> first | (exfalso; simp_all; done) | (simp only [Option.isSome_some, Option.isSome_none, Bool.true_and, Bool.false_and]; done) | (simp only [Option.isSome_some, Bool.true_and]; first | (symm; rw [decide_eq_false_iff_not]; omega) | (rw [decide_eq_decide]; omega))
          · clear hF a; intro hc5 a hF
            try simp only [decide_eq_true_eq, decide_eq_false_iff_not, Bool.not_eq_true', Bool.not_eq_false', Bool.not_true, Bool.not_false] at hc5
            refine sv hF (v_pickT rfl rfl) rfl ?_; clear hF a; intro a hF
            refine sv hF (v_move rfl) rfl ?_; clear hF a; intro a hF
            refine svn hF rfl rfl rfl ?_; clear hF a; intro a hF
            refine svn hF rfl rfl rfl ?_; clear hF a; intro a hF
            refine svn hF rfl rfl rfl ?_; clear hF a; intro a hF
            refine svn hF rfl rfl rfl ?_; clear hF a; intro a hF
            refine sv hF (v_pickF rfl rfl) rfl ?_; clear hF a; intro a hF
            refine sv hF (v_assign rfl) rfl ?_; clear hF a; intro a hF
            refine WL_nil (hK _ _ ?_)
            clear hK K
            replace hF := hF.sub _ (c_ 6 rfl (n_))
            refine W_ret ?_
            refine ⟨_, _, hF, rfl, ?_⟩
            refine ⟨congrArg Value.bool ?_, rfl⟩
            unfold fitB
            rw [← hpa]
            cases pa_ <;> first | (exfalso; simp_all; done) | (simp only [Option.isSome_some, Option.isSome_none, Bool.true_and, Bool.false_and]; done) | (simp only [Option.isSome_some, Bool.true_and]; first | (symm; rw [decide_eq_false_iff_not]; omega) | (rw [decide_eq_decide]; omega))
        · clear hF a; intro hc4 a hF
          try simp only [decide_eq_true_eq, decide_eq_false_iff_not, Bool.not_eq_true', Bool.not_eq_false', Bool.not_true, Bool.not_false] at hc4
          refine sv hF (v_pickT rfl rfl) rfl ?_; clear hF a; intro a hF
          refine sv hF (v_move rfl) rfl ?_; clear hF a; intro a hF
          refine svn hF rfl rfl rfl ?_; clear hF a; intro a hF
          refine svn hF rfl rfl rfl ?_; clear hF a; intro a hF
          refine sv hF (v_pickF rfl rfl) rfl ?_; clear hF a; intro a hF
          refine sv hF (v_move rfl) rfl ?_; clear hF a; intro a hF
          refine svn hF rfl rfl rfl ?_; clear hF a; intro a hF
          refine svn hF rfl rfl rfl ?_; clear hF a; intro a hF
          refine svn hF rfl rfl rfl ?_; clear hF a; intro a hF
          refine svn hF rfl rfl rfl ?_; clear hF a; intro a hF
          refine sv hF (v_pickF rfl rfl) rfl ?_; clear hF a; intro a hF
          refine sv hF (v_assign rfl) rfl ?_; clear hF a; intro a hF
          refine WL_nil (hK _ _ ?_)
          clear hK K
          replace hF := hF.sub _ (c_ 6 rfl (n_))
          refine W_ret ?_
          refine ⟨_, _, hF, rfl, ?_⟩
          refine ⟨congrArg Value.bool ?_, rfl⟩
          unfold fitB
          rw [← hpa]
          cases pa_ <;> first | (exfalso; simp_all; done) | (simp only [Option.isSome_some, Option.isSome_none, Bool.true_and, Bool.false_and]; done) | (simp only [Option.isSome_some, Bool.true_and]; first | (symm; rw [decide_eq_false_iff_not]; omega) | (rw [decide_eq_decide]; omega))
      · clear hF a; intro hc3 a hF
        try simp only [decide_eq_true_eq, decide_eq_false_iff_not, Bool.not_eq_true', Bool.not_eq_false', Bool.not_true, Bool.not_false] at hc3
        refine sv hF (v_pickT rfl rfl) rfl ?_; clear hF a; intro a hF
        refine sv hF (v_move rfl) rfl ?_; clear hF a; intro a hF
        refine svn hF rfl rfl rfl ?_; clear hF a; intro a hF
        refine svn hF rfl rfl rfl ?_; clear hF a; intro a hF
        refine sv hF (v_pickF rfl rfl) rfl ?_; clear hF a; intro a hF
        refine sv hF (v_move rfl) rfl ?_; clear hF a; intro a hF
        refine svn hF rfl rfl rfl ?_; clear hF a; intro a hF
        refine svn hF rfl rfl rfl ?_; clear hF a; intro a hF
        refine sv hF (v_pickF rfl rfl) rfl ?_; clear hF a; intro a hF
        refine sv hF (v_move rfl) rfl ?_; clear hF a; intro a hF
        refine svn hF rfl rfl rfl ?_; clear hF a; intro a hF
        refine svn hF rfl rfl rfl ?_; clear hF a; intro a hF
        refine svn hF rfl rfl rfl ?_; clear hF a; intro a hF
        refine svn hF rfl rfl rfl ?_; clear hF a; intro a hF
        refine sv hF (v_pickF rfl rfl) rfl ?_; clear hF a; intro a hF
        refine sv hF (v_assign rfl) rfl ?_; clear hF a; intro a hF
        refine WL_nil (hK _ _ ?_)
        clear hK K
        replace hF := hF.sub _ (c_ 6 rfl (n_))
        refine W_ret ?_
        refine ⟨_, _, hF, rfl, ?_⟩
        refine ⟨congrArg Value.bool ?_, rfl⟩
        unfold fitB
        rw [← hpa]
        cases pa_ <;> first | (exfalso; simp_all; done) | (simp only [Option.isSome_some, Option.isSome_none, Bool.true_and, Bool.false_and]; done) | (simp only [Option.isSome_some, Bool.true_and]; first | (symm; rw [decide_eq_false_iff_not]; omega) | (rw [decide_eq_decide]; omega))
    · clear hF a; intro hc2 a hF
      try simp only [decide_eq_true_eq, decide_eq_false_iff_not, Bool.not_eq_true', Bool.not_eq_false', Bool.not_true, Bool.not_false] at hc2
      refine sv hF (v_pickT rfl rfl) rfl ?_; clear hF a; intro a hF
      refine sv hF (v_move rfl) rfl ?_; clear hF a; intro a hF
      refine svn hF rfl rfl rfl ?_; clear hF a; intro a hF
      refine svn hF rfl rfl rfl ?_; clear hF a; intro a hF
      refine sv hF (v_pickF rfl rfl) rfl ?_; clear hF a; intro a hF
      refine sv hF (v_move rfl) rfl ?_; clear hF a; intro a hF
      refine svn hF rfl rfl rfl ?_; clear hF a; intro a hF
      refine svn hF rfl rfl rfl ?_; clear hF a; intro a hF
      refine sv hF (v_pickF rfl rfl) rfl ?_; clear hF a; intro a hF
      refine sv hF (v_move rfl) rfl ?_; clear hF a; intro a hF
      refine svn hF rfl rfl rfl ?_; clear hF a; intro a hF
      refine svn hF rfl rfl rfl ?_; clear hF a; intro a hF
      refine sv hF (v_pickF rfl rfl) rfl ?_; clear hF a; intro a hF
      refine sv hF (v_move rfl) rfl ?_; clear hF a; intro a hF
      refine svn hF rfl rfl rfl ?_; clear hF a; intro a hF
      refine svn hF rfl rfl rfl ?_; clear hF a; intro a hF
      refine svn hF rfl rfl rfl ?_; clear hF a; intro a hF
      refine svn hF rfl rfl rfl ?_; clear hF a; intro a hF
      refine sv hF (v_pickF rfl rfl) rfl ?_; clear hF a; intro a hF
      refine sv hF (v_assign rfl) rfl ?_; clear hF a; intro a hF
      refine WL_nil (hK _ _ ?_)
      clear hK K
      replace hF := hF.sub _ (c_ 6 rfl (n_))
      refine W_ret ?_
      refine ⟨_, _, hF, rfl, ?_⟩
      refine ⟨congrArg Value.bool ?_, rfl⟩
      unfold fitB
      rw [← hpa]
      cases pa_ <;> first | (exfalso; simp_all; done) | (simp only [Option.isSome_some, Option.isSome_none, Bool.true_and, Bool.false_and]; done) | (simp only [Option.isSome_some, Bool.true_and]; first | (symm; rw [decide_eq_false_iff_not]; omega) | (rw [decide_eq_decide]; omega))
  · clear hF a; intro hc1 a hF
    try simp only [decide_eq_true_eq, decide_eq_false_iff_not, Bool.not_eq_true', Bool.not_eq_false', Bool.not_true, Bool.not_false] at hc1
    refine sv hF (v_move rfl) rfl ?_; clear hF a; intro a hF
    refine svn hF rfl rfl rfl ?_; clear hF a; intro a hF
    refine svn hF rfl rfl rfl ?_; clear hF a; intro a hF
    refine sv hF (v_pickF rfl rfl) rfl ?_; clear hF a; intro a hF
    refine sv hF (v_move rfl) rfl ?_; clear hF a; intro a hF
    refine svn hF rfl rfl rfl ?_; clear hF a; intro a hF
    refine svn hF rfl rfl rfl ?_; clear hF a; intro a hF
    refine sv hF (v_pickF rfl rfl) rfl ?_; clear hF a; intro a hF
    refine sv hF (v_move rfl) rfl ?_; clear hF a; intro a hF
    refine svn hF rfl rfl rfl ?_; clear hF a; intro a hF
    refine svn hF rfl rfl rfl ?_; clear hF a; intro a hF
    refine sv hF (v_pickF rfl rfl) rfl ?_; clear hF a; intro a hF
    refine sv hF (v_move rfl) rfl ?_; clear hF a; intro a hF
    refine svn hF rfl rfl rfl ?_; clear hF a; intro a hF
    refine svn hF rfl rfl rfl ?_; clear hF a; intro a hF
    refine sv hF (v_pickF rfl rfl) rfl ?_; clear hF a; intro a hF
    refine sv hF (v_move rfl) rfl ?_; clear hF a; intro a hF
    refine svn hF rfl rfl rfl ?_; clear hF a; intro a hF
    refine svn hF rfl rfl rfl ?_; clear hF a; intro a hF
    refine svn hF rfl rfl rfl ?_; clear hF a; intro a hF
    refine svn hF rfl rfl rfl ?_; clear hF a; intro a hF
    refine sv hF (v_pickF rfl rfl) rfl ?_; clear hF a; intro a hF
    refine sv hF (v_assign rfl) rfl ?_; clear hF a; intro a hF
    refine WL_nil (hK _ _ ?_)
    clear hK K
    replace hF := hF.sub _ (c_ 6 rfl (n_))
    refine W_ret ?_
    refine ⟨_, _, hF, rfl, ?_⟩
    refine ⟨congrArg Value.bool ?_, rfl⟩
    unfold fitB
    rw [← hpa]
    cases pa_ <;> first | (exfalso; simp_all; done) | (simp only [Option.isSome_some, Option.isSome_none, Bool.true_and, Bool.false_and]; done) | (simp only [Option.isSome_some, Bool.true_and]; first | (symm; rw [decide_eq_false_iff_not]; omega) | (rw [decide_eq_decide]; omega))

set_option maxRecDepth 100000 in
set_option maxHeartbeats 1000000 in
theorem made_ok (B n m : Nat) (g : FuncId) (lb : List Value) (f : Tb) (w : World) (hI : Inv FDx B w) (hn : n ≤ 100 ∧ m ≤ 100) (eg : Ent Try.prog g) (hc : ∀ i j, i < n → j < m → ∀ w1, St FDx B w w1 → Ret Try.prog g (.int .i64 (i : Int) :: .int .i64 (j : Int) :: lb) w1 fun v w' => v = .int .i64 (f i j : Int) ∧ St FDx B w1 w') : Ret Try.prog 50 [.int .i64 (n : Int), .int .i64 (m : Int), .func (.func g) ([] : List Value).toArray (lb : List Value).toArray] w fun v w' => ∃ ob, MOwn FDx B w.heap.size 0 w'.heap.size w' 28 v ob (tab n m f) ∧ St FDx B w w' := by
  refine enter 33 [(0, .int .i64 (n : Int)), (1, .int .i64 (m : Int)), (2, .func (.func g) ([] : List Value).toArray (lb : List Value).toArray)] 6 Try.func50 rfl rfl rfl rfl rfl ?_; intro a hF
  have hS := St.refl hI
  refine W_sr rfl (fun K hK => ?_)
  refine sv hF (v_assign rfl) rfl ?_; clear hF a; intro a hF
  refine WL_nil (hK _ _ ?_)
  clear hK K
  refine W_sr rfl (fun K hK => ?_)
  refine sv hF (v_assign rfl) rfl ?_; clear hF a; intro a hF
  refine WL_nil (hK _ _ ?_)
  clear hK K
  refine W_seq ?_
  refine W_sr rfl (fun K hK => ?_)
  refine sv hF (v_move rfl) rfl ?_; clear hF a; intro a hF
  refine sv hF (v_move rfl) rfl ?_; clear hF a; intro a hF
  refine WL_nil (hK _ _ ?_)
  clear hK K
  replace hF := hF.sub _ (c_ 12 rfl (c_ 11 rfl (c_ 7 rfl (c_ 6 rfl (c_ 1 rfl (c_ 2 rfl (n_)))))))
  refine W_block ?_
  refine W_loop (fun q a w1 => ∃ (i : Nat) (v7 : Value) (b7 : Option Nat), Fr 33 [(1, .int .i64 (m : Int)), (2, .func (.func g) ([] : List Value).toArray (lb : List Value).toArray), (7, v7), (11, .int .i64 (n : Int)), (12, .int .i64 (i : Int))] a ∧ (St FDx B w w1) ∧ (MOwn FDx B w.heap.size 0 w1.heap.size w1 28 v7 b7 ((List.range i).map (trow m f))) ∧ (i ≤ n) ∧ (q + i = n)) (n) ?_ ?_
  · skip
    exact ⟨0, _, none, hF.sub _ (c_ 1 rfl (c_ 2 rfl (c_ 7 rfl (c_ 11 rfl (c_ 12 rfl (n_)))))), hS, MOwn.nil _ _ _ _ _ _ _ (Nat.zero_le _), by omega, by omega⟩
  · skip
    clear hF
    clear hS
    rintro q a w1 ⟨i, v7, b7, hF, hS, hMO, hi, hq⟩
    obtain ⟨KM, hKe⟩ : ∃ KM, KM = w1.heap.size := ⟨_, rfl⟩
    rw [← hKe] at hMO
    have hKs : KM ≤ w1.heap.size := by omega
    have hNK : w.heap.size ≤ KM := by have := hS.ext.size; omega
    clear hKe
    refine W_sr rfl (fun K hK => ?_)
    refine sv hF (v_lss rfl rfl) rfl ?_; clear hF a; intro a hF
    refine WL_nil (hK _ _ ?_)
    clear hK K
    refine W_seq ?_
    refine W_if hF rfl (fun hc1 => ?_) (fun hc1 => ?_)
    · skip
      try simp only [decide_eq_true_eq, decide_eq_false_iff_not, Bool.not_eq_true', Bool.not_eq_false', Bool.not_true, Bool.not_false] at hc1
      have hlt : i < n := by omega
      refine W_skip ?_
      refine W_seq ?_
      refine W_block ?_
      refine W_sr rfl (fun K hK => ?_)
      refine sv hF (v_move rfl) rfl ?_; clear hF a; intro a hF
      refine sv hF (v_assign rfl) rfl ?_; clear hF a; intro a hF
      refine WL_nil (hK _ _ ?_)
      clear hK K
      replace hF := hF.sub _ (c_ 8 rfl (c_ 1 rfl (c_ 2 rfl (c_ 7 rfl (c_ 11 rfl (c_ 12 rfl (n_)))))))
      refine W_sr rfl (fun K hK => ?_)
      refine sv hF (v_assign rfl) rfl ?_; clear hF a; intro a hF
      refine WL_nil (hK _ _ ?_)
      clear hK K
      refine W_seq ?_
      refine W_sr rfl (fun K hK => ?_)
      refine sv hF (v_move rfl) rfl ?_; clear hF a; intro a hF
      refine sv hF (v_move rfl) rfl ?_; clear hF a; intro a hF
      refine WL_nil (hK _ _ ?_)
      clear hK K
      refine W_block ?_
      refine W_loop (fun q2 a w2 => ∃ (j : Nat) (v9 : Value) (b9 : Option Nat), Fr 33 [(1, .int .i64 (m : Int)), (2, .func (.func g) ([] : List Value).toArray (lb : List Value).toArray), (7, v7), (8, .int .i64 (i : Int)), (9, v9), (11, .int .i64 (n : Int)), (12, .int .i64 (i : Int)), (15, .int .i64 (m : Int)), (16, .int .i64 (j : Int))] a ∧ (St FDx B w w2) ∧ (MOwn FDx B w.heap.size 0 KM w2 28 v7 b7 ((List.range i).map (trow m f))) ∧ (KM ≤ w2.heap.size) ∧ (Gam.Own FDx B KM w2 FDx.E v9 b9 (zints ((List.range j).map fun j => (f i j : Int)))) ∧ (j ≤ m) ∧ (q2 + j = m)) (m) ?_ ?_
      · skip
        exact ⟨0, _, none, hF.sub _ (c_ 1 rfl (c_ 2 rfl (c_ 7 rfl (c_ 8 rfl (c_ 9 rfl (c_ 11 rfl (c_ 12 rfl (c_ 15 rfl (c_ 16 rfl (n_)))))))))), hS, hMO, hKs, Gam.Own.nil _ _ _ _ _, by omega, by omega⟩
      · skip
        clear hF
        clear hS hMO hKs
        rintro q2 a w2 ⟨j, v9, b9, hF, hS, hMO, hKs, hO, hj, hq2⟩
        refine W_sr rfl (fun K hK => ?_)
        refine sv hF (v_lss rfl rfl) rfl ?_; clear hF a; intro a hF
        refine WL_nil (hK _ _ ?_)
        clear hK K
        refine W_seq ?_
        refine W_if hF rfl (fun hc2 => ?_) (fun hc2 => ?_)
        · skip
          try simp only [decide_eq_true_eq, decide_eq_false_iff_not, Bool.not_eq_true', Bool.not_eq_false', Bool.not_true, Bool.not_false] at hc2
          have hlt2 : j < m := by omega
          refine W_skip ?_
          refine W_seq ?_
          refine W_block ?_
          refine W_sr rfl (fun K hK => ?_)
          refine sv hF (v_move rfl) rfl ?_; clear hF a; intro a hF
          refine sv hF (v_assign rfl) rfl ?_; clear hF a; intro a hF
          refine WL_nil (hK _ _ ?_)
          clear hK K
          replace hF := hF.sub _ (c_ 10 rfl (c_ 1 rfl (c_ 2 rfl (c_ 7 rfl (c_ 8 rfl (c_ 9 rfl (c_ 11 rfl (c_ 12 rfl (c_ 15 rfl (c_ 16 rfl (n_)))))))))))
          refine W_reg rfl (fun K hK => ?_)
          refine sv hF (v_move rfl) rfl ?_; clear hF a; intro a hF
          refine sv hF (v_move rfl) rfl ?_; clear hF a; intro a hF
          refine sv hF (v_move rfl) rfl ?_; clear hF a; intro a hF
          refine sv hF (v_move rfl) rfl ?_; clear hF a; intro a hF
          refine sc hF rfl rfl rfl eg rfl (hc i j hlt hlt2 _ hS) ?_; clear hF a; intro v w' a hv hF
          obtain ⟨rfl, hS'⟩ := hv
          replace hMO := hMO.st (by decide) hS'
          replace hKs := Nat.le_trans hKs hS'.ext.size
          replace hO := hO.st (by decide) hS'
          replace hS := hS.trans hS'
          clear hS'
          refine s_bs (D := FDx) (B := B) hF sl28 rfl rfl (by decide) (by simp [Value.cells]) (by decide) hS.inv rfl ?_; clear hF a; intro w' a hm hI' hL hF
          replace hMO := hMO.mb0 hm
          replace hKs := Nat.le_trans hKs hm.size
          replace hO := hO.mb hm (fun _ _ => by simp)
          replace hS := hS.mb0 hm
          clear hm hI'
          refine s_app (D := FDx) (B := B) hF rfl sl28 rfl rfl hO (hL.row (by decide)) (by simp [Value.oneCell']) (by simp; omega) (by simp [maxLen]; omega) (hKs) (by decide) hS.inv rfl ?_; clear hF a; intro v' b' w' a ho' hm hI' hb' hF
          replace hMO := hMO.mbo hm hO (by decide) (Nat.le_refl _) (Nat.zero_le _)
          replace hKs := Nat.le_trans hKs hm.size
          replace hS := hS.mb hm (fun k h => Nat.le_trans (hNK) (hO.lt k h).1)
          replace hO := ho'
          clear hm hI' ho'
          refine sv hF (v_assign rfl) rfl ?_; clear hF a; intro a hF
          refine WL_nil (hK _ _ ?_)
          clear hK K
          replace hF := hF.sub _ (c_ 9 rfl (c_ 1 rfl (c_ 2 rfl (c_ 7 rfl (c_ 8 rfl (c_ 11 rfl (c_ 12 rfl (c_ 15 rfl (c_ 16 rfl (n_))))))))))
          refine W_reg rfl (fun K hK => ?_)
          refine sv hF (v_addI rfl rfl (by omega)) rfl ?_; clear hF a; intro a hF
          refine sv hF (v_move rfl) rfl ?_; clear hF a; intro a hF
          refine WL_nil (hK _ _ ?_)
          clear hK K
          exact ⟨q2 - 1, by omega, j + 1, _, _, hF.sub _ (c_ 1 rfl (c_ 2 rfl (c_ 7 rfl (c_ 8 rfl (c_ 9 rfl (c_ 11 rfl (c_ 12 rfl (c_ 15 rfl (c_ 16 rfl (n_)))))))))), hS, hMO, hKs, hO.cast (by rw [List.range_succ, List.map_append]; simp [zints]), by omega, by omega⟩
        · skip
          try simp only [decide_eq_true_eq, decide_eq_false_iff_not, Bool.not_eq_true', Bool.not_eq_false', Bool.not_true, Bool.not_false] at hc2
          have hjm : j = m := by omega
          rw [hjm] at hO
          refine W_exit rfl ?_
          refine W_reg rfl (fun K hK => ?_)
          refine sv hF (v_move rfl) rfl ?_; clear hF a; intro a hF
          refine sv hF (v_move rfl) rfl ?_; clear hF a; intro a hF
          obtain ⟨a_, c_r, rfl⟩ := hO.shape
          refine s_bs (D := FDx) (B := B) hF sl30 rfl rfl (by decide) (by simp [Value.cells]) (by decide) hS.inv rfl ?_; clear hF a; intro w' a hm hI' hL hF
          replace hMO := hMO.mb0 hm
          replace hKs := Nat.le_trans hKs hm.size
          replace hO := hO.mb hm (fun _ _ => by simp)
          replace hS := hS.mb0 hm
          clear hm hI'
          replace hMO := hMO.up hKs
          clear hKs
          refine s_appM (D := FDx) (B := B) hF rfl sl30 rfl rfl hMO hL (.of (r := trow m f i) hO (Nat.zero_le _)) rfl rfl (by simp; omega) (hS.ext.size) (by decide) (by decide) hS.inv rfl ?_; clear hF a; intro v' b' w' a ho' hm hI' hF
          replace hS := hS.mb hm (fun k h => (hMO.lt k h).1)
          have hKm := hm.size
          replace hMO := ho'
          clear hm hI' ho' hL
          refine sv hF (v_assign rfl) rfl ?_; clear hF a; intro a hF
          refine WL_nil (hK _ _ ?_)
          clear hK K
          replace hF := hF.sub _ (c_ 7 rfl (c_ 30 rfl (c_ 29 rfl (c_ 28 rfl (c_ 27 rfl (c_ 1 rfl (c_ 2 rfl (c_ 8 rfl (c_ 9 rfl (c_ 11 rfl (c_ 12 rfl (c_ 15 rfl (c_ 16 rfl (n_))))))))))))))
          refine W_reg rfl (fun K hK => ?_)
          refine sv hF (v_addI rfl rfl (by omega)) rfl ?_; clear hF a; intro a hF
          refine sv hF (v_move rfl) rfl ?_; clear hF a; intro a hF
          refine WL_nil (hK _ _ ?_)
          clear hK K
          exact ⟨q - 1, by omega, i + 1, _, _, hF.sub _ (c_ 1 rfl (c_ 2 rfl (c_ 7 rfl (c_ 11 rfl (c_ 12 rfl (n_)))))), hS, (hMO.up hKm).cast (by rw [List.range_succ, List.map_append]; rfl), by omega, by omega⟩
    · skip
      try simp only [decide_eq_true_eq, decide_eq_false_iff_not, Bool.not_eq_true', Bool.not_eq_false', Bool.not_true, Bool.not_false] at hc1
      refine W_exit rfl ?_
      refine W_sr rfl (fun K hK => ?_)
      refine sv hF (v_move rfl) rfl ?_; clear hF a; intro a hF
      refine sv hF (v_assign rfl) rfl ?_; clear hF a; intro a hF
      refine WL_nil (hK _ _ ?_)
      clear hK K
      replace hF := hF.sub _ (c_ 6 rfl (c_ 32 rfl (c_ 1 rfl (c_ 2 rfl (c_ 7 rfl (c_ 11 rfl (c_ 12 rfl (n_))))))))
      refine W_ret ?_
      refine ⟨_, _, hF, rfl, ?_⟩
      obtain rfl : i = n := by omega
      exact ⟨_, (hMO.up hKs).cast rfl, hS⟩

set_option maxRecDepth 100000 in
set_option maxHeartbeats 1000000 in
theorem Raw1_ok (B : Nat) (o : Fq) (fv : Value) (pf i j : Nat) (w : World) (hI : Inv FDx B w) (hf : Fo FDx B w fv o) (hkf : KC FDx B w ⟨pf, 0, none⟩ fv) (hij : i ≤ 100 ∧ j ≤ 100) : Ret Try.prog 55 [.int .i64 (i : Int), .int .i64 (j : Int), .pointer (some ⟨pf, 0, none⟩)] w fun v w' => v = .int .i64 (pwT o i j : Int) ∧ St FDx B w w' := by
  refine enter 10 [(0, .int .i64 (i : Int)), (1, .int .i64 (j : Int)), (2, .pointer (some ⟨pf, 0, none⟩))] 5 Try.func55 rfl rfl rfl rfl rfl ?_; intro a hF
  have hS := St.refl hI
  refine W_sr rfl (fun K hK => ?_)
  refine sv hF (v_assign rfl) rfl ?_; clear hF a; intro a hF
  refine WL_nil (hK _ _ ?_)
  clear hK K
  refine W_sr rfl (fun K hK => ?_)
  refine sv hF (v_load sc24 rfl hkf.c) rfl ?_; clear hF a; intro a hF
  refine sv hF (v_move rfl) rfl ?_; clear hF a; intro a hF
  refine sv hF (v_move rfl) rfl ?_; clear hF a; intro a hF
  refine sc hF rfl rfl rfl en15 rfl (Pow_gf B o fv (i : Int) (j : Int) _ hS.inv hf (by omega)) ?_; clear hF a; intro v w' a hv hF
  obtain ⟨rfl, hS'⟩ := hv
  replace hS := hS.trans hS'
  clear hS'
  refine sv hF (v_assign rfl) rfl ?_; clear hF a; intro a hF
  refine WL_nil (hK _ _ ?_)
  clear hK K
  replace hF := hF.sub _ (c_ 5 rfl (n_))
  refine W_ret ?_
  refine ⟨_, _, hF, rfl, ?_⟩
  exact ⟨congrArg _ (pwT_nn hf.prms _ _).symm, hS⟩

set_option maxRecDepth 100000 in
set_option maxHeartbeats 1000000 in
theorem Isal1_ok (B : Nat) (o : Fq) (fv : Value) (pf i j : Nat) (w : World) (hI : Inv FDx B w) (hf : Fo FDx B w fv o) (hkf : KC FDx B w ⟨pf, 0, none⟩ fv) (hij : i ≤ 100 ∧ j ≤ 100) : Ret Try.prog 51 [.int .i64 (i : Int), .int .i64 (j : Int), .pointer (some ⟨pf, 0, none⟩)] w fun v w' => v = .int .i64 (isT o i j : Int) ∧ St FDx B w w' := by
  refine enter 12 [(0, .int .i64 (i : Int)), (1, .int .i64 (j : Int)), (2, .pointer (some ⟨pf, 0, none⟩))] 5 Try.func51 rfl rfl rfl rfl rfl ?_; intro a hF
  have hS := St.refl hI
  refine W_sr rfl (fun K hK => ?_)
  refine sv hF (v_assign rfl) rfl ?_; clear hF a; intro a hF
  refine WL_nil (hK _ _ ?_)
  clear hK K
  refine W_sd (m := 7) rfl hmix hS.inv (fun K hK w1 hS' hh => ?_)
  replace hf := hf.st hS'
  replace hkf := hkf.st hS'
  replace hS := hS.trans hS'
  clear hS'
  clear hh
  refine a_v (i := 0) rfl (by kernel_rfl) hF (fun w2 hx => v_load sc24 rfl (hkf.ld hx)) rfl ?_; clear hF a; intro a hF
  refine a_v (i := 1) rfl (by kernel_rfl) hF (fun w2 hx => v_load sc24 rfl (hkf.ld hx)) rfl ?_; clear hF a; intro a hF
  refine a_v (i := 2) rfl (by kernel_rfl) hF (fun w2 hx => v_move rfl) rfl ?_; clear hF a; intro a hF
  refine a_v (i := 4) rfl (by kernel_rfl) hF (fun w2 hx => v_move rfl) rfl ?_; clear hF a; intro a hF
  refine a_e (i := 3) rfl (by kernel_rfl) ?_
  refine sc hF rfl rfl rfl en15 rfl (Pow_gf B o fv 2 (i : Int) _ hS.inv hf (by omega)) ?_; clear hF a; intro v w' a hv hF
  obtain ⟨rfl, hS'⟩ := hv
  refine WL_nil ⟨hS'.ext, ?_⟩
  replace hf := hf.st hS'
  replace hkf := hkf.st hS'
  replace hS := hS.trans hS'
  clear hS'
  refine a_e (i := 5) rfl (by kernel_rfl) ?_
  refine sc hF rfl rfl rfl en15 rfl (Pow_gf B o fv (gpow o 2 (i : Int)) (j : Int) _ hS.inv hf (by omega)) ?_; clear hF a; intro v w' a hv hF
  obtain ⟨rfl, hS'⟩ := hv
  refine WL_nil ⟨hS'.ext, ?_⟩
  replace hf := hf.st hS'
  replace hkf := hkf.st hS'
  replace hS := hS.trans hS'
  clear hS'
  refine a_v (i := 6) rfl (by kernel_rfl) hF (fun w2 hx => v_assign rfl) rfl ?_; clear hF a; intro a hF
  refine a_done (by kernel_rfl) (hK _ _ ?_)
  clear hK K
  replace hF := hF.sub _ (c_ 5 rfl (n_))
  refine W_ret ?_
  refine ⟨_, _, hF, rfl, ?_⟩
  exact ⟨congrArg _ (pwT_nn hf.prms _ _).symm, hS⟩

set_option maxRecDepth 100000 in
set_option maxHeartbeats 1000000 in
theorem Raw_ok (B : Nat) (o : Fq) (fv : Value) (k m : Int) (w : World) (hI : Inv FDx B w) (hf : Fo FDx B w fv o) : Ret Try.prog 33 [fv, .int .i64 k, .int .i64 m] w fun v w' => ∃ ob u, v = .tuple #[u, .int .i64 (errV (rawM o k m))] ∧ MOwn FDx B w.heap.size 0 w'.heap.size w' 28 u ob ((rawM o k m).getD []) ∧ St FDx B w w' := by
  refine enter2 30 [(0, fv), (1, .int .i64 k), (2, .int .i64 m)] 6 7 Try.func33 rfl rfl rfl rfl rfl ?_; intro a hF
  have hS := St.refl hI
  obtain ⟨pa_, rfl, hpa⟩ := hf.ptr
  refine W_sr rfl (fun K hK => ?_)
  obtain ⟨pf, hpf⟩ : ∃ pf, pf = w.heap.size := ⟨_, rfl⟩
  refine s_boxN (D := FDx) (B := B) hF rfl (hf.cells1) (by decide) hS.inv rfl ?_; clear hF a; intro w' a hm hI' hbf hsz hF
  replace hf := hf.mb hm
  replace hS := hS.mb0 hm
  clear hm hI' hsz
  rw [← hpf] at hbf hF
  have hkf := hbf.kc
  clear hbf
  refine sv hF (v_assign rfl) rfl ?_; clear hF a; intro a hF
  refine sv hF (v_assign rfl) rfl ?_; clear hF a; intro a hF
  refine WL_nil (hK _ _ ?_)
  clear hK K
  replace hF := hF.sub _ (c_ 7 rfl (c_ 6 rfl (c_ 3 rfl (c_ 1 rfl (c_ 2 rfl (n_))))))
  refine W_seq ?_
  refine W_sr rfl (fun K hK => ?_)
  refine sv hF (v_load sc24 rfl hkf.c) rfl ?_; clear hF a; intro a hF
  refine sb hF (v_eqlNil (by exact Try.underlying24) rfl rfl) rfl ?_ ?_
  · clear hF a; intro hc1 a hF
    try simp only [decide_eq_true_eq, decide_eq_false_iff_not, Bool.not_eq_true', Bool.not_eq_false', Bool.not_true, Bool.not_false] at hc1
    refine sv hF (v_move rfl) rfl ?_; clear hF a; intro a hF
    refine svn hF rfl rfl rfl ?_; clear hF a; intro a hF
    refine svn hF rfl rfl rfl ?_; clear hF a; intro a hF
    refine sv hF (v_pickT rfl rfl) rfl ?_; clear hF a; intro a hF
    refine sv hF (v_move rfl) rfl ?_; clear hF a; intro a hF
    refine svn hF rfl rfl rfl ?_; clear hF a; intro a hF
    refine svn hF rfl rfl rfl ?_; clear hF a; intro a hF
    refine sv hF (v_pickT rfl rfl) rfl ?_; clear hF a; intro a hF
    refine sv hF (v_move rfl) rfl ?_; clear hF a; intro a hF
    refine svn hF rfl rfl rfl ?_; clear hF a; intro a hF
    refine svn hF rfl rfl rfl ?_; clear hF a; intro a hF
    refine sv hF (v_pickT rfl rfl) rfl ?_; clear hF a; intro a hF
    refine sv hF (v_move rfl) rfl ?_; clear hF a; intro a hF
    refine svn hF rfl rfl rfl ?_; clear hF a; intro a hF
    refine svn hF rfl rfl rfl ?_; clear hF a; intro a hF
    refine sv hF (v_pickT rfl rfl) rfl ?_; clear hF a; intro a hF
    refine WL_nil (hK _ _ ?_)
    clear hK K
    replace hF := hF.sub _ (c_ 25 rfl (c_ 7 rfl (c_ 6 rfl (c_ 3 rfl (c_ 1 rfl (c_ 2 rfl (n_)))))))
    refine W_ifT hF rfl ?_
    refine W_sr rfl (fun K hK => ?_)
    refine sv hF (v_assign rfl) rfl ?_; clear hF a; intro a hF
    refine sv hF (v_assign rfl) rfl ?_; clear hF a; intro a hF
    refine WL_nil (hK _ _ ?_)
    clear hK K
    replace hF := hF.sub _ (c_ 7 rfl (c_ 6 rfl (c_ 3 rfl (c_ 1 rfl (c_ 2 rfl (n_))))))
    refine W_ret ?_
    refine ⟨_, _, _, hF, rfl, rfl, ?_⟩
    have hb : rawB o k m = false := by unfold rawB; rw [← hpa]; cases pa_ <;> first | (exfalso; simp_all; done) | rfl | (rw [decide_eq_false (by omega)]; rfl)
    rw [rawM_no hb]
    exact ⟨none, _, rfl, MOwn.nil _ _ _ _ _ _ _ (Nat.zero_le _), hS⟩
  · clear hF a; intro hc1 a hF
    try simp only [decide_eq_true_eq, decide_eq_false_iff_not, Bool.not_eq_true', Bool.not_eq_false', Bool.not_true, Bool.not_false] at hc1
    refine sv hF (v_move rfl) rfl ?_; clear hF a; intro a hF
    refine svg hF rfl ?_
    refine sv hF (v_move rfl) rfl ?_; clear hF a; intro a hF
    refine svg hF rfl ?_
    refine sb hF (v_lss rfl rfl) rfl ?_ ?_
    · clear hF a; intro hc2 a hF
      try simp only [decide_eq_true_eq, decide_eq_false_iff_not, Bool.not_eq_true', Bool.not_eq_false', Bool.not_true, Bool.not_false] at hc2
      refine sv hF (v_pickF rfl rfl) rfl ?_; clear hF a; intro a hF
      refine sv hF (v_move rfl) rfl ?_; clear hF a; intro a hF
      refine svn hF rfl rfl rfl ?_; clear hF a; intro a hF
      refine svn hF rfl rfl rfl ?_; clear hF a; intro a hF
      refine sv hF (v_pickT rfl rfl) rfl ?_; clear hF a; intro a hF
      refine sv hF (v_move rfl) rfl ?_; clear hF a; intro a hF
      refine svn hF rfl rfl rfl ?_; clear hF a; intro a hF
      refine svn hF rfl rfl rfl ?_; clear hF a; intro a hF
      refine sv hF (v_pickT rfl rfl) rfl ?_; clear hF a; intro a hF
      refine sv hF (v_move rfl) rfl ?_; clear hF a; intro a hF
      refine svn hF rfl rfl rfl ?_; clear hF a; intro a hF
      refine svn hF rfl rfl rfl ?_; clear hF a; intro a hF
      refine sv hF (v_pickT rfl rfl) rfl ?_; clear hF a; intro a hF
      refine WL_nil (hK _ _ ?_)
      clear hK K
      replace hF := hF.sub _ (c_ 25 rfl (c_ 7 rfl (c_ 6 rfl (c_ 3 rfl (c_ 1 rfl (c_ 2 rfl (n_)))))))
      refine W_ifT hF rfl ?_
      refine W_sr rfl (fun K hK => ?_)
      refine sv hF (v_assign rfl) rfl ?_; clear hF a; intro a hF
      refine sv hF (v_assign rfl) rfl ?_; clear hF a; intro a hF
      refine WL_nil (hK _ _ ?_)
      clear hK K
      replace hF := hF.sub _ (c_ 7 rfl (c_ 6 rfl (c_ 3 rfl (c_ 1 rfl (c_ 2 rfl (n_))))))
      refine W_ret ?_
      refine ⟨_, _, _, hF, rfl, rfl, ?_⟩
      have hb : rawB o k m = false := by unfold rawB; rw [← hpa]; cases pa_ <;> first | (exfalso; simp_all; done) | rfl | (rw [decide_eq_false (by omega)]; rfl)
      rw [rawM_no hb]
      exact ⟨none, _, rfl, MOwn.nil _ _ _ _ _ _ _ (Nat.zero_le _), hS⟩
    · clear hF a; intro hc2 a hF
      try simp only [decide_eq_true_eq, decide_eq_false_iff_not, Bool.not_eq_true', Bool.not_eq_false', Bool.not_true, Bool.not_false] at hc2
      refine sv hF (v_pickF rfl rfl) rfl ?_; clear hF a; intro a hF
      refine sv hF (v_move rfl) rfl ?_; clear hF a; intro a hF
      refine svg hF rfl ?_
      refine sv hF (v_move rfl) rfl ?_; clear hF a; intro a hF
      refine svg hF rfl ?_
      refine sb hF (v_gtr rfl rfl) rfl ?_ ?_
      · clear hF a; intro hc3 a hF
        try simp only [decide_eq_true_eq, decide_eq_false_iff_not, Bool.not_eq_true', Bool.not_eq_false', Bool.not_true, Bool.not_false] at hc3
        refine sv hF (v_pickF rfl rfl) rfl ?_; clear hF a; intro a hF
        refine sv hF (v_move rfl) rfl ?_; clear hF a; intro a hF
        refine svn hF rfl rfl rfl ?_; clear hF a; intro a hF
        refine svn hF rfl rfl rfl ?_; clear hF a; intro a hF
        refine sv hF (v_pickT rfl rfl) rfl ?_; clear hF a; intro a hF
        refine sv hF (v_move rfl) rfl ?_; clear hF a; intro a hF
        refine svn hF rfl rfl rfl ?_; clear hF a; intro a hF
        refine svn hF rfl rfl rfl ?_; clear hF a; intro a hF
        refine sv hF (v_pickT rfl rfl) rfl ?_; clear hF a; intro a hF
        refine WL_nil (hK _ _ ?_)
        clear hK K
        replace hF := hF.sub _ (c_ 25 rfl (c_ 7 rfl (c_ 6 rfl (c_ 3 rfl (c_ 1 rfl (c_ 2 rfl (n_)))))))
        refine W_ifT hF rfl ?_
        refine W_sr rfl (fun K hK => ?_)
        refine sv hF (v_assign rfl) rfl ?_; clear hF a; intro a hF
        refine sv hF (v_assign rfl) rfl ?_; clear hF a; intro a hF
        refine WL_nil (hK _ _ ?_)
        clear hK K
        replace hF := hF.sub _ (c_ 7 rfl (c_ 6 rfl (c_ 3 rfl (c_ 1 rfl (c_ 2 rfl (n_))))))
        refine W_ret ?_
        refine ⟨_, _, _, hF, rfl, rfl, ?_⟩
        have hb : rawB o k m = false := by unfold rawB; rw [← hpa]; cases pa_ <;> first | (exfalso; simp_all; done) | rfl | (rw [decide_eq_false (by omega)]; rfl)
        rw [rawM_no hb]
        exact ⟨none, _, rfl, MOwn.nil _ _ _ _ _ _ _ (Nat.zero_le _), hS⟩
      · clear hF a; intro hc3 a hF
        try simp only [decide_eq_true_eq, decide_eq_false_iff_not, Bool.not_eq_true', Bool.not_eq_false', Bool.not_true, Bool.not_false] at hc3
        refine sv hF (v_pickF rfl rfl) rfl ?_; clear hF a; intro a hF
        refine sv hF (v_move rfl) rfl ?_; clear hF a; intro a hF
        refine svg hF rfl ?_
        refine sv hF (v_move rfl) rfl ?_; clear hF a; intro a hF
        refine svg hF rfl ?_
        refine sb hF (v_lss rfl rfl) rfl ?_ ?_
        · clear hF a; intro hc4 a hF
          try simp only [decide_eq_true_eq, decide_eq_false_iff_not, Bool.not_eq_true', Bool.not_eq_false', Bool.not_true, Bool.not_false] at hc4
          refine sv hF (v_pickF rfl rfl) rfl ?_; clear hF a; intro a hF
          refine sv hF (v_move rfl) rfl ?_; clear hF a; intro a hF
          refine svn hF rfl rfl rfl ?_; clear hF a; intro a hF
          refine svn hF rfl rfl rfl ?_; clear hF a; intro a hF
          refine sv hF (v_pickT rfl rfl) rfl ?_; clear hF a; intro a hF
          refine WL_nil (hK _ _ ?_)
          clear hK K
          replace hF := hF.sub _ (c_ 25 rfl (c_ 7 rfl (c_ 6 rfl (c_ 3 rfl (c_ 1 rfl (c_ 2 rfl (n_)))))))
          refine W_ifT hF rfl ?_
          refine W_sr rfl (fun K hK => ?_)
          refine sv hF (v_assign rfl) rfl ?_; clear hF a; intro a hF
          refine sv hF (v_assign rfl) rfl ?_; clear hF a; intro a hF
          refine WL_nil (hK _ _ ?_)
          clear hK K
          replace hF := hF.sub _ (c_ 7 rfl (c_ 6 rfl (c_ 3 rfl (c_ 1 rfl (c_ 2 rfl (n_))))))
          refine W_ret ?_
          refine ⟨_, _, _, hF, rfl, rfl, ?_⟩
          have hb : rawB o k m = false := by unfold rawB; rw [← hpa]; cases pa_ <;> first | (exfalso; simp_all; done) | rfl | (rw [decide_eq_false (by omega)]; rfl)
          rw [rawM_no hb]
          exact ⟨none, _, rfl, MOwn.nil _ _ _ _ _ _ _ (Nat.zero_le _), hS⟩
        · clear hF a; intro hc4 a hF
          try simp only [decide_eq_true_eq, decide_eq_false_iff_not, Bool.not_eq_true', Bool.not_eq_false', Bool.not_true, Bool.not_false] at hc4
          refine sv hF (v_pickF rfl rfl) rfl ?_; clear hF a; intro a hF
          refine sv hF (v_move rfl) rfl ?_; clear hF a; intro a hF
          refine svg hF rfl ?_
          refine sv hF (v_move rfl) rfl ?_; clear hF a; intro a hF
          refine svg hF rfl ?_
          refine sv hF (v_gtr rfl rfl) rfl ?_; clear hF a; intro a hF
          refine sv hF (v_pickF rfl rfl) rfl ?_; clear hF a; intro a hF
          refine WL_nil (hK _ _ ?_)
          clear hK K
          replace hF := hF.sub _ (c_ 25 rfl (c_ 7 rfl (c_ 6 rfl (c_ 3 rfl (c_ 1 rfl (c_ 2 rfl (n_)))))))
          refine W_if hF rfl (fun hc5 => ?_) (fun hc5 => ?_)
          · skip
            try simp only [decide_eq_true_eq, decide_eq_false_iff_not, Bool.not_eq_true', Bool.not_eq_false', Bool.not_true, Bool.not_false] at hc5
            refine W_sr rfl (fun K hK => ?_)
            refine sv hF (v_assign rfl) rfl ?_; clear hF a; intro a hF
            refine sv hF (v_assign rfl) rfl ?_; clear hF a; intro a hF
            refine WL_nil (hK _ _ ?_)
            clear hK K
            replace hF := hF.sub _ (c_ 7 rfl (c_ 6 rfl (c_ 3 rfl (c_ 1 rfl (c_ 2 rfl (n_))))))
            refine W_ret ?_
            refine ⟨_, _, _, hF, rfl, rfl, ?_⟩
            have hb : rawB o k m = false := by unfold rawB; rw [← hpa]; cases pa_ <;> first | (exfalso; simp_all; done) | rfl | (rw [decide_eq_false (by omega)]; rfl)
            rw [rawM_no hb]
            exact ⟨none, _, rfl, MOwn.nil _ _ _ _ _ _ _ (Nat.zero_le _), hS⟩
          · skip
            try simp only [decide_eq_true_eq, decide_eq_false_iff_not, Bool.not_eq_true', Bool.not_eq_false', Bool.not_true, Bool.not_false] at hc5
            have hb : rawB o k m = true := by unfold rawB; rw [← hpa]; cases pa_ <;> first | (exfalso; simp_all; done) | (rw [decide_eq_true (by omega)]; rfl)
            obtain ⟨kn, rfl⟩ : ∃ n : Nat, k = (n : Int) := ⟨k.toNat, by omega⟩
            obtain ⟨mn, rfl⟩ : ∃ n : Nat, m = (n : Int) := ⟨m.toNat, by omega⟩
            refine W_skip ?_
            refine W_sr rfl (fun K hK => ?_)
            refine sv hF (v_move rfl) rfl ?_; clear hF a; intro a hF
            refine sv hF (v_move rfl) rfl ?_; clear hF a; intro a hF
            refine sv hF (v_mkf (cs := [.tmp 3]) (vs := [.pointer (some ⟨pf, 0, none⟩)]) rfl) rfl ?_; clear hF a; intro a hF
            refine sc hF rfl rfl rfl en50 rfl (made_ok B kn mn 55 [.pointer (some ⟨pf, 0, none⟩)] (pwT o) _ hS.inv (by omega) (ent Try.func55 (by kernel_rfl) (by kernel_rfl)) (fun i j hi hj w1 hs => Raw1_ok B o _ pf i j w1 hs.inv (hf.st hs) (hkf.st hs) (by omega))) ?_; clear hF a; intro v w' a hv hF
            obtain ⟨ob, hMO, hS'⟩ := hv
            replace hMO := hMO.le hS.ext.size (Nat.zero_le _)
            replace hf := hf.st hS'
            replace hkf := hkf.st hS'
            replace hS := hS.trans hS'
            clear hS'
            refine sv hF (v_assign rfl) rfl ?_; clear hF a; intro a hF
            refine sv hF (v_assign rfl) rfl ?_; clear hF a; intro a hF
            refine WL_nil (hK _ _ ?_)
            clear hK K
            replace hF := hF.sub _ (c_ 7 rfl (c_ 6 rfl (n_)))
            refine W_ret ?_
            refine ⟨_, _, _, hF, rfl, rfl, ?_⟩
            rw [show rawM o (kn : Int) (mn : Int) = some (tab kn mn (pwT o)) by unfold rawM; rw [if_pos hb]; rfl]
            exact ⟨_, _, rfl, hMO, hS⟩

set_option maxRecDepth 100000 in
set_option maxHeartbeats 1000000 in
theorem Isal_ok (B : Nat) (o : Fq) (fv : Value) (k m : Int) (w : World) (hI : Inv FDx B w) (hf : Fo FDx B w fv o) : Ret Try.prog 27 [fv, .int .i64 k, .int .i64 m] w fun v w' => ∃ ob u, v = .tuple #[u, .int .i64 (errV (isalM o k m))] ∧ MOwn FDx B w.heap.size 0 w'.heap.size w' 28 u ob ((isalM o k m).getD []) ∧ St FDx B w w' := by
  refine enter2 17 [(0, fv), (1, .int .i64 k), (2, .int .i64 m)] 6 7 Try.func27 rfl rfl rfl rfl rfl ?_; intro a hF
  have hS := St.refl hI
  refine W_sr rfl (fun K hK => ?_)
  obtain ⟨pf, hpf⟩ : ∃ pf, pf = w.heap.size := ⟨_, rfl⟩
  refine s_boxN (D := FDx) (B := B) hF rfl (hf.cells1) (by decide) hS.inv rfl ?_; clear hF a; intro w' a hm hI' hbf hsz hF
  replace hf := hf.mb hm
  replace hS := hS.mb0 hm
  clear hm hI' hsz
  rw [← hpf] at hbf hF
  have hkf := hbf.kc
  clear hbf
  refine sv hF (v_assign rfl) rfl ?_; clear hF a; intro a hF
  refine sv hF (v_assign rfl) rfl ?_; clear hF a; intro a hF
  refine WL_nil (hK _ _ ?_)
  clear hK K
  replace hF := hF.sub _ (c_ 7 rfl (c_ 6 rfl (c_ 3 rfl (c_ 1 rfl (c_ 2 rfl (n_))))))
  refine W_seq ?_
  refine W_sr rfl (fun K hK => ?_)
  refine sv hF (v_load sc24 rfl hkf.c) rfl ?_; clear hF a; intro a hF
  refine sv hF (v_move rfl) rfl ?_; clear hF a; intro a hF
  refine sv hF (v_move rfl) rfl ?_; clear hF a; intro a hF
  refine sc hF rfl rfl rfl en49 rfl (fits_ok B o fv k m _ hf) ?_; clear hF a; intro v w' a hv hF
  obtain ⟨rfl, hw⟩ := hv
  obtain rfl := hw.symm
  have hS' := St.refl hS.inv
  replace hf := hf.st hS'
  replace hkf := hkf.st hS'
  replace hS := hS.trans hS'
  clear hS'
  refine sv hF (v_not rfl) rfl ?_; clear hF a; intro a hF
  refine WL_nil (hK _ _ ?_)
  clear hK K
  replace hF := hF.sub _ (c_ 12 rfl (c_ 7 rfl (c_ 6 rfl (c_ 3 rfl (c_ 1 rfl (c_ 2 rfl (n_)))))))
  refine W_if hF rfl (fun hc1 => ?_) (fun hc1 => ?_)
  · skip
    try simp only [decide_eq_true_eq, decide_eq_false_iff_not, Bool.not_eq_true', Bool.not_eq_false', Bool.not_true, Bool.not_false] at hc1
    refine W_sr rfl (fun K hK => ?_)
    refine sv hF (v_assign rfl) rfl ?_; clear hF a; intro a hF
    refine sv hF (v_assign rfl) rfl ?_; clear hF a; intro a hF
    refine WL_nil (hK _ _ ?_)
    clear hK K
    replace hF := hF.sub _ (c_ 7 rfl (c_ 6 rfl (c_ 3 rfl (c_ 1 rfl (c_ 2 rfl (n_))))))
    refine W_ret ?_
    refine ⟨_, _, _, hF, rfl, rfl, ?_⟩
    rw [isalM_no (by simpa using hc1)]
    exact ⟨none, _, rfl, MOwn.nil _ _ _ _ _ _ _ (Nat.zero_le _), hS⟩
  · skip
    try simp only [decide_eq_true_eq, decide_eq_false_iff_not, Bool.not_eq_true', Bool.not_eq_false', Bool.not_true, Bool.not_false] at hc1
    refine W_skip ?_
    have hb : fitB o k m = true := by simpa using hc1
    obtain ⟨-, hb2⟩ := fitB_iff.1 hb
    obtain ⟨kn, rfl⟩ : ∃ n : Nat, k = (n : Int) := ⟨k.toNat, by omega⟩
    obtain ⟨mn, rfl⟩ : ∃ n : Nat, m = (n : Int) := ⟨m.toNat, by omega⟩
    refine W_sr rfl (fun K hK => ?_)
    refine sv hF (v_move rfl) rfl ?_; clear hF a; intro a hF
    refine sv hF (v_move rfl) rfl ?_; clear hF a; intro a hF
    refine sv hF (v_mkf (cs := [.tmp 3]) (vs := [.pointer (some ⟨pf, 0, none⟩)]) rfl) rfl ?_; clear hF a; intro a hF
    refine sc hF rfl rfl rfl en50 rfl (made_ok B mn kn 51 [.pointer (some ⟨pf, 0, none⟩)] (isT o) _ hS.inv (by omega) (ent Try.func51 (by kernel_rfl) (by kernel_rfl)) (fun i j hi hj w1 hs => Isal1_ok B o _ pf i j w1 hs.inv (hf.st hs) (hkf.st hs) (by omega))) ?_; clear hF a; intro v w' a hv hF
    obtain ⟨ob, hMO, hS'⟩ := hv
    replace hMO := hMO.le hS.ext.size (Nat.zero_le _)
    replace hf := hf.st hS'
    replace hkf := hkf.st hS'
    replace hS := hS.trans hS'
    clear hS'
    refine sv hF (v_assign rfl) rfl ?_; clear hF a; intro a hF
    refine sv hF (v_assign rfl) rfl ?_; clear hF a; intro a hF
    refine WL_nil (hK _ _ ?_)
    clear hK K
    replace hF := hF.sub _ (c_ 7 rfl (c_ 6 rfl (n_)))
    refine W_ret ?_
    refine ⟨_, _, _, hF, rfl, rfl, ?_⟩
    rw [show isalM o (kn : Int) (mn : Int) = some (tab mn kn (isT o)) by unfold isalM; rw [if_pos hb]; rfl]
    exact ⟨_, _, rfl, hMO, hS⟩

set_option maxRecDepth 100000 in
set_option maxHeartbeats 1000000 in
theorem System_nil (B : Nat) (k m : Int) (w : World) (hI : Inv FDx B w) : Ret Try.prog 34 [.pointer none, .int .i64 k, .int .i64 m] w fun v w' => v = .tuple #[.slice none 0 0, .int .i64 1] ∧ St FDx B w w' := by
  refine enter2 43 [(0, .pointer none), (1, .int .i64 k), (2, .int .i64 m)] 6 7 Try.func34 rfl rfl rfl rfl rfl ?_; intro a hF
  have hS := St.refl hI
  refine W_sr rfl (fun K hK => ?_)
  refine sv hF (v_assign rfl) rfl ?_; clear hF a; intro a hF
  refine sv hF (v_assign rfl) rfl ?_; clear hF a; intro a hF
  refine WL_nil (hK _ _ ?_)
  clear hK K
  refine W_seq ?_
  refine W_sr rfl (fun K hK => ?_)
  refine sv hF (v_move rfl) rfl ?_; clear hF a; intro a hF
  refine sv hF (v_move rfl) rfl ?_; clear hF a; intro a hF
  refine sv hF (v_move rfl) rfl ?_; clear hF a; intro a hF
  refine sc hF rfl rfl rfl en49 rfl (fits_ok B none _ k m _ rfl) ?_; clear hF a; intro v w' a hv hF
  obtain ⟨rfl, hw⟩ := hv
  obtain rfl := hw.symm
  have hS' := St.refl hS.inv
  rw [fitB_none] at hF
  replace hS := hS.trans hS'
  clear hS'
  refine sv hF (v_not rfl) rfl ?_; clear hF a; intro a hF
  refine WL_nil (hK _ _ ?_)
  clear hK K
  replace hF := hF.sub _ (c_ 16 rfl (c_ 7 rfl (c_ 6 rfl (c_ 0 rfl (c_ 1 rfl (c_ 2 rfl (n_)))))))
  refine W_ifT hF rfl ?_
  refine W_sr rfl (fun K hK => ?_)
  refine sv hF (v_assign rfl) rfl ?_; clear hF a; intro a hF
  refine sv hF (v_assign rfl) rfl ?_; clear hF a; intro a hF
  refine WL_nil (hK _ _ ?_)
  clear hK K
  replace hF := hF.sub _ (c_ 7 rfl (c_ 6 rfl (c_ 0 rfl (c_ 1 rfl (c_ 2 rfl (n_))))))
  refine W_ret ?_
  refine ⟨_, _, _, hF, rfl, rfl, ?_⟩
  exact ⟨rfl, hS⟩

set_option maxRecDepth 100000 in
set_option maxHeartbeats 1000000 in
theorem System_ok (B wb p : Nat) (hp : Prm wb p) (fv : Value) (k m : Int) (w : World) (hI : Inv FDx B w) (hf : Fo FDx B w fv (some (wb, p))) : Ret Try.prog 34 [fv, .int .i64 k, .int .i64 m] w fun v w' => ∃ ob u, v = .tuple #[u, .int .i64 (errV (sysM hp k m))] ∧ MOwn FDx B w.heap.size 0 w'.heap.size w' 28 u ob ((sysM hp k m).getD []) ∧ St FDx B w w' := by
  refine enter2 43 [(0, fv), (1, .int .i64 k), (2, .int .i64 m)] 6 7 Try.func34 rfl rfl rfl rfl rfl ?_; intro a hF
  have hS := St.refl hI
  refine W_sr rfl (fun K hK => ?_)
  refine sv hF (v_assign rfl) rfl ?_; clear hF a; intro a hF
  refine sv hF (v_assign rfl) rfl ?_; clear hF a; intro a hF
  refine WL_nil (hK _ _ ?_)
  clear hK K
  refine W_seq ?_
  refine W_sr rfl (fun K hK => ?_)
  refine sv hF (v_move rfl) rfl ?_; clear hF a; intro a hF
  refine sv hF (v_move rfl) rfl ?_; clear hF a; intro a hF
  refine sv hF (v_move rfl) rfl ?_; clear hF a; intro a hF
  refine sc hF rfl rfl rfl en49 rfl (fits_ok B (some (wb, p)) fv k m _ hf) ?_; clear hF a; intro v w' a hv hF
  obtain ⟨rfl, hw⟩ := hv
  obtain rfl := hw.symm
  have hS' := St.refl hS.inv
  replace hf := hf.st hS'
  replace hS := hS.trans hS'
  clear hS'
  refine sv hF (v_not rfl) rfl ?_; clear hF a; intro a hF
  refine WL_nil (hK _ _ ?_)
  clear hK K
  replace hF := hF.sub _ (c_ 16 rfl (c_ 7 rfl (c_ 6 rfl (c_ 0 rfl (c_ 1 rfl (c_ 2 rfl (n_)))))))
  refine W_if hF rfl (fun hc1 => ?_) (fun hc1 => ?_)
  · skip
    try simp only [decide_eq_true_eq, decide_eq_false_iff_not, Bool.not_eq_true', Bool.not_eq_false', Bool.not_true, Bool.not_false] at hc1
    refine W_sr rfl (fun K hK => ?_)
    refine sv hF (v_assign rfl) rfl ?_; clear hF a; intro a hF
    refine sv hF (v_assign rfl) rfl ?_; clear hF a; intro a hF
    refine WL_nil (hK _ _ ?_)
    clear hK K
    replace hF := hF.sub _ (c_ 7 rfl (c_ 6 rfl (c_ 0 rfl (c_ 1 rfl (c_ 2 rfl (n_))))))
    refine W_ret ?_
    refine ⟨_, _, _, hF, rfl, rfl, ?_⟩
    rw [show sysM hp k m = none by unfold sysM; rw [if_neg (by simpa using hc1)]]
    exact ⟨none, _, rfl, MOwn.nil _ _ _ _ _ _ _ (Nat.zero_le _), hS⟩
  · skip
    try simp only [decide_eq_true_eq, decide_eq_false_iff_not, Bool.not_eq_true', Bool.not_eq_false', Bool.not_true, Bool.not_false] at hc1
    refine W_skip ?_
    have hb : fitB (some (wb, p)) k m = true := by simpa using hc1
    obtain ⟨-, hb2⟩ := fitB_iff.1 hb
    obtain ⟨kn, rfl⟩ : ∃ n : Nat, k = (n : Int) := ⟨k.toNat, by omega⟩
    obtain ⟨mn, rfl⟩ : ∃ n : Nat, m = (n : Int) := ⟨m.toNat, by omega⟩
    have hraw : rawM (some (wb, p)) ((kn + mn : Nat) : Int) (kn : Int) = some (tab (kn + mn) kn (pwT (some (wb, p)))) := by unfold rawM rawB; rw [if_pos (by rw [decide_eq_true (by omega)]; rfl)]; rfl
    have hinv := raw_inv hp (k := kn) (by omega) (by omega)
    have hmul := sys_mul hp (k := kn) (m := mn) (by omega) (by omega) (by omega)
    refine W_sr rfl (fun K hK => ?_)
    refine sv hF (v_move rfl) rfl ?_; clear hF a; intro a hF
    refine sv hF (v_move rfl) rfl ?_; clear hF a; intro a hF
    refine sv hF (v_move rfl) rfl ?_; clear hF a; intro a hF
    refine sv hF ((v_addI rfl rfl (by omega)).as (show Value.int .i64 ((kn : Int) + (mn : Int)) = .int .i64 ((kn + mn : Nat) : Int) by simp)) rfl ?_; clear hF a; intro a hF
    refine sv hF (v_move rfl) rfl ?_; clear hF a; intro a hF
    refine sc hF rfl rfl rfl en33 rfl (Raw_ok B (some (wb, p)) fv ((kn + mn : Nat) : Int) (kn : Int) _ hS.inv hf) ?_; clear hF a; intro v w' a hv hF
    obtain ⟨obX, uX, rfl, hoX, hS'⟩ := hv
    rw [hraw] at hoX hF
    try simp only [Option.getD_some, Option.getD_none] at hoX
    obtain ⟨sX, cX, rfl, hX⟩ := hoX.mat (by decide) (Nat.zero_le _)
    clear hoX
    replace hf := hf.st hS'
    replace hS := hS.trans hS'
    clear hS'
    refine sv hF (v_move rfl) rfl ?_; clear hF a; intro a hF
    refine sv hF (v_ext rfl rfl) rfl ?_; clear hF a; intro a hF
    refine sv hF (v_ext rfl rfl) rfl ?_; clear hF a; intro a hF
    refine sv hF (v_assign rfl) rfl ?_; clear hF a; intro a hF
    refine sv hF (v_assign rfl) rfl ?_; clear hF a; intro a hF
    refine WL_nil (hK _ _ ?_)
    clear hK K
    replace hF := hF.sub _ (c_ 8 rfl (c_ 7 rfl (c_ 6 rfl (c_ 0 rfl (c_ 1 rfl (n_))))))
    have hcap := hX.capd
    have hxl : (tab (kn + mn) kn (pwT (some (wb, p)))).length = kn + mn := tab_length _ _ _
    rw [hxl] at hcap
    have hX1 := hX.to (b := tab kn kn (pwT (some (wb, p)))) (hi := kn) (by omega) (tab_take (by omega)).symm
    have hl1 : ∀ n, n ≤ 20 → (tab n kn (pwT (some (wb, p)))).length ≤ maxLen ∧ ∀ r ∈ tab n kn (pwT (some (wb, p))), r.length ≤ maxLen := fun n hn => len20 ⟨by rw [tab_length]; exact hn, fun r hr => by obtain ⟨i, _, rfl⟩ := List.mem_map.1 hr; simp; omega⟩
    refine W_sr rfl (fun K hK => ?_)
    refine sv hF (v_move rfl) rfl ?_; clear hF a; intro a hF
    refine sv hF (v_move rfl) rfl ?_; clear hF a; intro a hF
    refine sv hF (v_move rfl) rfl ?_; clear hF a; intro a hF
    refine sv hF (v_slHi sl30 rfl rfl (by omega) (by omega)) rfl ?_; clear hF a; intro a hF
    refine sc hF rfl rfl rfl en16 rfl (Inverse_n B _ wb p hp fv _ _ kn (tab kn kn (pwT (some (wb, p)))) _ hS.inv (Nat.le_refl _) hf hX1 (hl1 _ (by omega)).1 (hl1 _ (by omega)).2 (tab_length _ _ _)) ?_; clear hF a; intro v w' a hv hF
    obtain ⟨obY, uY, rfl, hoY, hS'⟩ := hv
    rw [hinv] at hoY hF
    dsimp only at hoY hF
    obtain ⟨sY, cY, rfl, hY⟩ := hoY.mat (by decide) (Nat.zero_le _)
    clear hoY
    replace hf := hf.st hS'
    replace hX := (hX.st hS').mono hS'.ext.size
    replace hS := hS.trans hS'
    clear hS'
    clear hX1
    refine sv hF (v_move rfl) rfl ?_; clear hF a; intro a hF
    refine sv hF (v_ext rfl rfl) rfl ?_; clear hF a; intro a hF
    refine sv hF (v_ext rfl rfl) rfl ?_; clear hF a; intro a hF
    refine sv hF (v_assign rfl) rfl ?_; clear hF a; intro a hF
    refine sv hF (v_assign rfl) rfl ?_; clear hF a; intro a hF
    refine WL_nil (hK _ _ ?_)
    clear hK K
    replace hF := hF.sub _ (c_ 11 rfl (c_ 10 rfl (c_ 8 rfl (c_ 7 rfl (c_ 6 rfl (c_ 0 rfl (n_)))))))
    refine W_seq ?_
    refine W_sr rfl (fun K hK => ?_)
    refine sv hF (v_move rfl) rfl ?_; clear hF a; intro a hF
    refine sv hF ((v_neq rfl rfl).as (congrArg Value.bool (decide_eq_false (by decide)))) rfl ?_; clear hF a; intro a hF
    refine WL_nil (hK _ _ ?_)
    clear hK K
    replace hF := hF.sub _ (c_ 35 rfl (c_ 11 rfl (c_ 10 rfl (c_ 8 rfl (c_ 7 rfl (c_ 6 rfl (c_ 0 rfl (n_))))))))
    refine W_ifF hF rfl ?_
    refine W_skip ?_
    have hl2 : (tab kn kn (vinv hp kn)).length ≤ maxLen ∧ ∀ r ∈ tab kn kn (vinv hp kn), r.length ≤ maxLen := len20 ⟨by rw [tab_length]; omega, fun r hr => by obtain ⟨i, _, rfl⟩ := List.mem_map.1 hr; simp; omega⟩
    refine W_sr rfl (fun K hK => ?_)
    refine sv hF (v_move rfl) rfl ?_; clear hF a; intro a hF
    refine sv hF (v_move rfl) rfl ?_; clear hF a; intro a hF
    refine sv hF (v_move rfl) rfl ?_; clear hF a; intro a hF
    refine sc hF rfl rfl rfl en23 rfl (MulM_ok B _ (some (wb, p)) fv _ _ (tab (kn + mn) kn (pwT (some (wb, p)))) _ _ (tab kn kn (vinv hp kn)) _ hS.inv (Nat.le_refl _) hf hX (hl1 _ (by omega)).1 (hl1 _ (by omega)).2 hY (hl2).1 (hl2).2) ?_; clear hF a; intro v w' a hv hF
    obtain ⟨ob, u, rfl, hMO, hS'⟩ := hv
    rw [hmul] at hMO hF
    simp only [Option.getD_some] at hMO
    replace hMO := hMO.le hS.ext.size (Nat.zero_le _)
    replace hf := hf.st hS'
    replace hX := (hX.st hS').mono hS'.ext.size
    replace hY := (hY.st hS').mono hS'.ext.size
    replace hS := hS.trans hS'
    clear hS'
    refine sv hF (v_ext rfl rfl) rfl ?_; clear hF a; intro a hF
    refine sv hF (v_ext rfl rfl) rfl ?_; clear hF a; intro a hF
    refine sv hF (v_assign rfl) rfl ?_; clear hF a; intro a hF
    refine sv hF (v_assign rfl) rfl ?_; clear hF a; intro a hF
    refine WL_nil (hK _ _ ?_)
    clear hK K
    replace hF := hF.sub _ (c_ 7 rfl (c_ 6 rfl (n_)))
    refine W_ret ?_
    refine ⟨_, _, _, hF, rfl, rfl, ?_⟩
    rw [show sysM hp (kn : Int) (mn : Int) = some (tab (kn + mn) kn (sysT hp kn)) by unfold sysM; rw [if_pos hb]; rfl]
    exact ⟨_, _, rfl, hMO, hS⟩

end Go.Proofs.Ytcnlooajjnghaaa
