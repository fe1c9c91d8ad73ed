/- The walks of gambrelref02: what the document asks of a field. -/
import Derived.Test.YtcnlooajjnghaaaFRef01
import Derived.Test.YtcnlooajjnghaaaGGg
set_option linter.unusedVariables false
set_option linter.unusedSimpArgs false
namespace Go.Proofs.Ytcnlooajjnghaaa
open Go Go.Gam


namespace FxFRef02
theorem en66 : Ent Try.prog 66 := ent Try.func66 (by kernel_rfl) (by kernel_rfl)
end FxFRef02
open FxFRef02

set_option maxRecDepth 100000 in
set_option maxHeartbeats 1000000 in
theorem rsize_ok (wb : Nat) (w : World) (hwb : wb ≤ 16) : Ret Try.prog 66 [.int .i64 (wb : Int)] w fun v w' => v = .int .i64 ((2 ^ wb : Nat) : Int) ∧ w' = w := by
  refine enter 13 [(0, .int .i64 (wb : Int))] 2 Try.func66 rfl rfl rfl rfl rfl ?_; intro a hF
  refine W_sr rfl (fun K hK => ?_)
  refine sv hF (v_assign rfl) rfl ?_; clear hF a; intro a hF
  refine WL_nil (hK _ _ ?_)
  clear hK K
  refine W_sr rfl (fun K hK => ?_)
  refine sv hF (v_assign rfl) rfl ?_; clear hF a; intro a hF
  refine WL_nil (hK _ _ ?_)
  clear hK K
  refine W_seq ?_
  refine W_sr rfl (fun K hK => ?_)
  refine sv hF (v_assign rfl) rfl ?_; clear hF a; intro a hF
  refine WL_nil (hK _ _ ?_)
  clear hK K
  refine W_block ?_
  refine W_loop (fun m a w1 => ∃ i : Nat, Fr 13 [(0, .int .i64 (wb : Int)), (3, .int .i64 ((2 ^ i : Nat) : Int)), (4, .int .i64 (i : Int))] a ∧ w = w1 ∧ i ≤ wb ∧ m + i = wb) (wb) ?_ ?_
  · skip
    exact ⟨0, hF.sub _ (c_ 0 rfl (c_ 3 rfl (c_ 4 rfl n_))), rfl, by omega, by omega⟩
  · skip
    clear hF
    rintro m a _ ⟨i, hF, rfl, hi, hm⟩
    refine W_seq ?_
    refine W_sr rfl (fun K hK => ?_)
    refine sv hF (v_move rfl) rfl ?_; clear hF a; intro a hF
    refine sv hF (v_move rfl) rfl ?_; clear hF a; intro a hF
    refine sv hF (v_lss rfl rfl) rfl ?_; clear hF a; intro a hF
    refine WL_nil (hK _ _ ?_)
    clear hK K
    replace hF := hF.sub _ (c_ 7 rfl (c_ 0 rfl (c_ 3 rfl (c_ 4 rfl (n_)))))
    refine W_if hF rfl (fun hc1 => ?_) (fun hc1 => ?_)
    · skip
      try simp only [decide_eq_true_eq, decide_eq_false_iff_not, Bool.not_eq_true', Bool.not_eq_false', Bool.not_true, Bool.not_false] at hc1
      refine W_skip ?_
      refine W_seq ?_
      refine W_block ?_
      have h16 := two_pow16 (d := i) (by omega)
      have hs : 2 ^ (i + 1) = 2 * 2 ^ i := by rw [Nat.pow_succ, Nat.mul_comm]
      refine W_reg rfl (fun K hK => ?_)
      refine sv hF (v_move rfl) rfl ?_; clear hF a; intro a hF
      refine sv hF ((v_mulI rfl rfl (by omega)).as (congrArg _ (show (2 : Int) * ((2 ^ i : Nat) : Int) = ((2 ^ (i + 1) : Nat) : Int) by omega))) rfl ?_; clear hF a; intro a hF
      refine sv hF (v_assign rfl) rfl ?_; clear hF a; intro a hF
      refine WL_nil (hK _ _ ?_)
      clear hK K
      replace hF := hF.sub _ (c_ 3 rfl (c_ 0 rfl (c_ 4 rfl (n_))))
      refine W_reg rfl (fun K hK => ?_)
      refine sv hF (v_move rfl) rfl ?_; clear hF a; intro a hF
      refine sv hF (v_addI rfl rfl (by omega)) rfl ?_; clear hF a; intro a hF
      refine sv hF (v_assign rfl) rfl ?_; clear hF a; intro a hF
      refine WL_nil (hK _ _ ?_)
      clear hK K
      exact ⟨m - 1, by omega, i + 1, hF.sub _ (c_ 0 rfl (c_ 3 rfl (c_ 4 rfl n_))), rfl, by omega, by omega⟩
    · skip
      try simp only [decide_eq_true_eq, decide_eq_false_iff_not, Bool.not_eq_true', Bool.not_eq_false', Bool.not_true, Bool.not_false] at hc1
      refine W_exit rfl ?_
      refine W_sr rfl (fun K hK => ?_)
      refine sv hF (v_move rfl) rfl ?_; clear hF a; intro a hF
      refine sv hF (v_assign rfl) rfl ?_; clear hF a; intro a hF
      refine WL_nil (hK _ _ ?_)
      clear hK K
      replace hF := hF.sub _ (c_ 2 rfl (c_ 12 rfl (c_ 0 rfl (c_ 3 rfl (c_ 4 rfl (n_))))))
      refine W_ret ?_
      refine ⟨_, _, hF, rfl, ?_⟩
      obtain rfl : i = wb := by omega
      exact ⟨rfl, rfl⟩

set_option maxRecDepth 100000 in
set_option maxHeartbeats 1000000 in
theorem rIn_ok (B wb p : Nat) (ia : Int) (w : World) (hI : Inv FDx B w) (hwb : wb ≤ 16) : Ret Try.prog 43 [.int .i64 (wb : Int), .int .i64 ia] w fun v w' => v = .bool (inF (some (wb, p)) ia) ∧ w' = w := by
  refine enter 13 [(0, .int .i64 (wb : Int)), (1, .int .i64 ia)] 4 Try.func43 rfl rfl rfl rfl rfl ?_; intro a hF
  refine W_sr rfl (fun K hK => ?_)
  refine sv hF (v_assign rfl) rfl ?_; clear hF a; intro a hF
  refine WL_nil (hK _ _ ?_)
  clear hK K
  refine W_sr rfl (fun K hK => ?_)
  refine sv hF (v_move rfl) rfl ?_; clear hF a; intro a hF
  refine sb hF (v_geq rfl rfl) rfl ?_ ?_
  · clear hF a; intro hc1 a hF
    try simp only [decide_eq_true_eq, decide_eq_false_iff_not, Bool.not_eq_true', Bool.not_eq_false', Bool.not_true, Bool.not_false] at hc1
    refine sv hF (v_move rfl) rfl ?_; clear hF a; intro a hF
    refine svg hF rfl ?_
    refine sv hF (v_move rfl) rfl ?_; clear hF a; intro a hF
    refine svg hF rfl ?_
    refine sv hF (v_move rfl) rfl ?_; clear hF a; intro a hF
    refine svg hF rfl ?_
    refine sc hF rfl rfl rfl en66 rfl (rsize_ok wb _ (by omega)) ?_; clear hF a; intro v w' a hv hF
    obtain ⟨rfl, rfl⟩ := hv
    skip
    refine svg hF rfl ?_
    refine sv hF (v_lss rfl rfl) rfl ?_; clear hF a; intro a hF
    refine sv hF (v_pickT rfl rfl) rfl ?_; clear hF a; intro a hF
    refine sv hF (v_assign rfl) rfl ?_; clear hF a; intro a hF
    refine WL_nil (hK _ _ ?_)
    clear hK K
    replace hF := hF.sub _ (c_ 4 rfl (n_))
    refine W_ret ?_
    refine ⟨_, _, hF, rfl, ?_⟩
    refine ⟨congrArg _ ?_, rfl⟩
    rw [Bool.eq_iff_iff, inF_some, decide_eq_true_iff]; omega
  · clear hF a; intro hc1 a hF
    try simp only [decide_eq_true_eq, decide_eq_false_iff_not, Bool.not_eq_true', Bool.not_eq_false', Bool.not_true, Bool.not_false] at hc1
    refine sv hF (v_move rfl) rfl ?_; clear hF a; intro a hF
    refine svn hF rfl rfl rfl ?_; clear hF a; intro a hF
    refine svn hF rfl rfl rfl ?_; clear hF a; intro a hF
    refine svn hF rfl rfl rfl ?_; clear hF a; intro a hF
    refine svn hF rfl rfl rfl ?_; clear hF a; intro a hF
    refine sv hF (v_pickF rfl rfl) rfl ?_; clear hF a; intro a hF
    refine sv hF (v_assign rfl) rfl ?_; clear hF a; intro a hF
    refine WL_nil (hK _ _ ?_)
    clear hK K
    replace hF := hF.sub _ (c_ 4 rfl (n_))
    refine W_ret ?_
    refine ⟨_, _, hF, rfl, ?_⟩
    refine ⟨congrArg _ (Eq.symm ?_), rfl⟩
    rw [Bool.eq_false_iff, Ne, inF_some]; omega

noncomputable def knownB (W : Int) (p : Nat) : Bool := (newF W p).isSome

end Go.Proofs.Ytcnlooajjnghaaa
