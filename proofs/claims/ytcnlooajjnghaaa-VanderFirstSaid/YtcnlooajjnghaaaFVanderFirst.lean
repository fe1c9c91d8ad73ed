/- The statement VanderFirst, walked: it returns true. -/
import Derived.Test.YtcnlooajjnghaaaFAw06
set_option linter.unusedVariables false
set_option linter.unusedSimpArgs false
namespace Go.Proofs.Ytcnlooajjnghaaa
open Go Go.Gam


namespace FxFVanderFirst
theorem en25 : Ent Try.prog 25 := ent Try.func25 (by kernel_rfl) (by kernel_rfl)
theorem en26 : Ent Try.prog 26 := ent Try.func26 (by kernel_rfl) (by kernel_rfl)
theorem en27 : Ent Try.prog 27 := ent Try.func27 (by kernel_rfl) (by kernel_rfl)
theorem en34 : Ent Try.prog 34 := ent Try.func34 (by kernel_rfl) (by kernel_rfl)
theorem sc28 : Scalar Try.prog 28 := ⟨_, Try.underlying28, by simp, by simp⟩
theorem sc3 : Scalar Try.prog 3 := ⟨_, Try.underlying3, by simp, by simp⟩
theorem sl28 : Sl Try.prog 28 3 (.int .i64 0) 8 := sl_of Try.underlying28 rfl (by kernel_rfl)
theorem sl29 : Sl Try.prog 29 28 (.slice none 0 0) 24 := sl_of Try.underlying29 rfl (by kernel_rfl)
theorem sl30 : Sl Try.prog 30 28 (.slice none 0 0) 24 := sl_of Try.underlying30 rfl (by kernel_rfl)
end FxFVanderFirst
open FxFVanderFirst

set_option maxRecDepth 100000 in
set_option maxHeartbeats 1000000 in
theorem VanderFirst_ok (B : Nat) (lg : Bool) (n0 n1 : Nat) (w : World) (hI : Inv FDx B w) (hn08 : n0 < 256) (hn18 : n1 < 256) : Ret Try.prog 10 [.bool lg, .int .u8 (n0 : Int), .int .u8 (n1 : Int)] w fun v w' => v = .bool true ∧ St FDx B w w' := by
  refine enter 122 [(0, .bool lg), (1, .int .u8 (n0 : Int)), (2, .int .u8 (n1 : Int))] 6 Try.func10 rfl rfl rfl rfl rfl ?_; intro a hF
  have hS := St.refl hI
  refine W_sr rfl (fun K hK => ?_)
  refine sv hF (v_assign rfl) rfl ?_; clear hF a; intro a hF
  refine WL_nil (hK _ _ ?_)
  clear hK K
  refine W_sr rfl (fun K hK => ?_)
  refine sc hF rfl rfl rfl en25 rfl (aw06_ok B _ hS.inv) ?_; clear hF a; intro v w' a hv hF
  obtain ⟨rfl, hS'⟩ := hv
  replace hS := hS.trans hS'
  clear hS'
  refine sv hF (v_assign rfl) rfl ?_; clear hF a; intro a hF
  refine WL_nil (hK _ _ ?_)
  clear hK K
  replace hF := hF.sub _ (c_ 7 rfl (c_ 6 rfl (c_ 0 rfl (c_ 1 rfl (c_ 2 rfl (n_))))))
  refine W_sr rfl (fun K hK => ?_)
  refine sv hF (v_move rfl) rfl ?_; clear hF a; intro a hF
  refine sv hF (v_cv Try.underlying5 Try.underlying3 rfl (wrap_i64 _ (by omega))) rfl ?_; clear hF a; intro a hF
  refine sv hF (v_remI rfl rfl (by omega) (by omega)) rfl ?_; clear hF a; intro a hF
  refine sv hF (v_addI rfl rfl (by omega)) rfl ?_; clear hF a; intro a hF
  refine sv hF (v_assign rfl) rfl ?_; clear hF a; intro a hF
  refine WL_nil (hK _ _ ?_)
  clear hK K
  replace hF := hF.sub _ (c_ 8 rfl (c_ 7 rfl (c_ 6 rfl (c_ 0 rfl (c_ 2 rfl (n_))))))
  obtain ⟨k1, hk1⟩ : ∃ n : Nat, 1 + (n0 : Int) % 8 = (n : Int) := ⟨1 + n0 % 8, by omega⟩
  have hk12 : 1 ≤ k1 ∧ k1 ≤ 8 := by omega
  rw [hk1] at hF
  refine W_sr rfl (fun K hK => ?_)
  refine sv hF (v_move rfl) rfl ?_; clear hF a; intro a hF
  refine sv hF (v_cv Try.underlying5 Try.underlying3 rfl (wrap_i64 _ (by omega))) rfl ?_; clear hF a; intro a hF
  refine sv hF (v_remI rfl rfl (by omega) (by omega)) rfl ?_; clear hF a; intro a hF
  refine sv hF (v_addI rfl rfl (by omega)) rfl ?_; clear hF a; intro a hF
  refine sv hF (v_assign rfl) rfl ?_; clear hF a; intro a hF
  refine WL_nil (hK _ _ ?_)
  clear hK K
  replace hF := hF.sub _ (c_ 9 rfl (c_ 8 rfl (c_ 7 rfl (c_ 6 rfl (c_ 0 rfl (n_))))))
  obtain ⟨m1, hm1⟩ : ∃ n : Nat, 1 + (n1 : Int) % 4 = (n : Int) := ⟨1 + n1 % 4, by omega⟩
  have hm12 : 1 ≤ m1 ∧ m1 ≤ 4 := by omega
  rw [hm1] at hF
  refine W_sr rfl (fun K hK => ?_)
  refine sv hF (v_move rfl) rfl ?_; clear hF a; intro a hF
  refine sc hF rfl rfl rfl en26 rfl (field6_ok B lg _ hS.inv) ?_; clear hF a; intro v w' a hv hF
  obtain ⟨fv, rfl, hf, hS'⟩ := hv
  obtain ⟨⟨wb, p⟩, hq⟩ : ∃ q, fq lg = q := ⟨_, rfl⟩
  have hq1 : (fq lg).1 = wb := by rw [hq]
  have hq2 : (fq lg).2 = p := by rw [hq]
  rw [hq] at hf
  rw [hq1, hq2] at hF
  clear hq1 hq2
  have hp : Prm wb p := hf.1
  replace hS := hS.trans hS'
  clear hS'
  refine sv hF (v_move rfl) rfl ?_; clear hF a; intro a hF
  refine sv hF (v_ext rfl rfl) rfl ?_; clear hF a; intro a hF
  refine sv hF (v_ext rfl rfl) rfl ?_; clear hF a; intro a hF
  refine sv hF (v_ext rfl rfl) rfl ?_; clear hF a; intro a hF
  refine sv hF (v_assign rfl) rfl ?_; clear hF a; intro a hF
  refine sv hF (v_assign rfl) rfl ?_; clear hF a; intro a hF
  refine sv hF (v_assign rfl) rfl ?_; clear hF a; intro a hF
  refine WL_nil (hK _ _ ?_)
  clear hK K
  replace hF := hF.sub _ (c_ 10 rfl (c_ 9 rfl (c_ 8 rfl (c_ 7 rfl (c_ 6 rfl (n_))))))
  refine W_sr rfl (fun K hK => ?_)
  refine sv hF (v_move rfl) rfl ?_; clear hF a; intro a hF
  refine sv hF (v_move rfl) rfl ?_; clear hF a; intro a hF
  refine sc hF rfl rfl rfl en34 rfl (System_ok B wb p hp fv 1 (m1 : Int) _ hS.inv hf) ?_; clear hF a; intro v w' a hv hF
  obtain ⟨obX, uX, rfl, hoX, hS'⟩ := hv
  rw [(show sysM hp 1 (m1 : Int) = _ from sysM_is hp (k := 1) (by omega) (by omega) (by omega))] at hoX hF
  try simp only [Option.getD_some, Option.getD_none] at hoX
  obtain ⟨sX, cX, rfl, hX⟩ := hoX.mat (by decide) (Nat.zero_le _)
  clear hoX
  replace hf := hf.st hS'
  replace hS := hS.trans hS'
  clear hS'
  refine sv hF (v_move rfl) rfl ?_; clear hF a; intro a hF
  refine sv hF (v_ext rfl rfl) rfl ?_; clear hF a; intro a hF
  refine sv hF (v_ext rfl rfl) rfl ?_; clear hF a; intro a hF
  refine sv hF (v_assign rfl) rfl ?_; clear hF a; intro a hF
  refine sv hF (v_assign rfl) rfl ?_; clear hF a; intro a hF
  refine WL_nil (hK _ _ ?_)
  clear hK K
  replace hF := hF.sub _ (c_ 14 rfl (c_ 13 rfl (c_ 10 rfl (c_ 9 rfl (c_ 8 rfl (c_ 7 rfl (c_ 6 rfl (n_))))))))
  refine W_sr rfl (fun K hK => ?_)
  refine sv hF (v_move rfl) rfl ?_; clear hF a; intro a hF
  refine sv hF (v_move rfl) rfl ?_; clear hF a; intro a hF
  refine sv hF (v_move rfl) rfl ?_; clear hF a; intro a hF
  refine sc hF rfl rfl rfl en27 rfl (Isal_ok B (some (wb, p)) fv (k1 : Int) (m1 : Int) _ hS.inv hf) ?_; clear hF a; intro v w' a hv hF
  obtain ⟨obY, uY, rfl, hoY, hS'⟩ := hv
  rw [(isalM_is (o := (some (wb, p))) rfl (k := k1) (m := m1) (by omega) (by omega) (by omega))] at hoY hF
  try simp only [Option.getD_some, Option.getD_none] at hoY
  obtain ⟨sY, cY, rfl, hY⟩ := hoY.mat (by decide) (Nat.zero_le _)
  clear hoY
  replace hf := hf.st hS'
  replace hX := (hX.st hS').mono hS'.ext.size
  replace hS := hS.trans hS'
  clear hS'
  refine sv hF (v_move rfl) rfl ?_; clear hF a; intro a hF
  refine sv hF (v_ext rfl rfl) rfl ?_; clear hF a; intro a hF
  refine sv hF (v_ext rfl rfl) rfl ?_; clear hF a; intro a hF
  refine sv hF (v_assign rfl) rfl ?_; clear hF a; intro a hF
  refine sv hF (v_assign rfl) rfl ?_; clear hF a; intro a hF
  refine WL_nil (hK _ _ ?_)
  clear hK K
  replace hF := hF.sub _ (c_ 16 rfl (c_ 15 rfl (c_ 14 rfl (c_ 13 rfl (c_ 9 rfl (c_ 8 rfl (c_ 7 rfl (c_ 6 rfl (n_)))))))))
  refine W_seq ?_
  have hxl : (tab (1 + m1) 1 (sysT hp 1)).length = 1 + m1 := tab_length _ _ _
  have hyl : (tab m1 k1 (isT (some (wb, p)))).length = m1 := tab_length _ _ _
  refine W_sr rfl (fun K hK => ?_)
  refine sv hF (v_move rfl) rfl ?_; clear hF a; intro a hF
  refine sv hF ((v_neq rfl rfl).as (congrArg Value.bool (decide_eq_false (fun h => h rfl)))) rfl ?_; clear hF a; intro a hF
  refine sv hF (v_move rfl) rfl ?_; clear hF a; intro a hF
  refine svg hF rfl ?_
  refine sv hF (v_move rfl) rfl ?_; clear hF a; intro a hF
  refine svg hF rfl ?_
  refine sv hF ((v_neq rfl rfl).as (congrArg Value.bool (decide_eq_false (fun h => h rfl)))) rfl ?_; clear hF a; intro a hF
  refine sv hF (v_pickF rfl rfl) rfl ?_; clear hF a; intro a hF
  refine sv hF (v_move rfl) rfl ?_; clear hF a; intro a hF
  refine svg hF rfl ?_
  refine sv hF (v_move rfl) rfl ?_; clear hF a; intro a hF
  refine svg hF rfl ?_
  refine sv hF (v_lenS rfl sl30 rfl) rfl ?_; clear hF a; intro a hF
  refine svg hF rfl ?_
  refine sv hF (v_move rfl) rfl ?_; clear hF a; intro a hF
  refine svg hF rfl ?_
  refine sv hF (v_addI rfl rfl (by omega)) rfl ?_; clear hF a; intro a hF
  refine svg hF rfl ?_
  refine sv hF ((v_neq rfl rfl).as (congrArg Value.bool (decide_eq_false (by omega)))) rfl ?_; clear hF a; intro a hF
  refine sv hF (v_pickF rfl rfl) rfl ?_; clear hF a; intro a hF
  refine sv hF (v_move rfl) rfl ?_; clear hF a; intro a hF
  refine svg hF rfl ?_
  refine sv hF (v_move rfl) rfl ?_; clear hF a; intro a hF
  refine svg hF rfl ?_
  refine sv hF (v_lenS rfl sl30 rfl) rfl ?_; clear hF a; intro a hF
  refine svg hF rfl ?_
  refine sv hF (v_move rfl) rfl ?_; clear hF a; intro a hF
  refine svg hF rfl ?_
  refine sv hF ((v_neq rfl rfl).as (congrArg Value.bool (decide_eq_false (by omega)))) rfl ?_; clear hF a; intro a hF
  refine sv hF (v_pickF rfl rfl) rfl ?_; clear hF a; intro a hF
  refine WL_nil (hK _ _ ?_)
  clear hK K
  replace hF := hF.sub _ (c_ 66 rfl (c_ 15 rfl (c_ 13 rfl (c_ 9 rfl (c_ 8 rfl (c_ 7 rfl (c_ 6 rfl (n_))))))))
  refine W_ifF hF rfl ?_
  refine W_skip ?_
  refine W_seq ?_
  refine W_sr rfl (fun K hK => ?_)
  refine sv hF (v_assign rfl) rfl ?_; clear hF a; intro a hF
  refine WL_nil (hK _ _ ?_)
  clear hK K
  replace hF := hF.sub _ (c_ 17 rfl (c_ 15 rfl (c_ 13 rfl (c_ 9 rfl (c_ 8 rfl (c_ 7 rfl (c_ 6 rfl (n_))))))))
  refine W_block ?_
  refine W_loop (fun q a w1 => ∃ (r : Nat), Fr 122 [(7, .bool true), (8, .int .i64 (k1 : Int)), (9, .int .i64 (m1 : Int)), (13, .slice sX (tab (1 + m1) 1 (sysT hp 1)).length cX), (15, .slice sY (tab m1 k1 (isT (some (wb, p)))).length cY), (17, .int .i64 (r : Int))] a ∧ (St FDx B w w1) ∧ (Mat FDx B w1.heap.size w1 sX cX (tab (1 + m1) 1 (sysT hp 1))) ∧ (Mat FDx B w1.heap.size w1 sY cY (tab m1 k1 (isT (some (wb, p))))) ∧ (r ≤ 1 + m1) ∧ (q + r = 1 + m1)) (1 + m1) ?_ ?_
  · skip
    exact ⟨0, hF.sub _ (c_ 7 rfl (c_ 8 rfl (c_ 9 rfl (c_ 13 rfl (c_ 15 rfl (c_ 17 rfl (n_))))))), hS, hX, hY, by omega, by omega⟩
  · skip
    clear hF
    clear hS hX hY
    rintro q a w1 ⟨r, hF, hS, hX, hY, hr, hq⟩
    refine W_seq ?_
    refine W_sr rfl (fun K hK => ?_)
    refine sv hF (v_move rfl) rfl ?_; clear hF a; intro a hF
    refine sv hF (v_move rfl) rfl ?_; clear hF a; intro a hF
    refine sv hF (v_lenS rfl sl30 rfl) rfl ?_; clear hF a; intro a hF
    refine sv hF (v_lss rfl rfl) rfl ?_; clear hF a; intro a hF
    refine WL_nil (hK _ _ ?_)
    clear hK K
    replace hF := hF.sub _ (c_ 70 rfl (c_ 7 rfl (c_ 8 rfl (c_ 9 rfl (c_ 13 rfl (c_ 15 rfl (c_ 17 rfl (n_))))))))
    refine W_if hF rfl (fun hc1 => ?_) (fun hc1 => ?_)
    · skip
      try simp only [decide_eq_true_eq, decide_eq_false_iff_not, Bool.not_eq_true', Bool.not_eq_false', Bool.not_true, Bool.not_false] at hc1
      obtain ⟨gx, ox, pr, cr, hgx, hkr, hrow, -⟩ := hX.row (tab_at (f := (sysT hp 1)) (m := 1) (show r < 1 + m1 by omega))
      cases hgx
      have hrl : ((List.range 1).map fun j => (((sysT hp 1) r j : Nat) : Int)).length = 1 := by simp
      obtain ⟨gz, oz, hgz, hkz, -⟩ := hrow.kat (zints_at (trow_at (m := 1) (f := (sysT hp 1)) (i := r) (j := 0) (by omega)))
      cases hgz
      rw [hrl] at hkr
      rw [sysT_one hp] at hkz
      refine W_skip ?_
      refine W_seq ?_
      refine W_block ?_
      refine W_sr rfl (fun K hK => ?_)
      refine sv hF (v_move rfl) rfl ?_; clear hF a; intro a hF
      refine sv hF (v_move rfl) rfl ?_; clear hF a; intro a hF
      refine sv hF (v_ixS sl30 rfl rfl (by omega) (by omega)) rfl ?_; clear hF a; intro a hF
      refine sv hF (v_load sc28 rfl (by rw [toNat_c]; exact hkr.c)) rfl ?_; clear hF a; intro a hF
      refine sv hF (v_lenS rfl sl28 rfl) rfl ?_; clear hF a; intro a hF
      refine sv hF ((v_neq rfl rfl).as (congrArg Value.bool (decide_eq_false (by omega)))) rfl ?_; clear hF a; intro a hF
      refine sv hF (v_move rfl) rfl ?_; clear hF a; intro a hF
      refine svg hF rfl ?_
      refine sv hF (v_move rfl) rfl ?_; clear hF a; intro a hF
      refine svg hF rfl ?_
      refine sv hF (v_move rfl) rfl ?_; clear hF a; intro a hF
      refine svg hF rfl ?_
      refine sv hF (v_ixS sl30 rfl rfl (by omega) (by omega)) rfl ?_; clear hF a; intro a hF
      refine svg hF rfl ?_
      refine sv hF (v_load sc28 rfl (by rw [toNat_c]; exact hkr.c)) rfl ?_; clear hF a; intro a hF
      refine svg hF rfl ?_
      refine sv hF (v_ixS sl28 rfl rfl (by decide) (by omega)) rfl ?_; clear hF a; intro a hF
      refine svg hF rfl ?_
      refine sv hF (v_load sc3 rfl (by first | exact hkz.c | (rw [toNat_c]; exact hkz.c))) rfl ?_; clear hF a; intro a hF
      refine svg hF rfl ?_
      refine sv hF ((v_neq rfl rfl).as (congrArg Value.bool (decide_eq_false (fun h => h rfl)))) rfl ?_; clear hF a; intro a hF
      refine sv hF (v_pickF rfl rfl) rfl ?_; clear hF a; intro a hF
      refine WL_nil (hK _ _ ?_)
      clear hK K
      replace hF := hF.sub _ (c_ 87 rfl (c_ 7 rfl (c_ 8 rfl (c_ 9 rfl (c_ 13 rfl (c_ 15 rfl (c_ 17 rfl (n_))))))))
      refine W_ifF hF rfl ?_
      refine W_skip ?_
      refine W_reg rfl (fun K hK => ?_)
      refine sv hF (v_move rfl) rfl ?_; clear hF a; intro a hF
      refine sv hF (v_addI rfl rfl (by omega)) rfl ?_; clear hF a; intro a hF
      refine sv hF (v_assign rfl) rfl ?_; clear hF a; intro a hF
      refine WL_nil (hK _ _ ?_)
      clear hK K
      replace hF := hF.sub _ (c_ 17 rfl (c_ 72 rfl (c_ 71 rfl (c_ 7 rfl (c_ 8 rfl (c_ 9 rfl (c_ 13 rfl (c_ 15 rfl (n_)))))))))
      exact ⟨q - 1, by omega, r + 1, hF.sub _ (c_ 7 rfl (c_ 8 rfl (c_ 9 rfl (c_ 13 rfl (c_ 15 rfl (c_ 17 rfl (n_))))))), hS, hX, hY, by omega, by omega⟩
    · skip
      try simp only [decide_eq_true_eq, decide_eq_false_iff_not, Bool.not_eq_true', Bool.not_eq_false', Bool.not_true, Bool.not_false] at hc1
      refine W_exit rfl ?_
      refine W_seq ?_
      refine W_sr rfl (fun K hK => ?_)
      refine sv hF (v_assign rfl) rfl ?_; clear hF a; intro a hF
      refine WL_nil (hK _ _ ?_)
      clear hK K
      replace hF := hF.sub _ (c_ 18 rfl (c_ 7 rfl (c_ 8 rfl (c_ 9 rfl (c_ 13 rfl (c_ 15 rfl (c_ 17 rfl (n_))))))))
      refine W_block ?_
      refine W_loop (fun q a w1 => ∃ (r : Nat), Fr 122 [(7, .bool true), (8, .int .i64 (k1 : Int)), (9, .int .i64 (m1 : Int)), (15, .slice sY (tab m1 k1 (isT (some (wb, p)))).length cY), (18, .int .i64 (r : Int))] a ∧ (St FDx B w w1) ∧ (Mat FDx B w1.heap.size w1 sX cX (tab (1 + m1) 1 (sysT hp 1))) ∧ (Mat FDx B w1.heap.size w1 sY cY (tab m1 k1 (isT (some (wb, p))))) ∧ (r ≤ m1) ∧ (q + r = m1)) (m1) ?_ ?_
      · skip
        exact ⟨0, hF.sub _ (c_ 7 rfl (c_ 8 rfl (c_ 9 rfl (c_ 15 rfl (c_ 18 rfl (n_)))))), hS, hX, hY, by omega, by omega⟩
      · skip
        clear hF
        clear hS hX hY
        rintro q a w1 ⟨r, hF, hS, hX, hY, hr, hq⟩
        refine W_seq ?_
        refine W_sr rfl (fun K hK => ?_)
        refine sv hF (v_move rfl) rfl ?_; clear hF a; intro a hF
        refine sv hF (v_move rfl) rfl ?_; clear hF a; intro a hF
        refine sv hF (v_lss rfl rfl) rfl ?_; clear hF a; intro a hF
        refine WL_nil (hK _ _ ?_)
        clear hK K
        refine W_if hF rfl (fun hc2 => ?_) (fun hc2 => ?_)
        · skip
          try simp only [decide_eq_true_eq, decide_eq_false_iff_not, Bool.not_eq_true', Bool.not_eq_false', Bool.not_true, Bool.not_false] at hc2
          obtain ⟨gx, ox, pr, cr, hgx, hkr, hrow, -⟩ := hY.row (tab_at (f := (isT (some (wb, p)))) (m := k1) (show r < m1 by omega))
          cases hgx
          have hrl : ((List.range k1).map fun j => (((isT (some (wb, p))) r j : Nat) : Int)).length = k1 := by simp
          obtain ⟨gz, oz, hgz, hkz, -⟩ := hrow.kat (zints_at (trow_at (m := k1) (f := (isT (some (wb, p)))) (i := r) (j := 0) (by omega)))
          cases hgz
          rw [hrl] at hkr
          rw [isT_zero_r hp] at hkz
          refine W_skip ?_
          refine W_seq ?_
          refine W_block ?_
          refine W_sr rfl (fun K hK => ?_)
          refine sv hF (v_move rfl) rfl ?_; clear hF a; intro a hF
          refine sv hF (v_move rfl) rfl ?_; clear hF a; intro a hF
          refine sv hF (v_ixS sl30 rfl rfl (by omega) (by omega)) rfl ?_; clear hF a; intro a hF
          refine sv hF (v_load sc28 rfl (by rw [toNat_c]; exact hkr.c)) rfl ?_; clear hF a; intro a hF
          refine sv hF (v_lenS rfl sl28 rfl) rfl ?_; clear hF a; intro a hF
          refine sv hF (v_move rfl) rfl ?_; clear hF a; intro a hF
          refine sv hF ((v_neq rfl rfl).as (congrArg Value.bool (decide_eq_false (by omega)))) rfl ?_; clear hF a; intro a hF
          refine sv hF (v_move rfl) rfl ?_; clear hF a; intro a hF
          refine svg hF rfl ?_
          refine sv hF (v_move rfl) rfl ?_; clear hF a; intro a hF
          refine svg hF rfl ?_
          refine sv hF (v_move rfl) rfl ?_; clear hF a; intro a hF
          refine svg hF rfl ?_
          refine sv hF (v_ixS sl30 rfl rfl (by omega) (by omega)) rfl ?_; clear hF a; intro a hF
          refine svg hF rfl ?_
          refine sv hF (v_load sc28 rfl (by rw [toNat_c]; exact hkr.c)) rfl ?_; clear hF a; intro a hF
          refine svg hF rfl ?_
          refine sv hF (v_ixS sl28 rfl rfl (by decide) (by omega)) rfl ?_; clear hF a; intro a hF
          refine svg hF rfl ?_
          refine sv hF (v_load sc3 rfl (by first | exact hkz.c | (rw [toNat_c]; exact hkz.c))) rfl ?_; clear hF a; intro a hF
          refine svg hF rfl ?_
          refine sv hF ((v_neq rfl rfl).as (congrArg Value.bool (decide_eq_false (fun h => h rfl)))) rfl ?_; clear hF a; intro a hF
          refine sv hF (v_pickF rfl rfl) rfl ?_; clear hF a; intro a hF
          refine WL_nil (hK _ _ ?_)
          clear hK K
          refine W_ifF hF rfl ?_
          refine W_skip ?_
          refine W_reg rfl (fun K hK => ?_)
          refine sv hF (v_move rfl) rfl ?_; clear hF a; intro a hF
          refine sv hF (v_addI rfl rfl (by omega)) rfl ?_; clear hF a; intro a hF
          refine sv hF (v_assign rfl) rfl ?_; clear hF a; intro a hF
          refine WL_nil (hK _ _ ?_)
          clear hK K
          exact ⟨q - 1, by omega, r + 1, hF.sub _ (c_ 7 rfl (c_ 8 rfl (c_ 9 rfl (c_ 15 rfl (c_ 18 rfl (n_)))))), hS, hX, hY, by omega, by omega⟩
        · skip
          try simp only [decide_eq_true_eq, decide_eq_false_iff_not, Bool.not_eq_true', Bool.not_eq_false', Bool.not_true, Bool.not_false] at hc2
          refine W_exit rfl ?_
          refine W_seq ?_
          refine W_sr rfl (fun K hK => ?_)
          refine sv hF (v_assign rfl) rfl ?_; clear hF a; intro a hF
          refine WL_nil (hK _ _ ?_)
          clear hK K
          refine W_block ?_
          refine W_loop (fun q a w1 => ∃ (c : Nat), Fr 122 [(7, .bool true), (8, .int .i64 (k1 : Int)), (15, .slice sY (tab m1 k1 (isT (some (wb, p)))).length cY), (19, .int .i64 (c : Int))] a ∧ (St FDx B w w1) ∧ (Mat FDx B w1.heap.size w1 sX cX (tab (1 + m1) 1 (sysT hp 1))) ∧ (Mat FDx B w1.heap.size w1 sY cY (tab m1 k1 (isT (some (wb, p))))) ∧ (c ≤ k1) ∧ (q + c = k1)) (k1) ?_ ?_
          · skip
            exact ⟨0, hF.sub _ (c_ 7 rfl (c_ 8 rfl (c_ 15 rfl (c_ 19 rfl (n_))))), hS, hX, hY, by omega, by omega⟩
          · skip
            clear hF
            clear hS hX hY
            rintro q a w1 ⟨c, hF, hS, hX, hY, hr, hq⟩
            refine W_seq ?_
            refine W_sr rfl (fun K hK => ?_)
            refine sv hF (v_move rfl) rfl ?_; clear hF a; intro a hF
            refine sv hF (v_move rfl) rfl ?_; clear hF a; intro a hF
            refine sv hF (v_lss rfl rfl) rfl ?_; clear hF a; intro a hF
            refine WL_nil (hK _ _ ?_)
            clear hK K
            refine W_if hF rfl (fun hc3 => ?_) (fun hc3 => ?_)
            · skip
              try simp only [decide_eq_true_eq, decide_eq_false_iff_not, Bool.not_eq_true', Bool.not_eq_false', Bool.not_true, Bool.not_false] at hc3
              obtain ⟨gx, ox, pr, cr, hgx, hkr, hrow, -⟩ := hY.row (tab_at (f := (isT (some (wb, p)))) (m := k1) (show 0 < m1 by omega))
              cases hgx
              have hrl : ((List.range k1).map fun j => (((isT (some (wb, p))) 0 j : Nat) : Int)).length = k1 := by simp
              obtain ⟨gz, oz, hgz, hkz, -⟩ := hrow.kat (zints_at (trow_at (m := k1) (f := (isT (some (wb, p)))) (i := 0) (j := c) (by omega)))
              cases hgz
              rw [hrl] at hkr
              rw [isT_zero_l hp] at hkz
              refine W_skip ?_
              refine W_seq ?_
              refine W_block ?_
              refine W_sr rfl (fun K hK => ?_)
              refine sv hF (v_move rfl) rfl ?_; clear hF a; intro a hF
              refine sv hF (v_ixS sl30 rfl rfl (by decide) (by omega)) rfl ?_; clear hF a; intro a hF
              refine sv hF (v_load sc28 rfl hkr.c) rfl ?_; clear hF a; intro a hF
              refine sv hF (v_move rfl) rfl ?_; clear hF a; intro a hF
              refine sv hF (v_ixS sl28 rfl rfl (by omega) (by omega)) rfl ?_; clear hF a; intro a hF
              refine sv hF (v_load sc3 rfl (by first | exact hkz.c | (rw [toNat_c]; exact hkz.c))) rfl ?_; clear hF a; intro a hF
              refine sv hF ((v_neq rfl rfl).as (congrArg Value.bool (decide_eq_false (fun h => h rfl)))) rfl ?_; clear hF a; intro a hF
              refine WL_nil (hK _ _ ?_)
              clear hK K
              refine W_ifF hF rfl ?_
              refine W_skip ?_
              refine W_reg rfl (fun K hK => ?_)
              refine sv hF (v_move rfl) rfl ?_; clear hF a; intro a hF
              refine sv hF (v_addI rfl rfl (by omega)) rfl ?_; clear hF a; intro a hF
              refine sv hF (v_assign rfl) rfl ?_; clear hF a; intro a hF
              refine WL_nil (hK _ _ ?_)
              clear hK K
              exact ⟨q - 1, by omega, c + 1, hF.sub _ (c_ 7 rfl (c_ 8 rfl (c_ 15 rfl (c_ 19 rfl (n_))))), hS, hX, hY, by omega, by omega⟩
            · skip
              try simp only [decide_eq_true_eq, decide_eq_false_iff_not, Bool.not_eq_true', Bool.not_eq_false', Bool.not_true, Bool.not_false] at hc3
              refine W_exit rfl ?_
              refine W_sr rfl (fun K hK => ?_)
              refine sv hF (v_move rfl) rfl ?_; clear hF a; intro a hF
              refine sv hF (v_assign rfl) rfl ?_; clear hF a; intro a hF
              refine WL_nil (hK _ _ ?_)
              clear hK K
              refine W_ret ?_
              refine ⟨_, _, hF, rfl, ?_⟩
              exact ⟨rfl, hS⟩

end Go.Proofs.Ytcnlooajjnghaaa
