/- The statement JvanOnes, walked: it returns true. -/
import Derived.Test.YtaeljbdpjiciaaaFAw07
set_option linter.unusedVariables false
set_option linter.unusedSimpArgs false
namespace Go.Proofs.Ytaeljbdpjiciaaa
open Go Go.Gam


namespace FxFJvanOnes
theorem en14 : Ent Try.prog 14 := ent Try.func14 (by kernel_rfl) (by kernel_rfl)
theorem en15 : Ent Try.prog 15 := ent Try.func15 (by kernel_rfl) (by kernel_rfl)
theorem en18 : Ent Try.prog 18 := ent Try.func18 (by kernel_rfl) (by kernel_rfl)
theorem sc3 : Scalar Try.prog 3 := ⟨_, Try.underlying3, by simp, by simp⟩
theorem sc37 : Scalar Try.prog 37 := ⟨_, Try.underlying37, by simp, by simp⟩
theorem sl27 : Sl Try.prog 27 37 (.slice none 0 0) 24 := sl_of Try.underlying27 rfl (by kernel_rfl)
theorem sl28 : Sl Try.prog 28 37 (.slice none 0 0) 24 := sl_of Try.underlying28 rfl (by kernel_rfl)
theorem sl37 : Sl Try.prog 37 3 (.int .i64 0) 8 := sl_of Try.underlying37 rfl (by kernel_rfl)
end FxFJvanOnes
open FxFJvanOnes

set_option maxRecDepth 100000 in
set_option maxHeartbeats 1000000 in
theorem JvanOnes_ok (B : Nat) (lg : Bool) (n0 n1 : Nat) (w : World) (hI : Inv FDx B w) (hn08 : n0 < 256) (hn18 : n1 < 256) : Ret Try.prog 4 [.bool lg, .int .u8 (n0 : Int), .int .u8 (n1 : Int)] w fun v w' => v = .bool true ∧ St FDx B w w' := by
  refine enter 91 [(0, .bool lg), (1, .int .u8 (n0 : Int)), (2, .int .u8 (n1 : Int))] 6 Try.func4 rfl rfl rfl rfl rfl ?_; intro a hF
  have hS := St.refl hI
  refine W_sr rfl (fun K hK => ?_)
  refine sv hF (v_assign rfl) rfl ?_; clear hF a; intro a hF
  refine WL_nil (hK _ _ ?_)
  clear hK K
  refine W_sr rfl (fun K hK => ?_)
  refine sc hF rfl rfl rfl en14 rfl (aw07_ok B _ hS.inv) ?_; clear hF a; intro v w' a hv hF
  obtain ⟨rfl, hS'⟩ := hv
  replace hS := hS.trans hS'
  clear hS'
  refine sv hF (v_assign rfl) rfl ?_; clear hF a; intro a hF
  refine WL_nil (hK _ _ ?_)
  clear hK K
  replace hF := hF.sub _ (c_ 7 rfl (c_ 6 rfl (c_ 0 rfl (c_ 1 rfl (c_ 2 rfl (n_))))))
  refine W_sr rfl (fun K hK => ?_)
  refine sv hF (v_move rfl) rfl ?_; clear hF a; intro a hF
  refine sv hF (v_cv Try.underlying5 Try.underlying3 rfl (wrap_i64 _ (by omega))) rfl ?_; clear hF a; intro a hF
  refine sv hF (v_remI rfl rfl (by omega) (by omega)) rfl ?_; clear hF a; intro a hF
  refine sv hF (v_addI rfl rfl (by omega)) rfl ?_; clear hF a; intro a hF
  refine sv hF (v_assign rfl) rfl ?_; clear hF a; intro a hF
  refine WL_nil (hK _ _ ?_)
  clear hK K
  replace hF := hF.sub _ (c_ 8 rfl (c_ 7 rfl (c_ 6 rfl (c_ 0 rfl (c_ 2 rfl (n_))))))
  obtain ⟨k1, hk1⟩ : ∃ n : Nat, 1 + (n0 : Int) % 8 = (n : Int) := ⟨1 + n0 % 8, by omega⟩
  have hk12 : 1 ≤ k1 ∧ k1 ≤ 8 := by omega
  rw [hk1] at hF
  refine W_sr rfl (fun K hK => ?_)
  refine sv hF (v_move rfl) rfl ?_; clear hF a; intro a hF
  refine sv hF (v_cv Try.underlying5 Try.underlying3 rfl (wrap_i64 _ (by omega))) rfl ?_; clear hF a; intro a hF
  refine sv hF (v_remI rfl rfl (by omega) (by omega)) rfl ?_; clear hF a; intro a hF
  refine sv hF (v_addI rfl rfl (by omega)) rfl ?_; clear hF a; intro a hF
  refine sv hF (v_assign rfl) rfl ?_; clear hF a; intro a hF
  refine WL_nil (hK _ _ ?_)
  clear hK K
  replace hF := hF.sub _ (c_ 9 rfl (c_ 8 rfl (c_ 7 rfl (c_ 6 rfl (c_ 0 rfl (n_))))))
  obtain ⟨m1, hm1⟩ : ∃ n : Nat, 1 + (n1 : Int) % 4 = (n : Int) := ⟨1 + n1 % 4, by omega⟩
  have hm12 : 1 ≤ m1 ∧ m1 ≤ 4 := by omega
  rw [hm1] at hF
  refine W_sr rfl (fun K hK => ?_)
  refine sv hF (v_move rfl) rfl ?_; clear hF a; intro a hF
  refine sc hF rfl rfl rfl en15 rfl (field7_ok B lg _ hS.inv) ?_; clear hF a; intro v w' a hv hF
  obtain ⟨fv, rfl, hf, hS'⟩ := hv
  obtain ⟨⟨wb, p⟩, hq⟩ : ∃ q, fq lg = q := ⟨_, rfl⟩
  have hq1 : (fq lg).1 = wb := by rw [hq]
  have hq2 : (fq lg).2 = p := by rw [hq]
  rw [hq] at hf
  rw [hq1, hq2] at hF
  clear hq1 hq2
  have hp : Prm wb p := hf.1
  replace hS := hS.trans hS'
  clear hS'
  refine sv hF (v_move rfl) rfl ?_; clear hF a; intro a hF
  refine sv hF (v_ext rfl rfl) rfl ?_; clear hF a; intro a hF
  refine sv hF (v_ext rfl rfl) rfl ?_; clear hF a; intro a hF
  refine sv hF (v_ext rfl rfl) rfl ?_; clear hF a; intro a hF
  refine sv hF (v_assign rfl) rfl ?_; clear hF a; intro a hF
  refine sv hF (v_assign rfl) rfl ?_; clear hF a; intro a hF
  refine sv hF (v_assign rfl) rfl ?_; clear hF a; intro a hF
  refine WL_nil (hK _ _ ?_)
  clear hK K
  replace hF := hF.sub _ (c_ 10 rfl (c_ 9 rfl (c_ 8 rfl (c_ 7 rfl (c_ 6 rfl (n_))))))
  refine W_sr rfl (fun K hK => ?_)
  refine sv hF (v_move rfl) rfl ?_; clear hF a; intro a hF
  refine sv hF (v_move rfl) rfl ?_; clear hF a; intro a hF
  refine sv hF (v_move rfl) rfl ?_; clear hF a; intro a hF
  refine sc hF rfl rfl rfl en18 rfl (Parity_fit B wb p hp fv k1 m1 _ hS.inv hf (fitB_ok rfl (by omega) (by omega) (by omega))) ?_; clear hF a; intro v w' a hv hF
  obtain ⟨sX, cX, rfl, hX, hS'⟩ := hv
  replace hf := hf.st hS'
  replace hS := hS.trans hS'
  clear hS'
  refine sv hF (v_move rfl) rfl ?_; clear hF a; intro a hF
  refine sv hF (v_ext rfl rfl) rfl ?_; clear hF a; intro a hF
  refine sv hF (v_ext rfl rfl) rfl ?_; clear hF a; intro a hF
  refine sv hF (v_assign rfl) rfl ?_; clear hF a; intro a hF
  refine sv hF (v_assign rfl) rfl ?_; clear hF a; intro a hF
  refine WL_nil (hK _ _ ?_)
  clear hK K
  replace hF := hF.sub _ (c_ 14 rfl (c_ 13 rfl (c_ 9 rfl (c_ 8 rfl (c_ 7 rfl (c_ 6 rfl (n_)))))))
  refine W_seq ?_
  refine W_sr rfl (fun K hK => ?_)
  refine sv hF (v_move rfl) rfl ?_; clear hF a; intro a hF
  refine sv hF ((v_neq rfl rfl).as (congrArg Value.bool (decide_eq_false (fun h => h rfl)))) rfl ?_; clear hF a; intro a hF
  refine sv hF (v_move rfl) rfl ?_; clear hF a; intro a hF
  refine svg hF rfl ?_
  refine sv hF (v_move rfl) rfl ?_; clear hF a; intro a hF
  refine svg hF rfl ?_
  refine sv hF (v_lenS rfl sl28 rfl) rfl ?_; clear hF a; intro a hF
  refine svg hF rfl ?_
  refine sv hF (v_move rfl) rfl ?_; clear hF a; intro a hF
  refine svg hF rfl ?_
  refine sv hF ((v_neq rfl rfl).as (congrArg Value.bool (decide_eq_false (fun h => h rfl)))) rfl ?_; clear hF a; intro a hF
  refine sv hF (v_pickF rfl rfl) rfl ?_; clear hF a; intro a hF
  refine WL_nil (hK _ _ ?_)
  clear hK K
  replace hF := hF.sub _ (c_ 46 rfl (c_ 13 rfl (c_ 9 rfl (c_ 8 rfl (c_ 7 rfl (c_ 6 rfl (n_)))))))
  refine W_ifF hF rfl ?_
  refine W_skip ?_
  refine W_seq ?_
  obtain ⟨gs, os, hgs⟩ : ∃ g o, sX = some ⟨g, o, none⟩ := by
    obtain ⟨g, o, pr, cr, hg, -⟩ := hX.row (tab_at (f := (parT hp k1 m1)) (m := k1) (i := 0) (show 0 < m1 by omega))
    exact ⟨_, _, hg⟩
  subst hgs
  refine W_sr rfl (fun K hK => ?_)
  refine sv hF (v_assign rfl) rfl ?_; clear hF a; intro a hF
  refine WL_nil (hK _ _ ?_)
  clear hK K
  replace hF := hF.sub _ (c_ 15 rfl (c_ 13 rfl (c_ 9 rfl (c_ 8 rfl (c_ 7 rfl (c_ 6 rfl (n_)))))))
  refine W_block ?_
  refine W_loop (fun q a w1 => ∃ (r : Nat), Fr 91 [(7, .bool true), (8, .int .i64 (k1 : Int)), (9, .int .i64 (m1 : Int)), (13, .slice (some ⟨gs, os, none⟩) m1 cX), (15, .int .i64 (r : Int))] a ∧ (St FDx B w w1) ∧ (Mat FDx B w1.heap.size w1 (some ⟨gs, os, none⟩) cX (tab m1 k1 (parT hp k1 m1))) ∧ (r ≤ m1) ∧ (q + r = m1)) (m1) ?_ ?_
  · skip
    exact ⟨0, hF.sub _ (c_ 7 rfl (c_ 8 rfl (c_ 9 rfl (c_ 13 rfl (c_ 15 rfl (n_)))))), hS, hX, by omega, by omega⟩
  · skip
    clear hF
    clear hS hX
    rintro q a w1 ⟨r, hF, hS, hX, hr, hq⟩
    refine W_seq ?_
    refine W_sr rfl (fun K hK => ?_)
    refine sv hF (v_move rfl) rfl ?_; clear hF a; intro a hF
    refine sv hF (v_move rfl) rfl ?_; clear hF a; intro a hF
    refine sv hF (v_lss rfl rfl) rfl ?_; clear hF a; intro a hF
    refine WL_nil (hK _ _ ?_)
    clear hK K
    replace hF := hF.sub _ (c_ 49 rfl (c_ 7 rfl (c_ 8 rfl (c_ 9 rfl (c_ 13 rfl (c_ 15 rfl (n_)))))))
    refine W_if hF rfl (fun hc1 => ?_) (fun hc1 => ?_)
    · skip
      try simp only [decide_eq_true_eq, decide_eq_false_iff_not, Bool.not_eq_true', Bool.not_eq_false', Bool.not_true, Bool.not_false] at hc1
      have hrm : r < m1 := by omega
      obtain ⟨ga, oa, pra, cra, hga, hkra, hrowa, -⟩ := hX.row (tab_at (f := (parT hp k1 m1)) (m := k1) (i := r) hrm)
      cases hga
      have hrla : ((List.range k1).map fun j => (((parT hp k1 m1) r j : Nat) : Int)).length = k1 := by simp
      rw [hrla] at hkra
      refine W_skip ?_
      refine W_seq ?_
      refine W_block ?_
      refine W_seq ?_
      refine W_sr rfl (fun K hK => ?_)
      refine sv hF (v_move rfl) rfl ?_; clear hF a; intro a hF
      refine sv hF (v_move rfl) rfl ?_; clear hF a; intro a hF
      refine sv hF (v_ixS sl28 rfl rfl (by omega) (by omega)) rfl ?_; clear hF a; intro a hF
      refine sv hF (v_load sc37 rfl (by first | exact hkra.c | (rw [toNat_c]; exact hkra.c))) rfl ?_; clear hF a; intro a hF
      refine sv hF (v_lenS rfl sl37 rfl) rfl ?_; clear hF a; intro a hF
      refine sv hF (v_move rfl) rfl ?_; clear hF a; intro a hF
      refine sv hF ((v_neq rfl rfl).as (congrArg Value.bool (decide_eq_false (fun h => h rfl)))) rfl ?_; clear hF a; intro a hF
      refine WL_nil (hK _ _ ?_)
      clear hK K
      replace hF := hF.sub _ (c_ 58 rfl (c_ 7 rfl (c_ 8 rfl (c_ 9 rfl (c_ 13 rfl (c_ 15 rfl (n_)))))))
      refine W_ifF hF rfl ?_
      refine W_skip ?_
      refine W_sr rfl (fun K hK => ?_)
      refine sv hF (v_assign rfl) rfl ?_; clear hF a; intro a hF
      refine WL_nil (hK _ _ ?_)
      clear hK K
      replace hF := hF.sub _ (c_ 16 rfl (c_ 7 rfl (c_ 8 rfl (c_ 9 rfl (c_ 13 rfl (c_ 15 rfl (n_)))))))
      refine W_block ?_
      refine W_loop (fun q2 a w2 => ∃ (c : Nat), Fr 91 [(7, .bool true), (8, .int .i64 (k1 : Int)), (9, .int .i64 (m1 : Int)), (13, .slice (some ⟨gs, os, none⟩) m1 cX), (15, .int .i64 (r : Int)), (16, .int .i64 (c : Int))] a ∧ (St FDx B w w2) ∧ (Mat FDx B w2.heap.size w2 (some ⟨gs, os, none⟩) cX (tab m1 k1 (parT hp k1 m1))) ∧ (c ≤ k1) ∧ (q2 + c = k1)) (k1) ?_ ?_
      · skip
        exact ⟨0, hF.sub _ (c_ 7 rfl (c_ 8 rfl (c_ 9 rfl (c_ 13 rfl (c_ 15 rfl (c_ 16 rfl (n_))))))), hS, hX, by omega, by omega⟩
      · skip
        clear hF
        clear hS hX
        rintro q2 a w2 ⟨c, hF, hS, hX, hc, hq2⟩
        refine W_seq ?_
        refine W_sr rfl (fun K hK => ?_)
        refine sv hF (v_move rfl) rfl ?_; clear hF a; intro a hF
        refine sv hF (v_move rfl) rfl ?_; clear hF a; intro a hF
        refine sv hF (v_lss rfl rfl) rfl ?_; clear hF a; intro a hF
        refine WL_nil (hK _ _ ?_)
        clear hK K
        replace hF := hF.sub _ (c_ 61 rfl (c_ 7 rfl (c_ 8 rfl (c_ 9 rfl (c_ 13 rfl (c_ 15 rfl (c_ 16 rfl (n_))))))))
        refine W_if hF rfl (fun hc2 => ?_) (fun hc2 => ?_)
        · skip
          try simp only [decide_eq_true_eq, decide_eq_false_iff_not, Bool.not_eq_true', Bool.not_eq_false', Bool.not_true, Bool.not_false] at hc2
          have hck : c < k1 := by omega
          clear hkra hrowa
          obtain ⟨gb, ob, prb, crb, hgb, hkrb, hrowb, -⟩ := hX.row (tab_at (f := (parT hp k1 m1)) (m := k1) (i := r) hrm)
          cases hgb
          have hrlb : ((List.range k1).map fun j => (((parT hp k1 m1) r j : Nat) : Int)).length = k1 := by simp
          obtain ⟨gzb, ozb, hgzb, hkzb, -⟩ := hrowb.kat (zints_at (trow_at (m := k1) (f := (parT hp k1 m1)) (i := r) (j := c) (by omega)))
          cases hgzb
          rw [hrlb] at hkrb
          have hne := parT_ne hp (k := k1) (m := m1) (by omega) (by omega) (by omega) hrm hck
          have hone : r = 0 ∨ c = 0 → parT hp k1 m1 r c = 1 := by
            rintro (rfl | rfl)
            · exact parT_top hp (by omega) (by omega) (by omega) hck
            · exact parT_left hp (by omega) (by omega) (by omega) hrm
          refine W_skip ?_
          refine W_seq ?_
          refine W_block ?_
          refine W_sr rfl (fun K hK => ?_)
          refine sv hF (v_move rfl) rfl ?_; clear hF a; intro a hF
          refine sv hF (v_move rfl) rfl ?_; clear hF a; intro a hF
          refine sv hF (v_ixS sl28 rfl rfl (by omega) (by omega)) rfl ?_; clear hF a; intro a hF
          refine sv hF (v_load sc37 rfl (by first | exact hkrb.c | (rw [toNat_c]; exact hkrb.c))) rfl ?_; clear hF a; intro a hF
          refine sv hF (v_move rfl) rfl ?_; clear hF a; intro a hF
          refine sv hF (v_ixS sl37 rfl rfl (by omega) (by omega)) rfl ?_; clear hF a; intro a hF
          refine sv hF (v_load sc3 rfl (by first | exact hkzb.c | (rw [toNat_c]; exact hkzb.c))) rfl ?_; clear hF a; intro a hF
          refine sv hF ((v_eql rfl rfl).as (congrArg Value.bool (decide_eq_false (by omega)))) rfl ?_; clear hF a; intro a hF
          refine sv hF (v_move rfl) rfl ?_; clear hF a; intro a hF
          refine svg hF rfl ?_
          refine sv hF (v_move rfl) rfl ?_; clear hF a; intro a hF
          refine svg hF rfl ?_
          refine sb hF (v_eql rfl rfl) rfl ?_ ?_
          · clear hF a; intro hc3 a hF
            try simp only [decide_eq_true_eq, decide_eq_false_iff_not, Bool.not_eq_true', Bool.not_eq_false', Bool.not_true, Bool.not_false] at hc3
            refine svg hF rfl ?_
            refine sv hF (v_move rfl) rfl ?_; clear hF a; intro a hF
            refine svn hF rfl rfl rfl ?_; clear hF a; intro a hF
            refine svn hF rfl rfl rfl ?_; clear hF a; intro a hF
            refine svg hF rfl ?_
            refine sv hF (v_pickT rfl rfl) rfl ?_; clear hF a; intro a hF
            refine svg hF rfl ?_
            refine sv hF (v_move rfl) rfl ?_; clear hF a; intro a hF
            refine svg hF rfl ?_
            refine sv hF (v_move rfl) rfl ?_; clear hF a; intro a hF
            refine svg hF rfl ?_
            refine sv hF (v_move rfl) rfl ?_; clear hF a; intro a hF
            refine svg hF rfl ?_
            refine sv hF (v_ixS sl28 rfl rfl (by omega) (by omega)) rfl ?_; clear hF a; intro a hF
            refine svg hF rfl ?_
            refine sv hF (v_load sc37 rfl (by first | exact hkrb.c | (rw [toNat_c]; exact hkrb.c))) rfl ?_; clear hF a; intro a hF
            refine svg hF rfl ?_
            refine sv hF (v_move rfl) rfl ?_; clear hF a; intro a hF
            refine svg hF rfl ?_
            refine sv hF (v_ixS sl37 rfl rfl (by omega) (by omega)) rfl ?_; clear hF a; intro a hF
            refine svg hF rfl ?_
            refine sv hF (v_load sc3 rfl (by first | exact hkzb.c | (rw [toNat_c]; exact hkzb.c))) rfl ?_; clear hF a; intro a hF
            refine svg hF rfl ?_
            refine sv hF ((v_neq rfl rfl).as (congrArg Value.bool (decide_eq_false (fun h => h (by rw [hone (by omega)]; rfl))))) rfl ?_; clear hF a; intro a hF
            refine svg hF rfl ?_
            refine sv hF (v_pickT rfl rfl) rfl ?_; clear hF a; intro a hF
            refine sv hF (v_pickF rfl rfl) rfl ?_; clear hF a; intro a hF
            refine WL_nil (hK _ _ ?_)
            clear hK K
            replace hF := hF.sub _ (c_ 89 rfl (c_ 7 rfl (c_ 8 rfl (c_ 9 rfl (c_ 13 rfl (c_ 15 rfl (c_ 16 rfl (n_))))))))
            refine W_ifF hF rfl ?_
            refine W_skip ?_
            refine W_reg rfl (fun K hK => ?_)
            refine sv hF (v_move rfl) rfl ?_; clear hF a; intro a hF
            refine sv hF (v_addI rfl rfl (by omega)) rfl ?_; clear hF a; intro a hF
            refine sv hF (v_assign rfl) rfl ?_; clear hF a; intro a hF
            refine WL_nil (hK _ _ ?_)
            clear hK K
            replace hF := hF.sub _ (c_ 16 rfl (c_ 63 rfl (c_ 62 rfl (c_ 7 rfl (c_ 8 rfl (c_ 9 rfl (c_ 13 rfl (c_ 15 rfl (n_)))))))))
            exact ⟨q2 - 1, by omega, c + 1, hF.sub _ (c_ 7 rfl (c_ 8 rfl (c_ 9 rfl (c_ 13 rfl (c_ 15 rfl (c_ 16 rfl (n_))))))), hS, hX, by omega, by omega⟩
          · clear hF a; intro hc3 a hF
            try simp only [decide_eq_true_eq, decide_eq_false_iff_not, Bool.not_eq_true', Bool.not_eq_false', Bool.not_true, Bool.not_false] at hc3
            refine svg hF rfl ?_
            refine sv hF (v_move rfl) rfl ?_; clear hF a; intro a hF
            refine svg hF rfl ?_
            refine sv hF (v_move rfl) rfl ?_; clear hF a; intro a hF
            refine svg hF rfl ?_
            refine sb hF (v_eql rfl rfl) rfl ?_ ?_
            · clear hF a; intro hc4 a hF
              try simp only [decide_eq_true_eq, decide_eq_false_iff_not, Bool.not_eq_true', Bool.not_eq_false', Bool.not_true, Bool.not_false] at hc4
              refine svg hF rfl ?_
              refine sv hF (v_pickF rfl rfl) rfl ?_; clear hF a; intro a hF
              refine svg hF rfl ?_
              refine sv hF (v_move rfl) rfl ?_; clear hF a; intro a hF
              refine svg hF rfl ?_
              refine sv hF (v_move rfl) rfl ?_; clear hF a; intro a hF
              refine svg hF rfl ?_
              refine sv hF (v_move rfl) rfl ?_; clear hF a; intro a hF
              refine svg hF rfl ?_
              refine sv hF (v_ixS sl28 rfl rfl (by omega) (by omega)) rfl ?_; clear hF a; intro a hF
              refine svg hF rfl ?_
              refine sv hF (v_load sc37 rfl (by first | exact hkrb.c | (rw [toNat_c]; exact hkrb.c))) rfl ?_; clear hF a; intro a hF
              refine svg hF rfl ?_
              refine sv hF (v_move rfl) rfl ?_; clear hF a; intro a hF
              refine svg hF rfl ?_
              refine sv hF (v_ixS sl37 rfl rfl (by omega) (by omega)) rfl ?_; clear hF a; intro a hF
              refine svg hF rfl ?_
              refine sv hF (v_load sc3 rfl (by first | exact hkzb.c | (rw [toNat_c]; exact hkzb.c))) rfl ?_; clear hF a; intro a hF
              refine svg hF rfl ?_
              refine sv hF ((v_neq rfl rfl).as (congrArg Value.bool (decide_eq_false (fun h => h (by rw [hone (by omega)]; rfl))))) rfl ?_; clear hF a; intro a hF
              refine svg hF rfl ?_
              refine sv hF (v_pickT rfl rfl) rfl ?_; clear hF a; intro a hF
              refine sv hF (v_pickF rfl rfl) rfl ?_; clear hF a; intro a hF
              refine WL_nil (hK _ _ ?_)
              clear hK K
              replace hF := hF.sub _ (c_ 89 rfl (c_ 7 rfl (c_ 8 rfl (c_ 9 rfl (c_ 13 rfl (c_ 15 rfl (c_ 16 rfl (n_))))))))
              refine W_ifF hF rfl ?_
              refine W_skip ?_
              refine W_reg rfl (fun K hK => ?_)
              refine sv hF (v_move rfl) rfl ?_; clear hF a; intro a hF
              refine sv hF (v_addI rfl rfl (by omega)) rfl ?_; clear hF a; intro a hF
              refine sv hF (v_assign rfl) rfl ?_; clear hF a; intro a hF
              refine WL_nil (hK _ _ ?_)
              clear hK K
              replace hF := hF.sub _ (c_ 16 rfl (c_ 63 rfl (c_ 62 rfl (c_ 7 rfl (c_ 8 rfl (c_ 9 rfl (c_ 13 rfl (c_ 15 rfl (n_)))))))))
              exact ⟨q2 - 1, by omega, c + 1, hF.sub _ (c_ 7 rfl (c_ 8 rfl (c_ 9 rfl (c_ 13 rfl (c_ 15 rfl (c_ 16 rfl (n_))))))), hS, hX, by omega, by omega⟩
            · clear hF a; intro hc4 a hF
              try simp only [decide_eq_true_eq, decide_eq_false_iff_not, Bool.not_eq_true', Bool.not_eq_false', Bool.not_true, Bool.not_false] at hc4
              refine svg hF rfl ?_
              refine sv hF (v_pickF rfl rfl) rfl ?_; clear hF a; intro a hF
              refine svg hF rfl ?_
              refine sv hF (v_move rfl) rfl ?_; clear hF a; intro a hF
              refine svn hF rfl rfl rfl ?_; clear hF a; intro a hF
              refine svn hF rfl rfl rfl ?_; clear hF a; intro a hF
              refine svn hF rfl rfl rfl ?_; clear hF a; intro a hF
              refine svn hF rfl rfl rfl ?_; clear hF a; intro a hF
              refine svn hF rfl rfl rfl ?_; clear hF a; intro a hF
              refine svn hF rfl rfl rfl ?_; clear hF a; intro a hF
              refine svn hF rfl rfl rfl ?_; clear hF a; intro a hF
              refine svn hF rfl rfl rfl ?_; clear hF a; intro a hF
              refine svg hF rfl ?_
              refine sv hF (v_pickF rfl rfl) rfl ?_; clear hF a; intro a hF
              refine sv hF (v_pickF rfl rfl) rfl ?_; clear hF a; intro a hF
              refine WL_nil (hK _ _ ?_)
              clear hK K
              replace hF := hF.sub _ (c_ 89 rfl (c_ 7 rfl (c_ 8 rfl (c_ 9 rfl (c_ 13 rfl (c_ 15 rfl (c_ 16 rfl (n_))))))))
              refine W_ifF hF rfl ?_
              refine W_skip ?_
              refine W_reg rfl (fun K hK => ?_)
              refine sv hF (v_move rfl) rfl ?_; clear hF a; intro a hF
              refine sv hF (v_addI rfl rfl (by omega)) rfl ?_; clear hF a; intro a hF
              refine sv hF (v_assign rfl) rfl ?_; clear hF a; intro a hF
              refine WL_nil (hK _ _ ?_)
              clear hK K
              replace hF := hF.sub _ (c_ 16 rfl (c_ 63 rfl (c_ 62 rfl (c_ 7 rfl (c_ 8 rfl (c_ 9 rfl (c_ 13 rfl (c_ 15 rfl (n_)))))))))
              exact ⟨q2 - 1, by omega, c + 1, hF.sub _ (c_ 7 rfl (c_ 8 rfl (c_ 9 rfl (c_ 13 rfl (c_ 15 rfl (c_ 16 rfl (n_))))))), hS, hX, by omega, by omega⟩
        · skip
          try simp only [decide_eq_true_eq, decide_eq_false_iff_not, Bool.not_eq_true', Bool.not_eq_false', Bool.not_true, Bool.not_false] at hc2
          refine W_exit rfl ?_
          refine W_reg rfl (fun K hK => ?_)
          refine sv hF (v_move rfl) rfl ?_; clear hF a; intro a hF
          refine sv hF (v_addI rfl rfl (by omega)) rfl ?_; clear hF a; intro a hF
          refine sv hF (v_assign rfl) rfl ?_; clear hF a; intro a hF
          refine WL_nil (hK _ _ ?_)
          clear hK K
          replace hF := hF.sub _ (c_ 15 rfl (c_ 51 rfl (c_ 50 rfl (c_ 7 rfl (c_ 8 rfl (c_ 9 rfl (c_ 13 rfl (c_ 16 rfl (n_)))))))))
          exact ⟨q - 1, by omega, r + 1, hF.sub _ (c_ 7 rfl (c_ 8 rfl (c_ 9 rfl (c_ 13 rfl (c_ 15 rfl (n_)))))), hS, hX, by omega, by omega⟩
    · skip
      try simp only [decide_eq_true_eq, decide_eq_false_iff_not, Bool.not_eq_true', Bool.not_eq_false', Bool.not_true, Bool.not_false] at hc1
      refine W_exit rfl ?_
      refine W_sr rfl (fun K hK => ?_)
      refine sv hF (v_move rfl) rfl ?_; clear hF a; intro a hF
      refine sv hF (v_assign rfl) rfl ?_; clear hF a; intro a hF
      refine WL_nil (hK _ _ ?_)
      clear hK K
      replace hF := hF.sub _ (c_ 6 rfl (c_ 90 rfl (c_ 7 rfl (c_ 8 rfl (c_ 9 rfl (c_ 13 rfl (c_ 15 rfl (n_))))))))
      refine W_ret ?_
      refine ⟨_, _, hF, rfl, ?_⟩
      exact ⟨rfl, hS⟩

end Go.Proofs.Ytaeljbdpjiciaaa
