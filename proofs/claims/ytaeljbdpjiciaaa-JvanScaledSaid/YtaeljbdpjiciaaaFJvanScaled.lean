/- The statement JvanScaled, walked: it returns true. -/
import Derived.Test.YtaeljbdpjiciaaaFAw07
set_option linter.unusedVariables false
set_option linter.unusedSimpArgs false
namespace Go.Proofs.Ytaeljbdpjiciaaa
open Go Go.Gam


namespace FxFJvanScaled
theorem en14 : Ent Try.prog 14 := ent Try.func14 (by kernel_rfl) (by kernel_rfl)
theorem en15 : Ent Try.prog 15 := ent Try.func15 (by kernel_rfl) (by kernel_rfl)
theorem en16 : Ent Try.prog 16 := ent Try.func16 (by kernel_rfl) (by kernel_rfl)
theorem en18 : Ent Try.prog 18 := ent Try.func18 (by kernel_rfl) (by kernel_rfl)
theorem en28 : Ent Try.prog 28 := ent Try.func28 (by kernel_rfl) (by kernel_rfl)
theorem en29 : Ent Try.prog 29 := ent Try.func29 (by kernel_rfl) (by kernel_rfl)
theorem en39 : Ent Try.prog 39 := ent Try.func39 (by kernel_rfl) (by kernel_rfl)
theorem hmix : Try.prog.follows .mixedOrders = true := by kernel_rfl
theorem sc3 : Scalar Try.prog 3 := ⟨_, Try.underlying3, by simp, by simp⟩
theorem sc37 : Scalar Try.prog 37 := ⟨_, Try.underlying37, by simp, by simp⟩
theorem sl27 : Sl Try.prog 27 37 (.slice none 0 0) 24 := sl_of Try.underlying27 rfl (by kernel_rfl)
theorem sl28 : Sl Try.prog 28 37 (.slice none 0 0) 24 := sl_of Try.underlying28 rfl (by kernel_rfl)
theorem sl37 : Sl Try.prog 37 3 (.int .i64 0) 8 := sl_of Try.underlying37 rfl (by kernel_rfl)
end FxFJvanScaled
open FxFJvanScaled

set_option maxRecDepth 100000 in
set_option maxHeartbeats 1000000 in
theorem JvanScaled_ok (B : Nat) (lg : Bool) (n0 n1 : Nat) (w : World) (hI : Inv FDx B w) (hn08 : n0 < 256) (hn18 : n1 < 256) : Ret Try.prog 12 [.bool lg, .int .u8 (n0 : Int), .int .u8 (n1 : Int)] w fun v w' => v = .bool true ∧ St FDx B w w' := by
  refine enter 144 [(0, .bool lg), (1, .int .u8 (n0 : Int)), (2, .int .u8 (n1 : Int))] 6 Try.func12 rfl rfl rfl rfl rfl ?_; intro a hF
  have hS := St.refl hI
  refine W_sr rfl (fun K hK => ?_)
  refine sv hF (v_assign rfl) rfl ?_; clear hF a; intro a hF
  refine WL_nil (hK _ _ ?_)
  clear hK K
  refine W_sr rfl (fun K hK => ?_)
  refine sc hF rfl rfl rfl en14 rfl (aw07_ok B _ hS.inv) ?_; clear hF a; intro v w' a hv hF
  obtain ⟨rfl, hS'⟩ := hv
  replace hS := hS.trans hS'
  clear hS'
  refine sv hF (v_assign rfl) rfl ?_; clear hF a; intro a hF
  refine WL_nil (hK _ _ ?_)
  clear hK K
  replace hF := hF.sub _ (c_ 7 rfl (c_ 6 rfl (c_ 0 rfl (c_ 1 rfl (c_ 2 rfl (n_))))))
  refine W_sr rfl (fun K hK => ?_)
  refine sv hF (v_move rfl) rfl ?_; clear hF a; intro a hF
  refine sv hF (v_cv Try.underlying5 Try.underlying3 rfl (wrap_i64 _ (by omega))) rfl ?_; clear hF a; intro a hF
  refine sv hF (v_remI rfl rfl (by omega) (by omega)) rfl ?_; clear hF a; intro a hF
  refine sv hF (v_addI rfl rfl (by omega)) rfl ?_; clear hF a; intro a hF
  refine sv hF (v_assign rfl) rfl ?_; clear hF a; intro a hF
  refine WL_nil (hK _ _ ?_)
  clear hK K
  replace hF := hF.sub _ (c_ 8 rfl (c_ 7 rfl (c_ 6 rfl (c_ 0 rfl (c_ 2 rfl (n_))))))
  obtain ⟨k1, hk1⟩ : ∃ n : Nat, 1 + (n0 : Int) % 8 = (n : Int) := ⟨1 + n0 % 8, by omega⟩
  have hk12 : 1 ≤ k1 ∧ k1 ≤ 8 := by omega
  rw [hk1] at hF
  refine W_sr rfl (fun K hK => ?_)
  refine sv hF (v_move rfl) rfl ?_; clear hF a; intro a hF
  refine sv hF (v_cv Try.underlying5 Try.underlying3 rfl (wrap_i64 _ (by omega))) rfl ?_; clear hF a; intro a hF
  refine sv hF (v_remI rfl rfl (by omega) (by omega)) rfl ?_; clear hF a; intro a hF
  refine sv hF (v_addI rfl rfl (by omega)) rfl ?_; clear hF a; intro a hF
  refine sv hF (v_assign rfl) rfl ?_; clear hF a; intro a hF
  refine WL_nil (hK _ _ ?_)
  clear hK K
  replace hF := hF.sub _ (c_ 9 rfl (c_ 8 rfl (c_ 7 rfl (c_ 6 rfl (c_ 0 rfl (n_))))))
  obtain ⟨m1, hm1⟩ : ∃ n : Nat, 1 + (n1 : Int) % 4 = (n : Int) := ⟨1 + n1 % 4, by omega⟩
  have hm12 : 1 ≤ m1 ∧ m1 ≤ 4 := by omega
  rw [hm1] at hF
  refine W_sr rfl (fun K hK => ?_)
  refine sv hF (v_move rfl) rfl ?_; clear hF a; intro a hF
  refine sc hF rfl rfl rfl en15 rfl (field7_ok B lg _ hS.inv) ?_; clear hF a; intro v w' a hv hF
  obtain ⟨fv, rfl, hf, hS'⟩ := hv
  obtain ⟨⟨wb, p⟩, hq⟩ : ∃ q, fq lg = q := ⟨_, rfl⟩
  have hq1 : (fq lg).1 = wb := by rw [hq]
  have hq2 : (fq lg).2 = p := by rw [hq]
  rw [hq] at hf
  rw [hq1, hq2] at hF
  clear hq1 hq2
  have hp : Prm wb p := hf.1
  replace hS := hS.trans hS'
  clear hS'
  refine sv hF (v_move rfl) rfl ?_; clear hF a; intro a hF
  refine sv hF (v_ext rfl rfl) rfl ?_; clear hF a; intro a hF
  refine sv hF (v_ext rfl rfl) rfl ?_; clear hF a; intro a hF
  refine sv hF (v_ext rfl rfl) rfl ?_; clear hF a; intro a hF
  refine sv hF (v_assign rfl) rfl ?_; clear hF a; intro a hF
  refine sv hF (v_assign rfl) rfl ?_; clear hF a; intro a hF
  refine sv hF (v_assign rfl) rfl ?_; clear hF a; intro a hF
  refine WL_nil (hK _ _ ?_)
  clear hK K
  replace hF := hF.sub _ (c_ 10 rfl (c_ 9 rfl (c_ 8 rfl (c_ 7 rfl (c_ 6 rfl (n_))))))
  refine W_sr rfl (fun K hK => ?_)
  refine sv hF (v_move rfl) rfl ?_; clear hF a; intro a hF
  refine sv hF (v_move rfl) rfl ?_; clear hF a; intro a hF
  refine sv hF (v_move rfl) rfl ?_; clear hF a; intro a hF
  refine sc hF rfl rfl rfl en16 rfl (Extended_m B (some (wb, p)) fv (k1 : Int) (m1 : Int) _ hS.inv hf) ?_; clear hF a; intro v w' a hv hF
  obtain ⟨obE, uE, rfl, hoE, hS'⟩ := hv
  rw [(extM_is (o := (some (wb, p))) rfl (k := k1) (m := m1) (by omega) (by omega) (by omega))] at hoE hF
  try simp only [Option.getD_some, Option.getD_none] at hoE
  obtain ⟨sE, cE, rfl, hE⟩ := hoE.mat (by decide) (Nat.zero_le _)
  clear hoE
  replace hf := hf.st hS'
  replace hS := hS.trans hS'
  clear hS'
  refine sv hF (v_move rfl) rfl ?_; clear hF a; intro a hF
  refine sv hF (v_ext rfl rfl) rfl ?_; clear hF a; intro a hF
  refine sv hF (v_ext rfl rfl) rfl ?_; clear hF a; intro a hF
  refine sv hF (v_assign rfl) rfl ?_; clear hF a; intro a hF
  refine sv hF (v_assign rfl) rfl ?_; clear hF a; intro a hF
  refine WL_nil (hK _ _ ?_)
  clear hK K
  replace hF := hF.sub _ (c_ 14 rfl (c_ 13 rfl (c_ 10 rfl (c_ 9 rfl (c_ 8 rfl (c_ 7 rfl (c_ 6 rfl (n_))))))))
  refine W_sr rfl (fun K hK => ?_)
  refine sv hF (v_move rfl) rfl ?_; clear hF a; intro a hF
  refine sv hF (v_move rfl) rfl ?_; clear hF a; intro a hF
  refine sv hF (v_move rfl) rfl ?_; clear hF a; intro a hF
  refine sc hF rfl rfl rfl en18 rfl (Parity_fit B wb p hp fv k1 m1 _ hS.inv hf (fitB_ok rfl (by omega) (by omega) (by omega))) ?_; clear hF a; intro v w' a hv hF
  obtain ⟨sX, cX, rfl, hX, hS'⟩ := hv
  replace hf := hf.st hS'
  replace hE := (hE.st hS').mono hS'.ext.size
  replace hS := hS.trans hS'
  clear hS'
  refine sv hF (v_move rfl) rfl ?_; clear hF a; intro a hF
  refine sv hF (v_ext rfl rfl) rfl ?_; clear hF a; intro a hF
  refine sv hF (v_ext rfl rfl) rfl ?_; clear hF a; intro a hF
  refine sv hF (v_assign rfl) rfl ?_; clear hF a; intro a hF
  refine sv hF (v_assign rfl) rfl ?_; clear hF a; intro a hF
  refine WL_nil (hK _ _ ?_)
  clear hK K
  replace hF := hF.sub _ (c_ 16 rfl (c_ 15 rfl (c_ 14 rfl (c_ 13 rfl (c_ 10 rfl (c_ 9 rfl (c_ 8 rfl (c_ 7 rfl (c_ 6 rfl (n_))))))))))
  refine W_seq ?_
  have hel : (tab (k1 + m1) k1 (extT (some (wb, p)) k1 m1)).length = k1 + m1 := tab_length _ _ _
  rw [hel] at hF
  have hcE := hE.capd
  rw [hel] at hcE
  refine W_sr rfl (fun K hK => ?_)
  refine sv hF (v_move rfl) rfl ?_; clear hF a; intro a hF
  refine sv hF ((v_neq rfl rfl).as (congrArg Value.bool (decide_eq_false (fun h => h rfl)))) rfl ?_; clear hF a; intro a hF
  refine sv hF (v_move rfl) rfl ?_; clear hF a; intro a hF
  refine svg hF rfl ?_
  refine sv hF (v_move rfl) rfl ?_; clear hF a; intro a hF
  refine svg hF rfl ?_
  refine sv hF ((v_neq rfl rfl).as (congrArg Value.bool (decide_eq_false (fun h => h rfl)))) rfl ?_; clear hF a; intro a hF
  refine sv hF (v_pickF rfl rfl) rfl ?_; clear hF a; intro a hF
  refine sv hF (v_move rfl) rfl ?_; clear hF a; intro a hF
  refine svg hF rfl ?_
  refine sv hF (v_move rfl) rfl ?_; clear hF a; intro a hF
  refine svg hF rfl ?_
  refine sv hF (v_lenS rfl sl28 rfl) rfl ?_; clear hF a; intro a hF
  refine svg hF rfl ?_
  refine sv hF (v_move rfl) rfl ?_; clear hF a; intro a hF
  refine svg hF rfl ?_
  refine sv hF (v_move rfl) rfl ?_; clear hF a; intro a hF
  refine svg hF rfl ?_
  refine sv hF (v_addI rfl rfl (by omega)) rfl ?_; clear hF a; intro a hF
  refine svg hF rfl ?_
  refine sv hF ((v_neq rfl rfl).as (congrArg Value.bool (decide_eq_false (by omega)))) rfl ?_; clear hF a; intro a hF
  refine sv hF (v_pickF rfl rfl) rfl ?_; clear hF a; intro a hF
  refine sv hF (v_move rfl) rfl ?_; clear hF a; intro a hF
  refine svg hF rfl ?_
  refine sv hF (v_move rfl) rfl ?_; clear hF a; intro a hF
  refine svg hF rfl ?_
  refine sv hF (v_lenS rfl sl28 rfl) rfl ?_; clear hF a; intro a hF
  refine svg hF rfl ?_
  refine sv hF (v_move rfl) rfl ?_; clear hF a; intro a hF
  refine svg hF rfl ?_
  refine sv hF ((v_neq rfl rfl).as (congrArg Value.bool (decide_eq_false (fun h => h rfl)))) rfl ?_; clear hF a; intro a hF
  refine sv hF (v_pickF rfl rfl) rfl ?_; clear hF a; intro a hF
  refine WL_nil (hK _ _ ?_)
  clear hK K
  replace hF := hF.sub _ (c_ 71 rfl (c_ 15 rfl (c_ 13 rfl (c_ 10 rfl (c_ 9 rfl (c_ 8 rfl (c_ 7 rfl (c_ 6 rfl (n_)))))))))
  refine W_ifF hF rfl ?_
  refine W_skip ?_
  obtain ⟨gi, hgi, hinv⟩ := ext_ginv hp (k := k1) (m := m1) (by omega) (by omega) (by omega)
  have hmul := ext_mul hp (k := k1) (m := m1) (by omega) (by omega) (by omega) hgi
  have hE1 := hE.to (b := tab k1 k1 (extT (some (wb, p)) k1 m1)) (hi := k1) (by omega) (tab_take (by omega)).symm
  have hl1 := fun (n : Nat) (f : Tb) (hn : n ≤ 20) => len20 (tab_lens (n := n) (m := k1) (f := f) hn (by omega))
  refine W_sr rfl (fun K hK => ?_)
  refine sv hF (v_move rfl) rfl ?_; clear hF a; intro a hF
  refine sv hF (v_move rfl) rfl ?_; clear hF a; intro a hF
  refine sv hF (v_move rfl) rfl ?_; clear hF a; intro a hF
  refine sv hF (v_slHi sl28 rfl rfl (by omega) (by omega)) rfl ?_; clear hF a; intro a hF
  refine sc hF rfl rfl rfl en28 rfl (Inverse_n B _ wb p hp fv _ _ k1 (tab k1 k1 (extT (some (wb, p)) k1 m1)) _ hS.inv (Nat.le_refl _) hf hE1 (hl1 _ _ (by omega)).1 (hl1 _ _ (by omega)).2 (tab_length _ _ _)) ?_; clear hF a; intro v w' a hv hF
  obtain ⟨obY, uY, rfl, hoY, hS'⟩ := hv
  rw [hinv] at hoY hF
  dsimp only at hoY hF
  obtain ⟨sY, cY, rfl, hY⟩ := hoY.mat (by decide) (Nat.zero_le _)
  clear hoY
  replace hf := hf.st hS'
  replace hE := (hE.st hS').mono hS'.ext.size
  replace hX := (hX.st hS').mono hS'.ext.size
  replace hS := hS.trans hS'
  clear hS'
  clear hE1
  refine sv hF (v_move rfl) rfl ?_; clear hF a; intro a hF
  refine sv hF (v_ext rfl rfl) rfl ?_; clear hF a; intro a hF
  refine sv hF (v_ext rfl rfl) rfl ?_; clear hF a; intro a hF
  refine sv hF (v_assign rfl) rfl ?_; clear hF a; intro a hF
  refine sv hF (v_assign rfl) rfl ?_; clear hF a; intro a hF
  refine WL_nil (hK _ _ ?_)
  clear hK K
  replace hF := hF.sub _ (c_ 18 rfl (c_ 17 rfl (c_ 15 rfl (c_ 13 rfl (c_ 10 rfl (c_ 9 rfl (c_ 8 rfl (c_ 7 rfl (c_ 6 rfl (n_))))))))))
  have hE2 := hE.from (lo := k1) (b := tab m1 k1 fun i j => (extT (some (wb, p)) k1 m1) (k1 + i) j) (by rw [tab_length]; omega) (by rw [tab_drop (by omega), Nat.add_sub_cancel_left])
  have hil : (tab k1 k1 gi).length = k1 := tab_length _ _ _
  have hel2 : (tab m1 k1 fun i j => (extT (some (wb, p)) k1 m1) (k1 + i) j).length = m1 := tab_length _ _ _
  refine W_sr rfl (fun K hK => ?_)
  refine sv hF (v_move rfl) rfl ?_; clear hF a; intro a hF
  refine sv hF (v_move rfl) rfl ?_; clear hF a; intro a hF
  refine sv hF (v_move rfl) rfl ?_; clear hF a; intro a hF
  refine sv hF (v_slLo sl28 rfl rfl (by omega) (by omega)) rfl ?_; clear hF a; intro a hF
  rw [show k1 + m1 - k1 = (tab m1 k1 fun i j => (extT (some (wb, p)) k1 m1) (k1 + i) j).length by rw [hel2]; omega] at hF
  refine sv hF (v_move rfl) rfl ?_; clear hF a; intro a hF
  refine sc hF rfl rfl rfl en39 rfl (MulM_ok B _ (some (wb, p)) fv _ _ (tab m1 k1 fun i j => (extT (some (wb, p)) k1 m1) (k1 + i) j) _ _ (tab k1 k1 gi) _ hS.inv (Nat.le_refl _) hf hE2 (hl1 _ _ (by omega)).1 (hl1 _ _ (by omega)).2 hY (hl1 _ _ (by omega)).1 (hl1 _ _ (by omega)).2) ?_; clear hF a; intro v w' a hv hF
  obtain ⟨obT, uT, rfl, hoT, hS'⟩ := hv
  rw [hmul] at hoT hF
  try simp only [Option.getD_some, Option.getD_none] at hoT
  obtain ⟨sT, cT, rfl, hT⟩ := hoT.mat (by decide) (Nat.zero_le _)
  clear hoT
  replace hf := hf.st hS'
  replace hE := (hE.st hS').mono hS'.ext.size
  replace hX := (hX.st hS').mono hS'.ext.size
  replace hY := (hY.st hS').mono hS'.ext.size
  replace hS := hS.trans hS'
  clear hS'
  clear hE2
  refine sv hF (v_move rfl) rfl ?_; clear hF a; intro a hF
  refine sv hF (v_ext rfl rfl) rfl ?_; clear hF a; intro a hF
  refine sv hF (v_ext rfl rfl) rfl ?_; clear hF a; intro a hF
  refine sv hF (v_assign rfl) rfl ?_; clear hF a; intro a hF
  refine sv hF (v_assign rfl) rfl ?_; clear hF a; intro a hF
  refine WL_nil (hK _ _ ?_)
  clear hK K
  replace hF := hF.sub _ (c_ 20 rfl (c_ 19 rfl (c_ 18 rfl (c_ 15 rfl (c_ 10 rfl (c_ 9 rfl (c_ 8 rfl (c_ 7 rfl (c_ 6 rfl (n_))))))))))
  have hstl : (tab m1 k1 (jG hp k1 m1)).length = m1 := tab_length _ _ _
  rw [hstl] at hF
  refine W_seq ?_
  refine W_sr rfl (fun K hK => ?_)
  refine sv hF (v_move rfl) rfl ?_; clear hF a; intro a hF
  refine sv hF ((v_neq rfl rfl).as (congrArg Value.bool (decide_eq_false (fun h => h rfl)))) rfl ?_; clear hF a; intro a hF
  refine sv hF (v_move rfl) rfl ?_; clear hF a; intro a hF
  refine svg hF rfl ?_
  refine sv hF (v_move rfl) rfl ?_; clear hF a; intro a hF
  refine svg hF rfl ?_
  refine sv hF ((v_neq rfl rfl).as (congrArg Value.bool (decide_eq_false (fun h => h rfl)))) rfl ?_; clear hF a; intro a hF
  refine sv hF (v_pickF rfl rfl) rfl ?_; clear hF a; intro a hF
  refine WL_nil (hK _ _ ?_)
  clear hK K
  replace hF := hF.sub _ (c_ 94 rfl (c_ 19 rfl (c_ 15 rfl (c_ 10 rfl (c_ 9 rfl (c_ 8 rfl (c_ 7 rfl (c_ 6 rfl (n_)))))))))
  refine W_ifF hF rfl ?_
  refine W_skip ?_
  refine W_seq ?_
  obtain ⟨gs, os, hgs⟩ : ∃ g o, sX = some ⟨g, o, none⟩ := by
    obtain ⟨g, o, pr, cr, hg, -⟩ := hX.row (tab_at (f := (parT hp k1 m1)) (m := k1) (i := 0) (show 0 < m1 by omega))
    exact ⟨_, _, hg⟩
  subst hgs
  obtain ⟨gt, ot, hgt⟩ : ∃ g o, sT = some ⟨g, o, none⟩ := by
    obtain ⟨g, o, pr, cr, hg, -⟩ := hT.row (tab_at (f := (jG hp k1 m1)) (m := k1) (i := 0) (show 0 < m1 by omega))
    exact ⟨_, _, hg⟩
  subst hgt
  have hfw := hp.fld_w
  refine W_sr rfl (fun K hK => ?_)
  refine sv hF (v_assign rfl) rfl ?_; clear hF a; intro a hF
  refine WL_nil (hK _ _ ?_)
  clear hK K
  replace hF := hF.sub _ (c_ 21 rfl (c_ 19 rfl (c_ 15 rfl (c_ 10 rfl (c_ 9 rfl (c_ 8 rfl (c_ 7 rfl (c_ 6 rfl (n_)))))))))
  refine W_block ?_
  refine W_loop (fun q a w1 => ∃ (r : Nat), Fr 144 [(7, .bool true), (8, .int .i64 (k1 : Int)), (9, .int .i64 (m1 : Int)), (10, fv), (15, .slice (some ⟨gs, os, none⟩) m1 cX), (19, .slice (some ⟨gt, ot, none⟩) m1 cT), (21, .int .i64 (r : Int))] a ∧ (St FDx B w w1) ∧ (Fo FDx B w1 fv (some (wb, p))) ∧ (Mat FDx B w1.heap.size w1 (some ⟨gs, os, none⟩) cX (tab m1 k1 (parT hp k1 m1))) ∧ (Mat FDx B w1.heap.size w1 (some ⟨gt, ot, none⟩) cT (tab m1 k1 (jG hp k1 m1))) ∧ (r ≤ m1) ∧ (q + r = m1)) (m1) ?_ ?_
  · skip
    exact ⟨0, hF.sub _ (c_ 7 rfl (c_ 8 rfl (c_ 9 rfl (c_ 10 rfl (c_ 15 rfl (c_ 19 rfl (c_ 21 rfl (n_)))))))), hS, hf, hX, hT, by omega, by omega⟩
  · skip
    clear hF
    clear hS hf hX hT
    rintro q a w1 ⟨r, hF, hS, hf, hX, hT, hr, hq⟩
    refine W_seq ?_
    refine W_sr rfl (fun K hK => ?_)
    refine sv hF (v_move rfl) rfl ?_; clear hF a; intro a hF
    refine sv hF (v_move rfl) rfl ?_; clear hF a; intro a hF
    refine sv hF (v_lss rfl rfl) rfl ?_; clear hF a; intro a hF
    refine WL_nil (hK _ _ ?_)
    clear hK K
    replace hF := hF.sub _ (c_ 97 rfl (c_ 7 rfl (c_ 8 rfl (c_ 9 rfl (c_ 10 rfl (c_ 15 rfl (c_ 19 rfl (c_ 21 rfl (n_)))))))))
    refine W_if hF rfl (fun hc1 => ?_) (fun hc1 => ?_)
    · skip
      try simp only [decide_eq_true_eq, decide_eq_false_iff_not, Bool.not_eq_true', Bool.not_eq_false', Bool.not_true, Bool.not_false] at hc1
      have hrm : r < m1 := by omega
      refine W_skip ?_
      refine W_seq ?_
      refine W_block ?_
      refine W_sr rfl (fun K hK => ?_)
      refine sv hF (v_assign rfl) rfl ?_; clear hF a; intro a hF
      refine WL_nil (hK _ _ ?_)
      clear hK K
      replace hF := hF.sub _ (c_ 22 rfl (c_ 7 rfl (c_ 8 rfl (c_ 9 rfl (c_ 10 rfl (c_ 15 rfl (c_ 19 rfl (c_ 21 rfl (n_)))))))))
      refine W_block ?_
      refine W_loop (fun q2 a w2 => ∃ (c : Nat), Fr 144 [(7, .bool true), (8, .int .i64 (k1 : Int)), (9, .int .i64 (m1 : Int)), (10, fv), (15, .slice (some ⟨gs, os, none⟩) m1 cX), (19, .slice (some ⟨gt, ot, none⟩) m1 cT), (21, .int .i64 (r : Int)), (22, .int .i64 (c : Int))] a ∧ (St FDx B w w2) ∧ (Fo FDx B w2 fv (some (wb, p))) ∧ (Mat FDx B w2.heap.size w2 (some ⟨gs, os, none⟩) cX (tab m1 k1 (parT hp k1 m1))) ∧ (Mat FDx B w2.heap.size w2 (some ⟨gt, ot, none⟩) cT (tab m1 k1 (jG hp k1 m1))) ∧ (c ≤ k1) ∧ (q2 + c = k1)) (k1) ?_ ?_
      · skip
        exact ⟨0, hF.sub _ (c_ 7 rfl (c_ 8 rfl (c_ 9 rfl (c_ 10 rfl (c_ 15 rfl (c_ 19 rfl (c_ 21 rfl (c_ 22 rfl (n_))))))))), hS, hf, hX, hT, by omega, by omega⟩
      · skip
        clear hF
        clear hS hf hX hT
        rintro q2 a w2 ⟨c, hF, hS, hf, hX, hT, hc, hq2⟩
        refine W_seq ?_
        refine W_sr rfl (fun K hK => ?_)
        refine sv hF (v_move rfl) rfl ?_; clear hF a; intro a hF
        refine sv hF (v_move rfl) rfl ?_; clear hF a; intro a hF
        refine sv hF (v_lss rfl rfl) rfl ?_; clear hF a; intro a hF
        refine WL_nil (hK _ _ ?_)
        clear hK K
        replace hF := hF.sub _ (c_ 102 rfl (c_ 7 rfl (c_ 8 rfl (c_ 9 rfl (c_ 10 rfl (c_ 15 rfl (c_ 19 rfl (c_ 21 rfl (c_ 22 rfl (n_))))))))))
        refine W_if hF rfl (fun hc2 => ?_) (fun hc2 => ?_)
        · skip
          try simp only [decide_eq_true_eq, decide_eq_false_iff_not, Bool.not_eq_true', Bool.not_eq_false', Bool.not_true, Bool.not_false] at hc2
          have hck : c < k1 := by omega
          have hb1 := parT_bd hp k1 m1 r c
          rw [hfw] at hb1
          have hb2 := jG_bd hp k1 m1 0 c
          rw [hfw] at hb2
          have hb3 := jG_bd hp k1 m1 r 0
          rw [hfw] at hb3
          have hb4 := jG_bd hp k1 m1 r c
          rw [hfw] at hb4
          have hb5 := jG_bd hp k1 m1 0 0
          rw [hfw] at hb5
          have hb6 := hp.fld.lt (jG hp k1 m1 0 c) (jG hp k1 m1 r 0)
          rw [hfw] at hb6
          have hsid := scaled_id hp (k := k1) (m := m1) (by omega) (by omega) (by omega) hrm hck
          refine W_skip ?_
          refine W_seq ?_
          refine W_block ?_
          refine W_sd (m := 38) rfl hmix hS.inv (fun K hK w1 hS' hh => ?_)
          replace hf := hf.st hS'
          replace hX := (hX.st hS').mono hS'.ext.size
          replace hT := (hT.st hS').mono hS'.ext.size
          replace hS := hS.trans hS'
          clear hS'
          clear hh
          obtain ⟨ga, oa, pra, cra, hga, hkra, hrowa, -⟩ := hX.row (tab_at (f := (parT hp k1 m1)) (m := k1) (i := r) hrm)
          cases hga
          have hrla : ((List.range k1).map fun j => (((parT hp k1 m1) r j : Nat) : Int)).length = k1 := by simp
          obtain ⟨gza, oza, hgza, hkza, -⟩ := hrowa.kat (zints_at (trow_at (m := k1) (f := (parT hp k1 m1)) (i := r) (j := c) (by omega)))
          cases hgza
          rw [hrla] at hkra
          obtain ⟨gb, ob, prb, crb, hgb, hkrb, hrowb, -⟩ := hT.row (tab_at (f := (jG hp k1 m1)) (m := k1) (i := 0) (show 0 < m1 by omega))
          cases hgb
          have hrlb : ((List.range k1).map fun j => (((jG hp k1 m1) 0 j : Nat) : Int)).length = k1 := by simp
          obtain ⟨gzb, ozb, hgzb, hkzb, -⟩ := hrowb.kat (zints_at (trow_at (m := k1) (f := (jG hp k1 m1)) (i := 0) (j := c) (by omega)))
          cases hgzb
          rw [hrlb] at hkrb
          obtain ⟨gd, od, prd, crd, hgd, hkrd, hrowd, -⟩ := hT.row (tab_at (f := (jG hp k1 m1)) (m := k1) (i := r) hrm)
          cases hgd
          have hrld : ((List.range k1).map fun j => (((jG hp k1 m1) r j : Nat) : Int)).length = k1 := by simp
          obtain ⟨gzd, ozd, hgzd, hkzd, -⟩ := hrowd.kat (zints_at (trow_at (m := k1) (f := (jG hp k1 m1)) (i := r) (j := 0) (by omega)))
          cases hgzd
          rw [hrld] at hkrd
          obtain ⟨gze, oze, hgze, hkze, -⟩ := hrowd.kat (zints_at (trow_at (m := k1) (f := (jG hp k1 m1)) (i := r) (j := c) (by omega)))
          cases hgze
          obtain ⟨gzf, ozf, hgzf, hkzf, -⟩ := hrowb.kat (zints_at (trow_at (m := k1) (f := (jG hp k1 m1)) (i := 0) (j := 0) (by omega)))
          cases hgzf
          refine a_v (i := 0) rfl (by kernel_rfl) hF (fun w2 hx => v_move rfl) rfl ?_; clear hF a; intro a hF
          refine a_v (i := 1) rfl (by kernel_rfl) hF (fun w2 hx => v_move rfl) rfl ?_; clear hF a; intro a hF
          refine a_v (i := 2) rfl (by kernel_rfl) hF (fun w2 hx => v_move rfl) rfl ?_; clear hF a; intro a hF
          refine a_v (i := 3) rfl (by kernel_rfl) hF (fun w2 hx => v_ixS sl28 rfl rfl (by omega) (by omega)) rfl ?_; clear hF a; intro a hF
          refine a_v (i := 4) rfl (by kernel_rfl) hF (fun w2 hx => v_load sc37 rfl (by first | exact hkra.ld hx | (rw [toNat_c]; exact hkra.ld hx))) rfl ?_; clear hF a; intro a hF
          refine a_v (i := 5) rfl (by kernel_rfl) hF (fun w2 hx => v_move rfl) rfl ?_; clear hF a; intro a hF
          refine a_v (i := 6) rfl (by kernel_rfl) hF (fun w2 hx => v_ixS sl37 rfl rfl (by omega) (by omega)) rfl ?_; clear hF a; intro a hF
          refine a_v (i := 7) rfl (by kernel_rfl) hF (fun w2 hx => v_load sc3 rfl (by first | exact hkza.ld hx | (rw [toNat_c]; exact hkza.ld hx))) rfl ?_; clear hF a; intro a hF
          refine a_v (i := 8) rfl (by kernel_rfl) hF (fun w2 hx => v_move rfl) rfl ?_; clear hF a; intro a hF
          refine a_v (i := 9) rfl (by kernel_rfl) hF (fun w2 hx => v_move rfl) rfl ?_; clear hF a; intro a hF
          refine a_v (i := 10) rfl (by kernel_rfl) hF (fun w2 hx => v_ixS sl28 rfl rfl (by decide) (by omega)) rfl ?_; clear hF a; intro a hF
          refine a_v (i := 11) rfl (by kernel_rfl) hF (fun w2 hx => v_load sc37 rfl (by first | exact hkrb.ld hx | (rw [toNat_c]; exact hkrb.ld hx))) rfl ?_; clear hF a; intro a hF
          refine a_v (i := 12) rfl (by kernel_rfl) hF (fun w2 hx => v_move rfl) rfl ?_; clear hF a; intro a hF
          refine a_v (i := 13) rfl (by kernel_rfl) hF (fun w2 hx => v_ixS sl37 rfl rfl (by omega) (by omega)) rfl ?_; clear hF a; intro a hF
          refine a_v (i := 14) rfl (by kernel_rfl) hF (fun w2 hx => v_load sc3 rfl (by first | exact hkzb.ld hx | (rw [toNat_c]; exact hkzb.ld hx))) rfl ?_; clear hF a; intro a hF
          refine a_v (i := 15) rfl (by kernel_rfl) hF (fun w2 hx => v_move rfl) rfl ?_; clear hF a; intro a hF
          refine a_v (i := 16) rfl (by kernel_rfl) hF (fun w2 hx => v_move rfl) rfl ?_; clear hF a; intro a hF
          refine a_v (i := 17) rfl (by kernel_rfl) hF (fun w2 hx => v_ixS sl28 rfl rfl (by omega) (by omega)) rfl ?_; clear hF a; intro a hF
          refine a_v (i := 18) rfl (by kernel_rfl) hF (fun w2 hx => v_load sc37 rfl (by first | exact hkrd.ld hx | (rw [toNat_c]; exact hkrd.ld hx))) rfl ?_; clear hF a; intro a hF
          refine a_v (i := 19) rfl (by kernel_rfl) hF (fun w2 hx => v_ixS sl37 rfl rfl (by decide) (by omega)) rfl ?_; clear hF a; intro a hF
          refine a_v (i := 20) rfl (by kernel_rfl) hF (fun w2 hx => v_load sc3 rfl (by first | exact hkzd.ld hx | (rw [toNat_c]; exact hkzd.ld hx))) rfl ?_; clear hF a; intro a hF
          refine a_v (i := 23) rfl (by kernel_rfl) hF (fun w2 hx => v_move rfl) rfl ?_; clear hF a; intro a hF
          refine a_v (i := 24) rfl (by kernel_rfl) hF (fun w2 hx => v_move rfl) rfl ?_; clear hF a; intro a hF
          refine a_v (i := 25) rfl (by kernel_rfl) hF (fun w2 hx => v_move rfl) rfl ?_; clear hF a; intro a hF
          refine a_v (i := 26) rfl (by kernel_rfl) hF (fun w2 hx => v_ixS sl28 rfl rfl (by omega) (by omega)) rfl ?_; clear hF a; intro a hF
          refine a_v (i := 27) rfl (by kernel_rfl) hF (fun w2 hx => v_load sc37 rfl (by first | exact hkrd.ld hx | (rw [toNat_c]; exact hkrd.ld hx))) rfl ?_; clear hF a; intro a hF
          refine a_v (i := 28) rfl (by kernel_rfl) hF (fun w2 hx => v_move rfl) rfl ?_; clear hF a; intro a hF
          refine a_v (i := 29) rfl (by kernel_rfl) hF (fun w2 hx => v_ixS sl37 rfl rfl (by omega) (by omega)) rfl ?_; clear hF a; intro a hF
          refine a_v (i := 30) rfl (by kernel_rfl) hF (fun w2 hx => v_load sc3 rfl (by first | exact hkze.ld hx | (rw [toNat_c]; exact hkze.ld hx))) rfl ?_; clear hF a; intro a hF
          refine a_v (i := 31) rfl (by kernel_rfl) hF (fun w2 hx => v_move rfl) rfl ?_; clear hF a; intro a hF
          refine a_v (i := 32) rfl (by kernel_rfl) hF (fun w2 hx => v_ixS sl28 rfl rfl (by decide) (by omega)) rfl ?_; clear hF a; intro a hF
          refine a_v (i := 33) rfl (by kernel_rfl) hF (fun w2 hx => v_load sc37 rfl (by first | exact hkrb.ld hx | (rw [toNat_c]; exact hkrb.ld hx))) rfl ?_; clear hF a; intro a hF
          refine a_v (i := 34) rfl (by kernel_rfl) hF (fun w2 hx => v_ixS sl37 rfl rfl (by decide) (by omega)) rfl ?_; clear hF a; intro a hF
          refine a_v (i := 35) rfl (by kernel_rfl) hF (fun w2 hx => v_load sc3 rfl (by first | exact hkzf.ld hx | (rw [toNat_c]; exact hkzf.ld hx))) rfl ?_; clear hF a; intro a hF
          refine a_e (i := 21) rfl (by kernel_rfl) ?_
          refine sc hF rfl rfl rfl en29 rfl (Mul_gf B (some (wb, p)) fv ((jG hp k1 m1 0 c : Nat) : Int) ((jG hp k1 m1 r 0 : Nat) : Int) _ hS.inv hf) ?_; clear hF a; intro v w' a hv hF
          obtain ⟨rfl, hS'⟩ := hv
          refine WL_nil ⟨hS'.ext, ?_⟩
          replace hf := hf.st hS'
          replace hX := (hX.st hS').mono hS'.ext.size
          replace hT := (hT.st hS').mono hS'.ext.size
          replace hS := hS.trans hS'
          clear hS'
          rw [gmul_num hp hb2 hb3] at hF
          refine a_e (i := 22) rfl (by kernel_rfl) ?_
          refine sc hF rfl rfl rfl en29 rfl (Mul_gf B (some (wb, p)) fv ((parT hp k1 m1 r c : Nat) : Int) ((hp.fld.mul (jG hp k1 m1 0 c) (jG hp k1 m1 r 0) : Nat) : Int) _ hS.inv hf) ?_; clear hF a; intro v w' a hv hF
          obtain ⟨rfl, hS'⟩ := hv
          refine WL_nil ⟨hS'.ext, ?_⟩
          replace hf := hf.st hS'
          replace hX := (hX.st hS').mono hS'.ext.size
          replace hT := (hT.st hS').mono hS'.ext.size
          replace hS := hS.trans hS'
          clear hS'
          rw [gmul_num hp hb1 hb6] at hF
          refine a_e (i := 36) rfl (by kernel_rfl) ?_
          refine sc hF rfl rfl rfl en29 rfl (Mul_gf B (some (wb, p)) fv ((jG hp k1 m1 r c : Nat) : Int) ((jG hp k1 m1 0 0 : Nat) : Int) _ hS.inv hf) ?_; clear hF a; intro v w' a hv hF
          obtain ⟨rfl, hS'⟩ := hv
          refine WL_nil ⟨hS'.ext, ?_⟩
          replace hf := hf.st hS'
          replace hX := (hX.st hS').mono hS'.ext.size
          replace hT := (hT.st hS').mono hS'.ext.size
          replace hS := hS.trans hS'
          clear hS'
          rw [gmul_num hp hb4 hb5] at hF
          refine a_v (i := 37) rfl (by kernel_rfl) hF (fun w2 hx => (v_neq rfl rfl).as (congrArg Value.bool (decide_eq_false (fun h => h (by rw [hsid]))))) rfl ?_; clear hF a; intro a hF
          refine a_done (by kernel_rfl) (hK _ _ ?_)
          clear hK K
          replace hF := hF.sub _ (c_ 142 rfl (c_ 7 rfl (c_ 8 rfl (c_ 9 rfl (c_ 10 rfl (c_ 15 rfl (c_ 19 rfl (c_ 21 rfl (c_ 22 rfl (n_))))))))))
          refine W_ifF hF rfl ?_
          refine W_skip ?_
          refine W_reg rfl (fun K hK => ?_)
          refine sv hF (v_move rfl) rfl ?_; clear hF a; intro a hF
          refine sv hF (v_addI rfl rfl (by omega)) rfl ?_; clear hF a; intro a hF
          refine sv hF (v_assign rfl) rfl ?_; clear hF a; intro a hF
          refine WL_nil (hK _ _ ?_)
          clear hK K
          replace hF := hF.sub _ (c_ 22 rfl (c_ 104 rfl (c_ 103 rfl (c_ 7 rfl (c_ 8 rfl (c_ 9 rfl (c_ 10 rfl (c_ 15 rfl (c_ 19 rfl (c_ 21 rfl (n_)))))))))))
          exact ⟨q2 - 1, by omega, c + 1, hF.sub _ (c_ 7 rfl (c_ 8 rfl (c_ 9 rfl (c_ 10 rfl (c_ 15 rfl (c_ 19 rfl (c_ 21 rfl (c_ 22 rfl (n_))))))))), hS, hf, hX, hT, by omega, by omega⟩
        · skip
          try simp only [decide_eq_true_eq, decide_eq_false_iff_not, Bool.not_eq_true', Bool.not_eq_false', Bool.not_true, Bool.not_false] at hc2
          refine W_exit rfl ?_
          refine W_reg rfl (fun K hK => ?_)
          refine sv hF (v_move rfl) rfl ?_; clear hF a; intro a hF
          refine sv hF (v_addI rfl rfl (by omega)) rfl ?_; clear hF a; intro a hF
          refine sv hF (v_assign rfl) rfl ?_; clear hF a; intro a hF
          refine WL_nil (hK _ _ ?_)
          clear hK K
          replace hF := hF.sub _ (c_ 21 rfl (c_ 99 rfl (c_ 98 rfl (c_ 7 rfl (c_ 8 rfl (c_ 9 rfl (c_ 10 rfl (c_ 15 rfl (c_ 19 rfl (c_ 22 rfl (n_)))))))))))
          exact ⟨q - 1, by omega, r + 1, hF.sub _ (c_ 7 rfl (c_ 8 rfl (c_ 9 rfl (c_ 10 rfl (c_ 15 rfl (c_ 19 rfl (c_ 21 rfl (n_)))))))), hS, hf, hX, hT, by omega, by omega⟩
    · skip
      try simp only [decide_eq_true_eq, decide_eq_false_iff_not, Bool.not_eq_true', Bool.not_eq_false', Bool.not_true, Bool.not_false] at hc1
      refine W_exit rfl ?_
      refine W_sr rfl (fun K hK => ?_)
      refine sv hF (v_move rfl) rfl ?_; clear hF a; intro a hF
      refine sv hF (v_assign rfl) rfl ?_; clear hF a; intro a hF
      refine WL_nil (hK _ _ ?_)
      clear hK K
      replace hF := hF.sub _ (c_ 6 rfl (c_ 143 rfl (c_ 7 rfl (c_ 8 rfl (c_ 9 rfl (c_ 10 rfl (c_ 15 rfl (c_ 19 rfl (c_ 21 rfl (n_))))))))))
      refine W_ret ?_
      refine ⟨_, _, hF, rfl, ?_⟩
      exact ⟨rfl, hS⟩

end Go.Proofs.Ytaeljbdpjiciaaa
