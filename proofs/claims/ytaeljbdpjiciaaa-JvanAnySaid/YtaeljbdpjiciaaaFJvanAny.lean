/- The statement JvanAny, walked: it returns true. -/
import Derived.Test.YtaeljbdpjiciaaaFAw07
set_option linter.unusedVariables false
set_option linter.unusedSimpArgs false
namespace Go.Proofs.Ytaeljbdpjiciaaa
open Go Go.Gam


namespace FxFJvanAny
theorem en14 : Ent Try.prog 14 := ent Try.func14 (by kernel_rfl) (by kernel_rfl)
theorem en15 : Ent Try.prog 15 := ent Try.func15 (by kernel_rfl) (by kernel_rfl)
theorem en18 : Ent Try.prog 18 := ent Try.func18 (by kernel_rfl) (by kernel_rfl)
theorem en28 : Ent Try.prog 28 := ent Try.func28 (by kernel_rfl) (by kernel_rfl)
theorem en30 : Ent Try.prog 30 := ent Try.func30 (by kernel_rfl) (by kernel_rfl)
theorem en31 : Ent Try.prog 31 := ent Try.func31 (by kernel_rfl) (by kernel_rfl)
theorem en32 : Ent Try.prog 32 := ent Try.func32 (by kernel_rfl) (by kernel_rfl)
theorem en38 : Ent Try.prog 38 := ent Try.func38 (by kernel_rfl) (by kernel_rfl)
theorem ar53 : ArrOf Try.prog 53 2 := ar_of Try.underlying53 (by kernel_rfl)
theorem sc37 : Scalar Try.prog 37 := ⟨_, Try.underlying37, by simp, by simp⟩
theorem sc5 : Scalar Try.prog 5 := ⟨_, Try.underlying5, by simp, by simp⟩
theorem sl27 : Sl Try.prog 27 37 (.slice none 0 0) 24 := sl_of Try.underlying27 rfl (by kernel_rfl)
theorem sl28 : Sl Try.prog 28 37 (.slice none 0 0) 24 := sl_of Try.underlying28 rfl (by kernel_rfl)
theorem sl37 : Sl Try.prog 37 3 (.int .i64 0) 8 := sl_of Try.underlying37 rfl (by kernel_rfl)
end FxFJvanAny
open FxFJvanAny

set_option maxRecDepth 100000 in
set_option maxHeartbeats 1000000 in
theorem JvanAny_ok (B : Nat) (lg : Bool) (n0 n1 h0 h1 : Nat) (w : World) (hI : Inv FDx B w) (hn08 : n0 < 256) (hn18 : n1 < 256) (hh08 : h0 < 256) (hh18 : h1 < 256) : Ret Try.prog 11 [.bool lg, .agg #[.int .u8 (n0 : Int), .int .u8 (n1 : Int)], .agg #[.int .u8 (h0 : Int), .int .u8 (h1 : Int)]] w fun v w' => v = .bool true ∧ St FDx B w w' := by
  refine enter 101 [(0, .bool lg), (1, .agg #[.int .u8 (n0 : Int), .int .u8 (n1 : Int)]), (2, .agg #[.int .u8 (h0 : Int), .int .u8 (h1 : Int)])] 6 Try.func11 rfl rfl rfl rfl rfl ?_; intro a hF
  have hS := St.refl hI
  refine W_sr rfl (fun K hK => ?_)
  refine s_box (D := FDx) (B := B) hF rfl (by decide) hS.inv rfl ?_; clear hF a; intro w' a hm hbx hsz hF
  replace hS := hS.mb0 hm
  clear hm
  refine s_box (D := FDx) (B := B) hF rfl (by decide) hS.inv rfl ?_; clear hF a; intro w' a hm hby hsz hF
  replace hbx := hbx.mb hm (by simp)
  replace hS := hS.mb0 hm
  clear hm
  refine sv hF (v_assign rfl) rfl ?_; clear hF a; intro a hF
  refine WL_nil (hK _ _ ?_)
  clear hK K
  replace hF := hF.sub _ (c_ 6 rfl (c_ 5 rfl (c_ 4 rfl (c_ 0 rfl (n_)))))
  refine W_sr rfl (fun K hK => ?_)
  refine sc hF rfl rfl rfl en14 rfl (aw07_ok B _ hS.inv) ?_; clear hF a; intro v w' a hv hF
  obtain ⟨rfl, hS'⟩ := hv
  replace hbx := hbx.st (by decide) hS'
  replace hby := hby.st (by decide) hS'
  replace hS := hS.trans hS'
  clear hS'
  refine sv hF (v_assign rfl) rfl ?_; clear hF a; intro a hF
  refine WL_nil (hK _ _ ?_)
  clear hK K
  replace hF := hF.sub _ (c_ 7 rfl (c_ 6 rfl (c_ 5 rfl (c_ 4 rfl (c_ 0 rfl (n_))))))
  refine W_sr rfl (fun K hK => ?_)
  refine sv hF (v_ixA ar53 rfl rfl (by omega) (by omega)) rfl ?_; clear hF a; intro a hF
  refine sv hF (v_load sc5 rfl (hbx.at 0 rfl)) rfl ?_; clear hF a; intro a hF
  refine sv hF (v_cv Try.underlying5 Try.underlying3 rfl (wrap_i64 _ (by omega))) rfl ?_; clear hF a; intro a hF
  refine sv hF (v_remI rfl rfl (by omega) (by omega)) rfl ?_; clear hF a; intro a hF
  refine sv hF (v_addI rfl rfl (by omega)) rfl ?_; clear hF a; intro a hF
  refine sv hF (v_assign rfl) rfl ?_; clear hF a; intro a hF
  refine WL_nil (hK _ _ ?_)
  clear hK K
  replace hF := hF.sub _ (c_ 8 rfl (c_ 7 rfl (c_ 6 rfl (c_ 5 rfl (c_ 4 rfl (c_ 0 rfl (n_)))))))
  obtain ⟨k1, hk1⟩ : ∃ n : Nat, 1 + (n0 : Int) % 8 = (n : Int) := ⟨1 + n0 % 8, by omega⟩
  have hk12 : 1 ≤ k1 ∧ k1 ≤ 8 := by omega
  rw [hk1] at hF
  refine W_sr rfl (fun K hK => ?_)
  refine sv hF (v_ixA ar53 rfl rfl (by omega) (by omega)) rfl ?_; clear hF a; intro a hF
  refine sv hF (v_load sc5 rfl (hbx.at 1 rfl)) rfl ?_; clear hF a; intro a hF
  refine sv hF (v_cv Try.underlying5 Try.underlying3 rfl (wrap_i64 _ (by omega))) rfl ?_; clear hF a; intro a hF
  refine sv hF (v_remI rfl rfl (by omega) (by omega)) rfl ?_; clear hF a; intro a hF
  refine sv hF (v_addI rfl rfl (by omega)) rfl ?_; clear hF a; intro a hF
  refine sv hF (v_assign rfl) rfl ?_; clear hF a; intro a hF
  refine WL_nil (hK _ _ ?_)
  clear hK K
  replace hF := hF.sub _ (c_ 9 rfl (c_ 8 rfl (c_ 7 rfl (c_ 6 rfl (c_ 5 rfl (c_ 0 rfl (n_)))))))
  obtain ⟨m1, hm1⟩ : ∃ n : Nat, 1 + (n1 : Int) % 4 = (n : Int) := ⟨1 + n1 % 4, by omega⟩
  have hm12 : 1 ≤ m1 ∧ m1 ≤ 4 := by omega
  rw [hm1] at hF
  refine W_sr rfl (fun K hK => ?_)
  refine sv hF (v_move rfl) rfl ?_; clear hF a; intro a hF
  refine sc hF rfl rfl rfl en15 rfl (field7_ok B lg _ hS.inv) ?_; clear hF a; intro v w' a hv hF
  obtain ⟨fv, rfl, hf, hS'⟩ := hv
  obtain ⟨⟨wb, p⟩, hq⟩ : ∃ q, fq lg = q := ⟨_, rfl⟩
  have hq1 : (fq lg).1 = wb := by rw [hq]
  have hq2 : (fq lg).2 = p := by rw [hq]
  rw [hq] at hf
  rw [hq1, hq2] at hF
  clear hq1 hq2
  have hp : Prm wb p := hf.1
  replace hbx := hbx.st (by decide) hS'
  replace hby := hby.st (by decide) hS'
  replace hS := hS.trans hS'
  clear hS'
  refine sv hF (v_move rfl) rfl ?_; clear hF a; intro a hF
  refine sv hF (v_ext rfl rfl) rfl ?_; clear hF a; intro a hF
  refine sv hF (v_ext rfl rfl) rfl ?_; clear hF a; intro a hF
  refine sv hF (v_ext rfl rfl) rfl ?_; clear hF a; intro a hF
  refine sv hF (v_assign rfl) rfl ?_; clear hF a; intro a hF
  refine sv hF (v_assign rfl) rfl ?_; clear hF a; intro a hF
  refine sv hF (v_assign rfl) rfl ?_; clear hF a; intro a hF
  refine WL_nil (hK _ _ ?_)
  clear hK K
  replace hF := hF.sub _ (c_ 10 rfl (c_ 9 rfl (c_ 8 rfl (c_ 7 rfl (c_ 6 rfl (c_ 5 rfl (n_)))))))
  refine W_sr rfl (fun K hK => ?_)
  refine sv hF (v_move rfl) rfl ?_; clear hF a; intro a hF
  refine sv hF (v_move rfl) rfl ?_; clear hF a; intro a hF
  refine sv hF (v_move rfl) rfl ?_; clear hF a; intro a hF
  refine sc hF rfl rfl rfl en18 rfl (Parity_fit B wb p hp fv k1 m1 _ hS.inv hf (fitB_ok rfl (by omega) (by omega) (by omega))) ?_; clear hF a; intro v w' a hv hF
  obtain ⟨sX, cX, rfl, hX, hS'⟩ := hv
  replace hbx := hbx.st (by decide) hS'
  replace hby := hby.st (by decide) hS'
  replace hf := hf.st hS'
  replace hS := hS.trans hS'
  clear hS'
  refine sv hF (v_move rfl) rfl ?_; clear hF a; intro a hF
  refine sv hF (v_ext rfl rfl) rfl ?_; clear hF a; intro a hF
  refine sv hF (v_ext rfl rfl) rfl ?_; clear hF a; intro a hF
  refine sv hF (v_assign rfl) rfl ?_; clear hF a; intro a hF
  refine sv hF (v_assign rfl) rfl ?_; clear hF a; intro a hF
  refine WL_nil (hK _ _ ?_)
  clear hK K
  replace hF := hF.sub _ (c_ 14 rfl (c_ 13 rfl (c_ 10 rfl (c_ 9 rfl (c_ 8 rfl (c_ 7 rfl (c_ 6 rfl (c_ 5 rfl (n_)))))))))
  have hid : identM (k1 : Int) = idM k1 := identM_of (by omega)
  have hidl := idM_lens (k1 : Int)
  rw [hid] at hidl
  have hji := join_id hp (k := k1) (parT_bd hp k1 m1) (m := m1) (by omega) (by omega) (by omega)
  have hxl : (tab m1 k1 (parT hp k1 m1)).length = m1 := tab_length _ _ _
  rw [show Value.slice sX m1 cX = .slice sX (tab m1 k1 (parT hp k1 m1)).length cX by rw [hxl]] at hF
  refine W_sr rfl (fun K hK => ?_)
  refine sv hF (v_move rfl) rfl ?_; clear hF a; intro a hF
  refine sv hF (v_move rfl) rfl ?_; clear hF a; intro a hF
  refine sc hF rfl rfl rfl en32 rfl (rIdentity_ok B (k1 : Int) _ hS.inv (by omega)) ?_; clear hF a; intro v w' a hv hF
  obtain ⟨obI_, hoI_, hS'⟩ := hv
  rw [hid] at hoI_
  obtain ⟨sI_, cI_, rfl, hI_⟩ := hoI_.mat (by decide) (Nat.zero_le _)
  clear hoI_
  replace hbx := hbx.st (by decide) hS'
  replace hby := hby.st (by decide) hS'
  replace hf := hf.st hS'
  replace hX := (hX.st hS').mono hS'.ext.size
  replace hS := hS.trans hS'
  clear hS'
  refine sv hF (v_move rfl) rfl ?_; clear hF a; intro a hF
  refine sc hF rfl rfl rfl en38 rfl (Join_ok B _ (some (wb, p)) fv _ _ (idM k1) _ _ (tab m1 k1 (parT hp k1 m1)) _ hS.inv (Nat.le_refl _) hf hI_ (len20 hidl).1 (len20 hidl).2 hX (len20 (tab_lens (by omega) (by omega))).1 (len20 (tab_lens (by omega) (by omega))).2) ?_; clear hF a; intro v w' a hv hF
  obtain ⟨obJ, uJ, rfl, hoJ, hS'⟩ := hv
  rw [hji] at hoJ hF
  try simp only [Option.getD_some, Option.getD_none] at hoJ
  obtain ⟨sJ, cJ, rfl, hJ⟩ := hoJ.mat (by decide) (Nat.zero_le _)
  clear hoJ
  replace hbx := hbx.st (by decide) hS'
  replace hby := hby.st (by decide) hS'
  replace hf := hf.st hS'
  replace hX := (hX.st hS').mono hS'.ext.size
  replace hI_ := (hI_.st hS').mono hS'.ext.size
  replace hS := hS.trans hS'
  clear hS'
  refine sv hF (v_move rfl) rfl ?_; clear hF a; intro a hF
  refine sv hF (v_ext rfl rfl) rfl ?_; clear hF a; intro a hF
  refine sv hF (v_ext rfl rfl) rfl ?_; clear hF a; intro a hF
  refine sv hF (v_assign rfl) rfl ?_; clear hF a; intro a hF
  refine sv hF (v_assign rfl) rfl ?_; clear hF a; intro a hF
  refine WL_nil (hK _ _ ?_)
  clear hK K
  replace hF := hF.sub _ (c_ 16 rfl (c_ 15 rfl (c_ 14 rfl (c_ 10 rfl (c_ 9 rfl (c_ 8 rfl (c_ 7 rfl (c_ 6 rfl (c_ 5 rfl (n_))))))))))
  refine W_sr rfl (fun K hK => ?_)
  refine sv hF (v_move rfl) rfl ?_; clear hF a; intro a hF
  refine sv hF (v_move rfl) rfl ?_; clear hF a; intro a hF
  refine sv hF ((v_addI rfl rfl (by omega)).as (show Value.int .i64 ((k1 : Int) + (m1 : Int)) = .int .i64 ((k1 + m1 : Nat) : Int) by simp)) rfl ?_; clear hF a; intro a hF
  refine sv hF (v_move rfl) rfl ?_; clear hF a; intro a hF
  refine sv hF (v_ixA ar53 rfl rfl (by omega) (by omega)) rfl ?_; clear hF a; intro a hF
  refine sv hF (v_load sc5 rfl (hby.at 0 rfl)) rfl ?_; clear hF a; intro a hF
  refine sv hF (v_cv Try.underlying5 Try.underlying3 rfl (wrap_i64 _ (by omega))) rfl ?_; clear hF a; intro a hF
  refine sv hF (v_ixA ar53 rfl rfl (by omega) (by omega)) rfl ?_; clear hF a; intro a hF
  refine sv hF (v_load sc5 rfl (hby.at 1 rfl)) rfl ?_; clear hF a; intro a hF
  refine sv hF (v_cv Try.underlying5 Try.underlying3 rfl (wrap_i64 _ (by omega))) rfl ?_; clear hF a; intro a hF
  refine sc hF rfl rfl rfl en30 rfl (Chosen_ok B (k1 + m1) k1 h0 h1 _ hS.inv (by omega) (by omega) (by omega)) ?_; clear hF a; intro v w' a hv hF
  obtain ⟨obL, uL, lc, rfl, hO, hll, hln, hlt, hS'⟩ := hv
  obtain ⟨aL, cL, rfl⟩ := hO.shape
  have hL : Row FDx B _ _ _ (zints (casts lc)) := hO.row (by decide)
  rw [zints_length] at hL hF
  clear hO
  replace hbx := hbx.st (by decide) hS'
  replace hby := hby.st (by decide) hS'
  replace hf := hf.st hS'
  replace hX := (hX.st hS').mono hS'.ext.size
  replace hI_ := (hI_.st hS').mono hS'.ext.size
  replace hJ := (hJ.st hS').mono hS'.ext.size
  replace hS := hS.trans hS'
  clear hS'
  refine sv hF (v_move rfl) rfl ?_; clear hF a; intro a hF
  refine sv hF (v_ext rfl rfl) rfl ?_; clear hF a; intro a hF
  refine sv hF ((v_ext rfl rfl).as (congrArg Value.bool (rfl))) rfl ?_; clear hF a; intro a hF
  refine sv hF (v_assign rfl) rfl ?_; clear hF a; intro a hF
  refine sv hF (v_assign rfl) rfl ?_; clear hF a; intro a hF
  refine WL_nil (hK _ _ ?_)
  clear hK K
  replace hF := hF.sub _ (c_ 18 rfl (c_ 17 rfl (c_ 16 rfl (c_ 15 rfl (c_ 14 rfl (c_ 10 rfl (c_ 7 rfl (c_ 6 rfl (n_)))))))))
  refine W_seq ?_
  refine W_sr rfl (fun K hK => ?_)
  refine sv hF (v_move rfl) rfl ?_; clear hF a; intro a hF
  refine sv hF ((v_neq rfl rfl).as (congrArg Value.bool (decide_eq_false (fun h => h rfl)))) rfl ?_; clear hF a; intro a hF
  refine sv hF (v_move rfl) rfl ?_; clear hF a; intro a hF
  refine svg hF rfl ?_
  refine sv hF (v_move rfl) rfl ?_; clear hF a; intro a hF
  refine svg hF rfl ?_
  refine sv hF ((v_neq rfl rfl).as (congrArg Value.bool (decide_eq_false (fun h => h rfl)))) rfl ?_; clear hF a; intro a hF
  refine sv hF (v_pickF rfl rfl) rfl ?_; clear hF a; intro a hF
  refine sv hF (v_move rfl) rfl ?_; clear hF a; intro a hF
  refine svg hF rfl ?_
  refine sv hF (v_move rfl) rfl ?_; clear hF a; intro a hF
  refine svg hF rfl ?_
  refine sv hF (v_not rfl) rfl ?_; clear hF a; intro a hF
  refine sv hF (v_pickF rfl rfl) rfl ?_; clear hF a; intro a hF
  refine WL_nil (hK _ _ ?_)
  clear hK K
  replace hF := hF.sub _ (c_ 78 rfl (c_ 17 rfl (c_ 15 rfl (c_ 10 rfl (c_ 7 rfl (c_ 6 rfl (n_)))))))
  refine W_ifF hF rfl ?_
  refine W_skip ?_
  obtain ⟨P_, hp1, hp2⟩ := par_pick hp (k := k1) (m := m1) (by omega) (by omega) (by omega) hll hln hlt
  have hpl := len20 (pickM_lens (some (wb, p)) (tab (k1 + m1) k1 (beh k1 (parT hp k1 m1))) (casts lc))
  rw [hp1] at hpl
  simp only [Option.getD_some] at hpl
  have hcl := casts_length lc
  refine W_sr rfl (fun K hK => ?_)
  refine sv hF (v_move rfl) rfl ?_; clear hF a; intro a hF
  refine sv hF (v_move rfl) rfl ?_; clear hF a; intro a hF
  refine sv hF (v_move rfl) rfl ?_; clear hF a; intro a hF
  refine sc hF rfl rfl rfl en31 rfl (Pick_ok B _ (some (wb, p)) fv _ _ (tab (k1 + m1) k1 (beh k1 (parT hp k1 m1))) _ _ (casts lc) _ hS.inv (Nat.le_refl _) hf hJ (len20 (tab_lens (by omega) (by omega))).1 (len20 (tab_lens (by omega) (by omega))).2 hL (by rw [casts_length]; exact Nat.le_trans (show _ ≤ 1000 by omega) (by decide))) ?_; clear hF a; intro v w' a hv hF
  obtain ⟨obP, uP, rfl, hoP, hS'⟩ := hv
  rw [hp1] at hoP hF
  try simp only [Option.getD_some, Option.getD_none] at hoP
  obtain ⟨sP, cP, rfl, hP⟩ := hoP.mat (by decide) (Nat.zero_le _)
  clear hoP
  replace hbx := hbx.st (by decide) hS'
  replace hby := hby.st (by decide) hS'
  replace hf := hf.st hS'
  replace hX := (hX.st hS').mono hS'.ext.size
  replace hI_ := (hI_.st hS').mono hS'.ext.size
  replace hJ := (hJ.st hS').mono hS'.ext.size
  replace hL := (hL.st hS').mono hS'.ext.size
  replace hS := hS.trans hS'
  clear hS'
  refine sv hF (v_move rfl) rfl ?_; clear hF a; intro a hF
  refine sv hF (v_ext rfl rfl) rfl ?_; clear hF a; intro a hF
  refine sv hF (v_ext rfl rfl) rfl ?_; clear hF a; intro a hF
  refine sv hF (v_assign rfl) rfl ?_; clear hF a; intro a hF
  refine sv hF (v_assign rfl) rfl ?_; clear hF a; intro a hF
  refine WL_nil (hK _ _ ?_)
  clear hK K
  replace hF := hF.sub _ (c_ 20 rfl (c_ 19 rfl (c_ 10 rfl (c_ 7 rfl (c_ 6 rfl (n_))))))
  refine W_sr rfl (fun K hK => ?_)
  refine sv hF (v_move rfl) rfl ?_; clear hF a; intro a hF
  refine sv hF (v_move rfl) rfl ?_; clear hF a; intro a hF
  refine sc hF rfl rfl rfl en28 rfl (Inverse_ok B _ wb p hp fv _ _ P_ _ hS.inv (Nat.le_refl _) hf hP hpl.1 hpl.2) ?_; clear hF a; intro v w' a hv hF
  obtain ⟨obV, uV, rfl, hoV, hS'⟩ := hv
  obtain ⟨sV, cV, rfl, hV⟩ := hoV.mat (by decide) (Nat.zero_le _)
  clear hoV
  replace hbx := hbx.st (by decide) hS'
  replace hby := hby.st (by decide) hS'
  replace hf := hf.st hS'
  replace hX := (hX.st hS').mono hS'.ext.size
  replace hI_ := (hI_.st hS').mono hS'.ext.size
  replace hJ := (hJ.st hS').mono hS'.ext.size
  replace hL := (hL.st hS').mono hS'.ext.size
  replace hP := (hP.st hS').mono hS'.ext.size
  replace hS := hS.trans hS'
  clear hS'
  refine sv hF (v_move rfl) rfl ?_; clear hF a; intro a hF
  refine sv hF (v_ext rfl rfl) rfl ?_; clear hF a; intro a hF
  refine sv hF (v_ext rfl rfl) rfl ?_; clear hF a; intro a hF
  refine sv hF (v_assign rfl) rfl ?_; clear hF a; intro a hF
  refine sv hF (v_assign rfl) rfl ?_; clear hF a; intro a hF
  refine WL_nil (hK _ _ ?_)
  clear hK K
  replace hF := hF.sub _ (c_ 22 rfl (c_ 20 rfl (c_ 7 rfl (c_ 6 rfl (n_)))))
  refine W_sr rfl (fun K hK => ?_)
  refine sv hF (v_move rfl) rfl ?_; clear hF a; intro a hF
  refine sv hF (v_move rfl) rfl ?_; clear hF a; intro a hF
  refine svg hF rfl ?_
  refine sv hF (v_move rfl) rfl ?_; clear hF a; intro a hF
  refine svg hF rfl ?_
  refine sv hF ((v_eql rfl rfl).as (congrArg Value.bool (decide_eq_true (rfl)))) rfl ?_; clear hF a; intro a hF
  refine sv hF (v_pickT rfl rfl) rfl ?_; clear hF a; intro a hF
  refine sv hF (v_move rfl) rfl ?_; clear hF a; intro a hF
  refine svg hF rfl ?_
  refine sv hF (v_move rfl) rfl ?_; clear hF a; intro a hF
  refine svg hF rfl ?_
  refine sv hF ((v_eql rfl rfl).as (congrArg Value.bool (decide_eq_true (hp2)))) rfl ?_; clear hF a; intro a hF
  refine sv hF (v_pickT rfl rfl) rfl ?_; clear hF a; intro a hF
  refine sv hF (v_assign rfl) rfl ?_; clear hF a; intro a hF
  refine WL_nil (hK _ _ ?_)
  clear hK K
  replace hF := hF.sub _ (c_ 6 rfl (n_))
  refine W_ret ?_
  refine ⟨_, _, hF, rfl, ?_⟩
  exact ⟨rfl, hS⟩

end Go.Proofs.Ytaeljbdpjiciaaa
