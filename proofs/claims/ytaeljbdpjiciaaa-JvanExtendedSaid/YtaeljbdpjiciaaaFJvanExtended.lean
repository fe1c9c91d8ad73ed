/- The statement JvanExtended, walked: it returns true. -/
import Derived.Test.YtaeljbdpjiciaaaFAw07
set_option linter.unusedVariables false
set_option linter.unusedSimpArgs false
namespace Go.Proofs.Ytaeljbdpjiciaaa
open Go Go.Gam


namespace FxFJvanExtended
theorem en14 : Ent Try.prog 14 := ent Try.func14 (by kernel_rfl) (by kernel_rfl)
theorem en15 : Ent Try.prog 15 := ent Try.func15 (by kernel_rfl) (by kernel_rfl)
theorem en16 : Ent Try.prog 16 := ent Try.func16 (by kernel_rfl) (by kernel_rfl)
theorem en21 : Ent Try.prog 21 := ent Try.func21 (by kernel_rfl) (by kernel_rfl)
theorem en28 : Ent Try.prog 28 := ent Try.func28 (by kernel_rfl) (by kernel_rfl)
theorem en30 : Ent Try.prog 30 := ent Try.func30 (by kernel_rfl) (by kernel_rfl)
theorem en31 : Ent Try.prog 31 := ent Try.func31 (by kernel_rfl) (by kernel_rfl)
theorem en32 : Ent Try.prog 32 := ent Try.func32 (by kernel_rfl) (by kernel_rfl)
theorem ar53 : ArrOf Try.prog 53 2 := ar_of Try.underlying53 (by kernel_rfl)
theorem hmix : Try.prog.follows .mixedOrders = true := by kernel_rfl
theorem sc37 : Scalar Try.prog 37 := ⟨_, Try.underlying37, by simp, by simp⟩
theorem sc5 : Scalar Try.prog 5 := ⟨_, Try.underlying5, by simp, by simp⟩
theorem sl27 : Sl Try.prog 27 37 (.slice none 0 0) 24 := sl_of Try.underlying27 rfl (by kernel_rfl)
theorem sl28 : Sl Try.prog 28 37 (.slice none 0 0) 24 := sl_of Try.underlying28 rfl (by kernel_rfl)
theorem sl37 : Sl Try.prog 37 3 (.int .i64 0) 8 := sl_of Try.underlying37 rfl (by kernel_rfl)
end FxFJvanExtended
open FxFJvanExtended

set_option maxRecDepth 100000 in
set_option maxHeartbeats 1000000 in
theorem JvanExtended_ok (B : Nat) (lg : Bool) (n0 n1 h0 h1 : Nat) (w : World) (hI : Inv FDx B w) (hn08 : n0 < 256) (hn18 : n1 < 256) (hh08 : h0 < 256) (hh18 : h1 < 256) : Ret Try.prog 9 [.bool lg, .agg #[.int .u8 (n0 : Int), .int .u8 (n1 : Int)], .agg #[.int .u8 (h0 : Int), .int .u8 (h1 : Int)]] w fun v w' => v = .bool true ∧ St FDx B w w' := by
  refine enter 121 [(0, .bool lg), (1, .agg #[.int .u8 (n0 : Int), .int .u8 (n1 : Int)]), (2, .agg #[.int .u8 (h0 : Int), .int .u8 (h1 : Int)])] 6 Try.func9 rfl rfl rfl rfl rfl ?_; intro a hF
  have hS := St.refl hI
  refine W_sr rfl (fun K hK => ?_)
  refine s_box (D := FDx) (B := B) hF rfl (by decide) hS.inv rfl ?_; clear hF a; intro w' a hm hbx hsz hF
  replace hS := hS.mb0 hm
  clear hm
  refine s_box (D := FDx) (B := B) hF rfl (by decide) hS.inv rfl ?_; clear hF a; intro w' a hm hby hsz hF
  replace hbx := hbx.mb hm (by simp)
  replace hS := hS.mb0 hm
  clear hm
  refine sv hF (v_assign rfl) rfl ?_; clear hF a; intro a hF
  refine WL_nil (hK _ _ ?_)
  clear hK K
  replace hF := hF.sub _ (c_ 6 rfl (c_ 5 rfl (c_ 4 rfl (c_ 0 rfl (n_)))))
  refine W_sr rfl (fun K hK => ?_)
  refine sc hF rfl rfl rfl en14 rfl (aw07_ok B _ hS.inv) ?_; clear hF a; intro v w' a hv hF
  obtain ⟨rfl, hS'⟩ := hv
  replace hbx := hbx.st (by decide) hS'
  replace hby := hby.st (by decide) hS'
  replace hS := hS.trans hS'
  clear hS'
  refine sv hF (v_assign rfl) rfl ?_; clear hF a; intro a hF
  refine WL_nil (hK _ _ ?_)
  clear hK K
  replace hF := hF.sub _ (c_ 7 rfl (c_ 6 rfl (c_ 5 rfl (c_ 4 rfl (c_ 0 rfl (n_))))))
  refine W_sr rfl (fun K hK => ?_)
  refine sv hF (v_ixA ar53 rfl rfl (by omega) (by omega)) rfl ?_; clear hF a; intro a hF
  refine sv hF (v_load sc5 rfl (hbx.at 0 rfl)) rfl ?_; clear hF a; intro a hF
  refine sv hF (v_cv Try.underlying5 Try.underlying3 rfl (wrap_i64 _ (by omega))) rfl ?_; clear hF a; intro a hF
  refine sv hF (v_remI rfl rfl (by omega) (by omega)) rfl ?_; clear hF a; intro a hF
  refine sv hF (v_addI rfl rfl (by omega)) rfl ?_; clear hF a; intro a hF
  refine sv hF (v_assign rfl) rfl ?_; clear hF a; intro a hF
  refine WL_nil (hK _ _ ?_)
  clear hK K
  replace hF := hF.sub _ (c_ 8 rfl (c_ 7 rfl (c_ 6 rfl (c_ 5 rfl (c_ 4 rfl (c_ 0 rfl (n_)))))))
  obtain ⟨k1, hk1⟩ : ∃ n : Nat, 1 + (n0 : Int) % 8 = (n : Int) := ⟨1 + n0 % 8, by omega⟩
  have hk12 : 1 ≤ k1 ∧ k1 ≤ 8 := by omega
  rw [hk1] at hF
  refine W_sr rfl (fun K hK => ?_)
  refine sv hF (v_ixA ar53 rfl rfl (by omega) (by omega)) rfl ?_; clear hF a; intro a hF
  refine sv hF (v_load sc5 rfl (hbx.at 1 rfl)) rfl ?_; clear hF a; intro a hF
  refine sv hF (v_cv Try.underlying5 Try.underlying3 rfl (wrap_i64 _ (by omega))) rfl ?_; clear hF a; intro a hF
  refine sv hF (v_remI rfl rfl (by omega) (by omega)) rfl ?_; clear hF a; intro a hF
  refine sv hF (v_addI rfl rfl (by omega)) rfl ?_; clear hF a; intro a hF
  refine sv hF (v_assign rfl) rfl ?_; clear hF a; intro a hF
  refine WL_nil (hK _ _ ?_)
  clear hK K
  replace hF := hF.sub _ (c_ 9 rfl (c_ 8 rfl (c_ 7 rfl (c_ 6 rfl (c_ 5 rfl (c_ 0 rfl (n_)))))))
  obtain ⟨m1, hm1⟩ : ∃ n : Nat, 1 + (n1 : Int) % 4 = (n : Int) := ⟨1 + n1 % 4, by omega⟩
  have hm12 : 1 ≤ m1 ∧ m1 ≤ 4 := by omega
  rw [hm1] at hF
  refine W_sr rfl (fun K hK => ?_)
  refine sv hF (v_move rfl) rfl ?_; clear hF a; intro a hF
  refine sc hF rfl rfl rfl en15 rfl (field7_ok B lg _ hS.inv) ?_; clear hF a; intro v w' a hv hF
  obtain ⟨fv, rfl, hf, hS'⟩ := hv
  obtain ⟨⟨wb, p⟩, hq⟩ : ∃ q, fq lg = q := ⟨_, rfl⟩
  have hq1 : (fq lg).1 = wb := by rw [hq]
  have hq2 : (fq lg).2 = p := by rw [hq]
  rw [hq] at hf
  rw [hq1, hq2] at hF
  clear hq1 hq2
  have hp : Prm wb p := hf.1
  replace hbx := hbx.st (by decide) hS'
  replace hby := hby.st (by decide) hS'
  replace hS := hS.trans hS'
  clear hS'
  refine sv hF (v_move rfl) rfl ?_; clear hF a; intro a hF
  refine sv hF (v_ext rfl rfl) rfl ?_; clear hF a; intro a hF
  refine sv hF (v_ext rfl rfl) rfl ?_; clear hF a; intro a hF
  refine sv hF (v_ext rfl rfl) rfl ?_; clear hF a; intro a hF
  refine sv hF (v_assign rfl) rfl ?_; clear hF a; intro a hF
  refine sv hF (v_assign rfl) rfl ?_; clear hF a; intro a hF
  refine sv hF (v_assign rfl) rfl ?_; clear hF a; intro a hF
  refine WL_nil (hK _ _ ?_)
  clear hK K
  replace hF := hF.sub _ (c_ 10 rfl (c_ 9 rfl (c_ 8 rfl (c_ 7 rfl (c_ 6 rfl (c_ 5 rfl (n_)))))))
  refine W_sr rfl (fun K hK => ?_)
  refine sv hF (v_move rfl) rfl ?_; clear hF a; intro a hF
  refine sv hF (v_move rfl) rfl ?_; clear hF a; intro a hF
  refine sv hF (v_move rfl) rfl ?_; clear hF a; intro a hF
  refine sc hF rfl rfl rfl en16 rfl (Extended_m B (some (wb, p)) fv (k1 : Int) (m1 : Int) _ hS.inv hf) ?_; clear hF a; intro v w' a hv hF
  obtain ⟨obX, uX, rfl, hoX, hS'⟩ := hv
  rw [(extM_is (o := (some (wb, p))) rfl (k := k1) (m := m1) (by omega) (by omega) (by omega))] at hoX hF
  try simp only [Option.getD_some, Option.getD_none] at hoX
  obtain ⟨sX, cX, rfl, hX⟩ := hoX.mat (by decide) (Nat.zero_le _)
  clear hoX
  replace hbx := hbx.st (by decide) hS'
  replace hby := hby.st (by decide) hS'
  replace hf := hf.st hS'
  replace hS := hS.trans hS'
  clear hS'
  refine sv hF (v_move rfl) rfl ?_; clear hF a; intro a hF
  refine sv hF (v_ext rfl rfl) rfl ?_; clear hF a; intro a hF
  refine sv hF (v_ext rfl rfl) rfl ?_; clear hF a; intro a hF
  refine sv hF (v_assign rfl) rfl ?_; clear hF a; intro a hF
  refine sv hF (v_assign rfl) rfl ?_; clear hF a; intro a hF
  refine WL_nil (hK _ _ ?_)
  clear hK K
  replace hF := hF.sub _ (c_ 14 rfl (c_ 13 rfl (c_ 10 rfl (c_ 9 rfl (c_ 8 rfl (c_ 7 rfl (c_ 6 rfl (c_ 5 rfl (n_)))))))))
  refine W_sr rfl (fun K hK => ?_)
  refine sv hF (v_move rfl) rfl ?_; clear hF a; intro a hF
  refine sv hF (v_move rfl) rfl ?_; clear hF a; intro a hF
  refine sv hF ((v_addI rfl rfl (by omega)).as (show Value.int .i64 ((k1 : Int) + (m1 : Int)) = .int .i64 ((k1 + m1 : Nat) : Int) by simp)) rfl ?_; clear hF a; intro a hF
  refine sv hF (v_move rfl) rfl ?_; clear hF a; intro a hF
  refine sv hF (v_ixA ar53 rfl rfl (by omega) (by omega)) rfl ?_; clear hF a; intro a hF
  refine sv hF (v_load sc5 rfl (hby.at 0 rfl)) rfl ?_; clear hF a; intro a hF
  refine sv hF (v_cv Try.underlying5 Try.underlying3 rfl (wrap_i64 _ (by omega))) rfl ?_; clear hF a; intro a hF
  refine sv hF (v_ixA ar53 rfl rfl (by omega) (by omega)) rfl ?_; clear hF a; intro a hF
  refine sv hF (v_load sc5 rfl (hby.at 1 rfl)) rfl ?_; clear hF a; intro a hF
  refine sv hF (v_cv Try.underlying5 Try.underlying3 rfl (wrap_i64 _ (by omega))) rfl ?_; clear hF a; intro a hF
  refine sc hF rfl rfl rfl en30 rfl (Chosen_ok B (k1 + m1) k1 h0 h1 _ hS.inv (by omega) (by omega) (by omega)) ?_; clear hF a; intro v w' a hv hF
  obtain ⟨obL, uL, lc, rfl, hO, hll, hln, hlt, hS'⟩ := hv
  obtain ⟨aL, cL, rfl⟩ := hO.shape
  have hL : Row FDx B _ _ _ (zints (casts lc)) := hO.row (by decide)
  rw [zints_length] at hL hF
  clear hO
  replace hbx := hbx.st (by decide) hS'
  replace hby := hby.st (by decide) hS'
  replace hf := hf.st hS'
  replace hX := (hX.st hS').mono hS'.ext.size
  replace hS := hS.trans hS'
  clear hS'
  refine sv hF (v_move rfl) rfl ?_; clear hF a; intro a hF
  refine sv hF (v_ext rfl rfl) rfl ?_; clear hF a; intro a hF
  refine sv hF ((v_ext rfl rfl).as (congrArg Value.bool (rfl))) rfl ?_; clear hF a; intro a hF
  refine sv hF (v_assign rfl) rfl ?_; clear hF a; intro a hF
  refine sv hF (v_assign rfl) rfl ?_; clear hF a; intro a hF
  refine WL_nil (hK _ _ ?_)
  clear hK K
  replace hF := hF.sub _ (c_ 16 rfl (c_ 15 rfl (c_ 14 rfl (c_ 13 rfl (c_ 10 rfl (c_ 9 rfl (c_ 8 rfl (c_ 7 rfl (c_ 6 rfl (n_))))))))))
  refine W_seq ?_
  have hxl : (tab (k1 + m1) k1 (extT (some (wb, p)) k1 m1)).length = k1 + m1 := tab_length _ _ _
  refine W_sr rfl (fun K hK => ?_)
  refine sv hF (v_move rfl) rfl ?_; clear hF a; intro a hF
  refine sv hF ((v_neq rfl rfl).as (congrArg Value.bool (decide_eq_false (fun h => h rfl)))) rfl ?_; clear hF a; intro a hF
  refine sv hF (v_move rfl) rfl ?_; clear hF a; intro a hF
  refine svg hF rfl ?_
  refine sv hF (v_move rfl) rfl ?_; clear hF a; intro a hF
  refine svg hF rfl ?_
  refine sv hF (v_not rfl) rfl ?_; clear hF a; intro a hF
  refine sv hF (v_pickF rfl rfl) rfl ?_; clear hF a; intro a hF
  refine sv hF (v_move rfl) rfl ?_; clear hF a; intro a hF
  refine svg hF rfl ?_
  refine sv hF (v_move rfl) rfl ?_; clear hF a; intro a hF
  refine svg hF rfl ?_
  refine sv hF (v_lenS rfl sl28 rfl) rfl ?_; clear hF a; intro a hF
  refine svg hF rfl ?_
  refine sv hF (v_move rfl) rfl ?_; clear hF a; intro a hF
  refine svg hF rfl ?_
  refine sv hF (v_move rfl) rfl ?_; clear hF a; intro a hF
  refine svg hF rfl ?_
  refine sv hF ((v_addI rfl rfl (by omega)).as (show Value.int .i64 ((k1 : Int) + (m1 : Int)) = .int .i64 ((k1 + m1 : Nat) : Int) by simp)) rfl ?_; clear hF a; intro a hF
  refine svg hF rfl ?_
  refine sv hF ((v_neq rfl rfl).as (congrArg Value.bool (decide_eq_false (by omega)))) rfl ?_; clear hF a; intro a hF
  refine sv hF (v_pickF rfl rfl) rfl ?_; clear hF a; intro a hF
  refine WL_nil (hK _ _ ?_)
  clear hK K
  replace hF := hF.sub _ (c_ 73 rfl (c_ 15 rfl (c_ 13 rfl (c_ 10 rfl (c_ 9 rfl (c_ 8 rfl (c_ 7 rfl (c_ 6 rfl (n_)))))))))
  refine W_ifF hF rfl ?_
  refine W_skip ?_
  obtain ⟨P_, hp1, hp2⟩ := ext_pick hp (k := k1) (m := m1) (by omega) (by omega) (by omega) hll hln hlt
  have hpl := len20 (pickM_lens (some (wb, p)) (tab (k1 + m1) k1 (extT (some (wb, p)) k1 m1)) (casts lc))
  rw [hp1] at hpl
  simp only [Option.getD_some] at hpl
  have hcl := casts_length lc
  have hid : identM (k1 : Int) = tab k1 k1 I1 := by rw [identM_of (by omega), idM_tab]; rfl
  have hidl : (tab k1 k1 I1).length = k1 := tab_length _ _ _
  refine W_sr rfl (fun K hK => ?_)
  refine sv hF (v_move rfl) rfl ?_; clear hF a; intro a hF
  refine sv hF (v_move rfl) rfl ?_; clear hF a; intro a hF
  refine sv hF (v_move rfl) rfl ?_; clear hF a; intro a hF
  refine sc hF rfl rfl rfl en31 rfl (Pick_ok B _ (some (wb, p)) fv _ _ (tab (k1 + m1) k1 (extT (some (wb, p)) k1 m1)) _ _ (casts lc) _ hS.inv (Nat.le_refl _) hf hX (len20 (tab_lens (by omega) (by omega))).1 (len20 (tab_lens (by omega) (by omega))).2 hL (by rw [casts_length]; exact Nat.le_trans (show _ ≤ 1000 by omega) (by decide))) ?_; clear hF a; intro v w' a hv hF
  obtain ⟨obP, uP, rfl, hoP, hS'⟩ := hv
  rw [hp1] at hoP hF
  try simp only [Option.getD_some, Option.getD_none] at hoP
  obtain ⟨sP, cP, rfl, hP⟩ := hoP.mat (by decide) (Nat.zero_le _)
  clear hoP
  replace hbx := hbx.st (by decide) hS'
  replace hby := hby.st (by decide) hS'
  replace hf := hf.st hS'
  replace hX := (hX.st hS').mono hS'.ext.size
  replace hL := (hL.st hS').mono hS'.ext.size
  replace hS := hS.trans hS'
  clear hS'
  refine sv hF (v_move rfl) rfl ?_; clear hF a; intro a hF
  refine sv hF (v_ext rfl rfl) rfl ?_; clear hF a; intro a hF
  refine sv hF (v_ext rfl rfl) rfl ?_; clear hF a; intro a hF
  refine sv hF (v_assign rfl) rfl ?_; clear hF a; intro a hF
  refine sv hF (v_assign rfl) rfl ?_; clear hF a; intro a hF
  refine WL_nil (hK _ _ ?_)
  clear hK K
  replace hF := hF.sub _ (c_ 18 rfl (c_ 17 rfl (c_ 13 rfl (c_ 10 rfl (c_ 9 rfl (c_ 8 rfl (c_ 7 rfl (c_ 6 rfl (n_)))))))))
  refine W_sr rfl (fun K hK => ?_)
  refine sv hF (v_move rfl) rfl ?_; clear hF a; intro a hF
  refine sv hF (v_move rfl) rfl ?_; clear hF a; intro a hF
  refine sc hF rfl rfl rfl en28 rfl (Inverse_ok B _ wb p hp fv _ _ P_ _ hS.inv (Nat.le_refl _) hf hP hpl.1 hpl.2) ?_; clear hF a; intro v w' a hv hF
  obtain ⟨obV, uV, rfl, hoV, hS'⟩ := hv
  obtain ⟨sV, cV, rfl, hV⟩ := hoV.mat (by decide) (Nat.zero_le _)
  clear hoV
  replace hbx := hbx.st (by decide) hS'
  replace hby := hby.st (by decide) hS'
  replace hf := hf.st hS'
  replace hX := (hX.st hS').mono hS'.ext.size
  replace hL := (hL.st hS').mono hS'.ext.size
  replace hP := (hP.st hS').mono hS'.ext.size
  replace hS := hS.trans hS'
  clear hS'
  refine sv hF (v_move rfl) rfl ?_; clear hF a; intro a hF
  refine sv hF (v_ext rfl rfl) rfl ?_; clear hF a; intro a hF
  refine sv hF (v_ext rfl rfl) rfl ?_; clear hF a; intro a hF
  refine sv hF (v_assign rfl) rfl ?_; clear hF a; intro a hF
  refine sv hF (v_assign rfl) rfl ?_; clear hF a; intro a hF
  refine WL_nil (hK _ _ ?_)
  clear hK K
  replace hF := hF.sub _ (c_ 20 rfl (c_ 18 rfl (c_ 13 rfl (c_ 9 rfl (c_ 8 rfl (c_ 7 rfl (c_ 6 rfl (n_))))))))
  refine W_sr rfl (fun K hK => ?_)
  refine sv hF (v_move rfl) rfl ?_; clear hF a; intro a hF
  refine sc hF rfl rfl rfl en32 rfl (rIdentity_ok B (k1 : Int) _ hS.inv (by omega)) ?_; clear hF a; intro v w' a hv hF
  obtain ⟨obI_, hoI_, hS'⟩ := hv
  rw [hid] at hoI_
  obtain ⟨sI_, cI_, rfl, hI_⟩ := hoI_.mat (by decide) (Nat.zero_le _)
  clear hoI_
  replace hX := (hX.st hS').mono hS'.ext.size
  replace hS := hS.trans hS'
  clear hS'
  refine sv hF (v_assign rfl) rfl ?_; clear hF a; intro a hF
  refine WL_nil (hK _ _ ?_)
  clear hK K
  replace hF := hF.sub _ (c_ 21 rfl (c_ 20 rfl (c_ 18 rfl (c_ 13 rfl (c_ 9 rfl (c_ 8 rfl (c_ 7 rfl (c_ 6 rfl (n_)))))))))
  rw [hidl] at hF
  rw [hxl] at hF
  refine W_sd (m := 33) rfl hmix hS.inv (fun K hK w1 hS' hh => ?_)
  replace hX := (hX.st hS').mono hS'.ext.size
  replace hI_ := (hI_.st hS').mono hS'.ext.size
  replace hS := hS.trans hS'
  clear hS'
  clear hh
  refine a_v (i := 0) rfl (by kernel_rfl) hF (fun w2 hx => v_move rfl) rfl ?_; clear hF a; intro a hF
  refine a_v (i := 1) rfl (by kernel_rfl) hF (fun w2 hx => v_move rfl) rfl ?_; clear hF a; intro a hF
  refine a_vg (i := 2) rfl (by kernel_rfl) hF rfl (fun w2 hx => v_move rfl) rfl ?_; clear hF a; intro a hF
  refine a_vg (i := 3) rfl (by kernel_rfl) hF rfl (fun w2 hx => (v_eql rfl rfl).as (congrArg Value.bool (decide_eq_true (rfl)))) rfl ?_; clear hF a; intro a hF
  refine a_v (i := 4) rfl (by kernel_rfl) hF (fun w2 hx => v_pickT rfl rfl) rfl ?_; clear hF a; intro a hF
  refine a_v (i := 5) rfl (by kernel_rfl) hF (fun w2 hx => v_move rfl) rfl ?_; clear hF a; intro a hF
  refine a_vg (i := 6) rfl (by kernel_rfl) hF rfl (fun w2 hx => v_move rfl) rfl ?_; clear hF a; intro a hF
  refine a_vg (i := 7) rfl (by kernel_rfl) hF rfl (fun w2 hx => (v_eql rfl rfl).as (congrArg Value.bool (decide_eq_true (hp2)))) rfl ?_; clear hF a; intro a hF
  refine a_v (i := 8) rfl (by kernel_rfl) hF (fun w2 hx => v_pickT rfl rfl) rfl ?_; clear hF a; intro a hF
  refine a_v (i := 9) rfl (by kernel_rfl) hF (fun w2 hx => v_move rfl) rfl ?_; clear hF a; intro a hF
  refine a_vg (i := 10) rfl (by kernel_rfl) hF rfl (fun w2 hx => v_move rfl) rfl ?_; clear hF a; intro a hF
  obtain ⟨ga, oa, pra, cra, hga, hka, hra, -⟩ := hX.row (show (tab (k1 + m1) k1 (extT (some (wb, p)) k1 m1))[0]? = some (trow k1 (extT (some (wb, p)) k1 m1) 0) from tab_at (n := (k1 + m1)) (f := (extT (some (wb, p)) k1 m1)) (m := k1) (i := 0) (by omega))
  cases hga
  obtain ⟨gb, ob, prb, crb, hgb, hkb, hrb, -⟩ := hX.row (show (tab (k1 + m1) k1 (extT (some (wb, p)) k1 m1))[(k1 + m1 - 1)]? = some (trow k1 (extT (some (wb, p)) k1 m1) (k1 + m1 - 1)) from tab_at (n := (k1 + m1)) (f := (extT (some (wb, p)) k1 m1)) (m := k1) (i := (k1 + m1 - 1)) (by omega))
  cases hgb
  obtain ⟨gc, oc, prc, crc, hgc, hkc, hrc, -⟩ := hI_.row (show (tab k1 k1 I1)[0]? = some (trow k1 I1 0) from tab_at (n := k1) (f := I1) (m := k1) (i := 0) (by omega))
  cases hgc
  obtain ⟨gd, od, prd, crd, hgd, hkd, hrd, -⟩ := hI_.row (show (tab k1 k1 I1)[(k1 - 1)]? = some (trow k1 I1 (k1 - 1)) from tab_at (n := k1) (f := I1) (m := k1) (i := (k1 - 1)) (by omega))
  cases hgd
  refine a_vg (i := 11) rfl (by kernel_rfl) hF rfl (fun w2 hx => v_ixS sl28 rfl rfl (by decide) (by omega)) rfl ?_; clear hF a; intro a hF
  refine a_vg (i := 12) rfl (by kernel_rfl) hF rfl (fun w2 hx => v_load sc37 rfl (by first | exact hka.ld hx | (rw [toNat_c]; exact hka.ld hx))) rfl ?_; clear hF a; intro a hF
  refine a_vg (i := 13) rfl (by kernel_rfl) hF rfl (fun w2 hx => v_move rfl) rfl ?_; clear hF a; intro a hF
  refine a_vg (i := 14) rfl (by kernel_rfl) hF rfl (fun w2 hx => v_move rfl) rfl ?_; clear hF a; intro a hF
  refine a_vg (i := 15) rfl (by kernel_rfl) hF rfl (fun w2 hx => v_move rfl) rfl ?_; clear hF a; intro a hF
  refine a_vg (i := 16) rfl (by kernel_rfl) hF rfl (fun w2 hx => (v_addI rfl rfl (by omega)).as (show Value.int .i64 ((k1 : Int) + (m1 : Int)) = .int .i64 ((k1 + m1 : Nat) : Int) by simp)) rfl ?_; clear hF a; intro a hF
  refine a_vg (i := 17) rfl (by kernel_rfl) hF rfl (fun w2 hx => (v_subI rfl rfl (by omega)).as (show Value.int .i64 (((k1 + m1 : Nat) : Int) - 1) = .int .i64 ((k1 + m1 - 1 : Nat) : Int) by congr 1; omega)) rfl ?_; clear hF a; intro a hF
  refine a_vg (i := 18) rfl (by kernel_rfl) hF rfl (fun w2 hx => v_ixS sl28 rfl rfl (by omega) (by omega)) rfl ?_; clear hF a; intro a hF
  refine a_vg (i := 19) rfl (by kernel_rfl) hF rfl (fun w2 hx => v_load sc37 rfl (by first | exact hkb.ld hx | (rw [toNat_c]; exact hkb.ld hx))) rfl ?_; clear hF a; intro a hF
  refine a_vg (i := 21) rfl (by kernel_rfl) hF rfl (fun w2 hx => v_move rfl) rfl ?_; clear hF a; intro a hF
  refine a_vg (i := 22) rfl (by kernel_rfl) hF rfl (fun w2 hx => v_ixS sl27 rfl rfl (by decide) (by omega)) rfl ?_; clear hF a; intro a hF
  refine a_vg (i := 23) rfl (by kernel_rfl) hF rfl (fun w2 hx => v_load sc37 rfl (by first | exact hkc.ld hx | (rw [toNat_c]; exact hkc.ld hx))) rfl ?_; clear hF a; intro a hF
  refine a_vg (i := 24) rfl (by kernel_rfl) hF rfl (fun w2 hx => v_move rfl) rfl ?_; clear hF a; intro a hF
  refine a_vg (i := 25) rfl (by kernel_rfl) hF rfl (fun w2 hx => v_move rfl) rfl ?_; clear hF a; intro a hF
  refine a_vg (i := 26) rfl (by kernel_rfl) hF rfl (fun w2 hx => (v_subI rfl rfl (by omega)).as (show Value.int .i64 ((k1 : Int) - 1) = .int .i64 ((k1 - 1 : Nat) : Int) by congr 1; omega)) rfl ?_; clear hF a; intro a hF
  refine a_vg (i := 27) rfl (by kernel_rfl) hF rfl (fun w2 hx => v_ixS sl27 rfl rfl (by omega) (by omega)) rfl ?_; clear hF a; intro a hF
  refine a_vg (i := 28) rfl (by kernel_rfl) hF rfl (fun w2 hx => v_load sc37 rfl (by first | exact hkd.ld hx | (rw [toNat_c]; exact hkd.ld hx))) rfl ?_; clear hF a; intro a hF
  refine a_e2 (i := 20) (i' := 29) rfl rfl (by kernel_rfl) ?_ ?_
  · skip
    refine svg hF rfl ?_
    refine s_bs (D := FDx) (B := B) hF sl27 rfl rfl (by decide) (by simp [Value.cells]) (by decide) hS.inv rfl ?_; clear hF a; intro w' a hm hI' h1 hF
    have hS' := (St.refl hS.inv).mb0 hm
    refine WL_nil ⟨hS'.ext, ?_⟩
    clear hS'
    replace hra := (hra.mb hm (fun _ h => by cases h)).mono hm.size
    replace hrb := (hrb.mb hm (fun _ h => by cases h)).mono hm.size
    replace hrc := (hrc.mb hm (fun _ h => by cases h)).mono hm.size
    replace hrd := (hrd.mb hm (fun _ h => by cases h)).mono hm.size
    replace hS := hS.mb0 hm
    clear hm hI'
    refine a_e (i := 29) rfl (by kernel_rfl) ?_
    refine svg hF rfl ?_
    refine s_bs (D := FDx) (B := B) hF sl27 rfl rfl (by decide) (by simp [Value.cells]) (by decide) hS.inv rfl ?_; clear hF a; intro w' a hm hI' h2 hF
    have hS' := (St.refl hS.inv).mb0 hm
    refine WL_nil ⟨hS'.ext, ?_⟩
    clear hS'
    replace hra := (hra.mb hm (fun _ h => by cases h)).mono hm.size
    replace hrb := (hrb.mb hm (fun _ h => by cases h)).mono hm.size
    replace hrc := (hrc.mb hm (fun _ h => by cases h)).mono hm.size
    replace hrd := (hrd.mb hm (fun _ h => by cases h)).mono hm.size
    replace h1 := h1.mb hm (fun _ _ => by simp)
    replace hS := hS.mb0 hm
    clear hm hI'
    refine a_e (i := 30) rfl (by kernel_rfl) ?_
    refine svg hF rfl ?_
    refine sc hF rfl rfl rfl en21 rfl (Same4_t B _ _ _ [trow k1 (extT (some (wb, p)) k1 m1) 0, trow k1 (extT (some (wb, p)) k1 m1) (k1 + m1 - 1)] _ _ [trow k1 I1 0, trow k1 I1 (k1 - 1)] _ hS.inv (Mat.two h1 (by decide) hra hrb) (Mat.two h2 (by decide) hrc hrd) (by simp) (by intro r hr; simp at hr; rcases hr with rfl | rfl <;> simp <;> omega) (ext_ends hp (k := k1) (m := m1) (by omega) (by omega) (by omega))) ?_; clear hF a; intro v w' a hv hF
    obtain ⟨rfl, hS'⟩ := hv
    refine WL_nil ⟨hS'.ext, ?_⟩
    replace hS := hS.trans hS'
    clear hS'
    refine a_v (i := 31) rfl (by kernel_rfl) hF (fun w2 hx => v_pickT rfl rfl) rfl ?_; clear hF a; intro a hF
    refine a_v (i := 32) rfl (by kernel_rfl) hF (fun w2 hx => v_assign rfl) rfl ?_; clear hF a; intro a hF
    refine a_done (by kernel_rfl) (hK _ _ ?_)
    clear hK K
    replace hF := hF.sub _ (c_ 6 rfl (n_))
    refine W_ret ?_
    refine ⟨_, _, hF, rfl, ?_⟩
    exact ⟨rfl, hS⟩
  · skip
    refine svg hF rfl ?_
    refine s_bs (D := FDx) (B := B) hF sl27 rfl rfl (by decide) (by simp [Value.cells]) (by decide) hS.inv rfl ?_; clear hF a; intro w' a hm hI' h2 hF
    have hS' := (St.refl hS.inv).mb0 hm
    refine WL_nil ⟨hS'.ext, ?_⟩
    clear hS'
    replace hra := (hra.mb hm (fun _ h => by cases h)).mono hm.size
    replace hrb := (hrb.mb hm (fun _ h => by cases h)).mono hm.size
    replace hrc := (hrc.mb hm (fun _ h => by cases h)).mono hm.size
    replace hrd := (hrd.mb hm (fun _ h => by cases h)).mono hm.size
    replace hS := hS.mb0 hm
    clear hm hI'
    refine a_e (i := 20) rfl (by kernel_rfl) ?_
    refine svg hF rfl ?_
    refine s_bs (D := FDx) (B := B) hF sl27 rfl rfl (by decide) (by simp [Value.cells]) (by decide) hS.inv rfl ?_; clear hF a; intro w' a hm hI' h1 hF
    have hS' := (St.refl hS.inv).mb0 hm
    refine WL_nil ⟨hS'.ext, ?_⟩
    clear hS'
    replace hra := (hra.mb hm (fun _ h => by cases h)).mono hm.size
    replace hrb := (hrb.mb hm (fun _ h => by cases h)).mono hm.size
    replace hrc := (hrc.mb hm (fun _ h => by cases h)).mono hm.size
    replace hrd := (hrd.mb hm (fun _ h => by cases h)).mono hm.size
    replace h2 := h2.mb hm (fun _ _ => by simp)
    replace hS := hS.mb0 hm
    clear hm hI'
    refine a_e (i := 30) rfl (by kernel_rfl) ?_
    refine svg hF rfl ?_
    refine sc hF rfl rfl rfl en21 rfl (Same4_t B _ _ _ [trow k1 (extT (some (wb, p)) k1 m1) 0, trow k1 (extT (some (wb, p)) k1 m1) (k1 + m1 - 1)] _ _ [trow k1 I1 0, trow k1 I1 (k1 - 1)] _ hS.inv (Mat.two h1 (by decide) hra hrb) (Mat.two h2 (by decide) hrc hrd) (by simp) (by intro r hr; simp at hr; rcases hr with rfl | rfl <;> simp <;> omega) (ext_ends hp (k := k1) (m := m1) (by omega) (by omega) (by omega))) ?_; clear hF a; intro v w' a hv hF
    obtain ⟨rfl, hS'⟩ := hv
    refine WL_nil ⟨hS'.ext, ?_⟩
    replace hS := hS.trans hS'
    clear hS'
    refine a_v (i := 31) rfl (by kernel_rfl) hF (fun w2 hx => v_pickT rfl rfl) rfl ?_; clear hF a; intro a hF
    refine a_v (i := 32) rfl (by kernel_rfl) hF (fun w2 hx => v_assign rfl) rfl ?_; clear hF a; intro a hF
    refine a_done (by kernel_rfl) (hK _ _ ?_)
    clear hK K
    replace hF := hF.sub _ (c_ 6 rfl (n_))
    refine W_ret ?_
    refine ⟨_, _, hF, rfl, ?_⟩
    exact ⟨rfl, hS⟩

end Go.Proofs.Ytaeljbdpjiciaaa
