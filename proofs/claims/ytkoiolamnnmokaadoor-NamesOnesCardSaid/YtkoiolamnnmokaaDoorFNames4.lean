/- The walk of names.Set. -/
import Derived.Test.YtkoiolamnnmokaaDoorFNames
set_option linter.unusedVariables false
set_option linter.unusedSimpArgs false
namespace Go.Proofs.YtkoiolamnnmokaaDoor
open Go Go.Gam


namespace FxFNames4
theorem en14 : Ent Tryd.prog 14 := ent Tryd.func14 (by kernel_rfl) (by kernel_rfl)
theorem en23 : Ent Tryd.prog 23 := ent Tryd.func23 (by kernel_rfl) (by kernel_rfl)
theorem en30 : Ent Tryd.prog 30 := ent Tryd.func30 (by kernel_rfl) (by kernel_rfl)
theorem fa35_1 : FieldFact Tryd.prog 35 1 1 := ff_of (sz := 0) Tryd.underlying35 (by kernel_rfl)
theorem fa35_2 : FieldFact Tryd.prog 35 2 2 := ff_of (sz := 0) Tryd.underlying35 (by kernel_rfl)
theorem sc3 : Scalar Tryd.prog 3 := ⟨_, Tryd.underlying3, by simp, by simp⟩
theorem sc9 : Scalar Tryd.prog 9 := ⟨_, Tryd.underlying9, by simp, by simp⟩
theorem sl54 : Sl Tryd.prog 54 9 (.string ⟨#[]⟩) 16 := sl_of Tryd.underlying54 rfl (by kernel_rfl)
theorem sl78 : Sl Tryd.prog 78 3 (.int .i64 0) 8 := sl_of Tryd.underlying78 rfl (by kernel_rfl)
end FxFNames4
open FxFNames4

set_option maxRecDepth 100000 in
set_option maxHeartbeats 1000000 in
theorem Set_ok (B : Nat) (nm : List UInt8) (p k m : Int) (w : World) (hI : Inv FDx B w) : Ret Tryd.prog 21 [.string (str nm), .agg #[.int .i64 p, .int .i64 k, .int .i64 m]] w fun v w' => ∃ u ob, v = .tuple #[u, .int .i64 (setR nm p k m).2] ∧ Gam.Own FDx B w.heap.size w' 9 u ob (strs (setR nm p k m).1) ∧ St FDx B w w' := by
  refine enter2 39 [(0, .string (str nm)), (1, .agg #[.int .i64 p, .int .i64 k, .int .i64 m])] 4 5 Tryd.func21 rfl rfl rfl rfl rfl ?_; intro a hF
  have hS := St.refl hI
  refine W_sr rfl (fun K hK => ?_)
  refine s_box (D := FDx) (B := B) hF rfl (by decide) hS.inv rfl ?_; clear hF a; intro w' a hm hbx hsz hF
  replace hS := hS.mb0 hm
  clear hm
  obtain ⟨g3, hg3⟩ : ∃ g, g = w.heap.size := ⟨_, rfl⟩
  rw [← hg3] at hbx hF
  refine sv hF (v_assign rfl) rfl ?_; clear hF a; intro a hF
  refine sv hF (v_assign rfl) rfl ?_; clear hF a; intro a hF
  refine WL_nil (hK _ _ ?_)
  clear hK K
  replace hF := hF.sub _ (c_ 5 rfl (c_ 4 rfl (c_ 3 rfl (c_ 0 rfl (n_)))))
  refine W_seq ?_
  refine W_sr rfl (fun K hK => ?_)
  refine sv hF (v_move rfl) rfl ?_; clear hF a; intro a hF
  refine sc hF rfl rfl rfl en23 rfl (May_ok B nm _ hS.inv) ?_; clear hF a; intro v w' a hv hF
  obtain ⟨rfl, hS'⟩ := hv
  replace hbx := hbx.st (by decide) hS'
  replace hS := hS.trans hS'
  clear hS'
  refine sb hF (v_not rfl) rfl ?_ ?_
  · clear hF a; intro hc1 a hF
    try simp only [decide_eq_true_eq, decide_eq_false_iff_not, Bool.not_eq_true', Bool.not_eq_false', Bool.not_true, Bool.not_false] at hc1
    refine sv hF (v_move rfl) rfl ?_; clear hF a; intro a hF
    refine svn hF rfl rfl rfl ?_; clear hF a; intro a hF
    refine svn hF rfl rfl rfl ?_; clear hF a; intro a hF
    refine svn hF rfl rfl rfl ?_; clear hF a; intro a hF
    refine sv hF (v_pickT rfl rfl) rfl ?_; clear hF a; intro a hF
    refine WL_nil (hK _ _ ?_)
    clear hK K
    replace hF := hF.sub _ (c_ 17 rfl (c_ 5 rfl (c_ 4 rfl (c_ 3 rfl (c_ 0 rfl (n_))))))
    refine W_ifT hF rfl ?_
    refine W_sr rfl (fun K hK => ?_)
    refine sv hF (v_assign rfl) rfl ?_; clear hF a; intro a hF
    refine sv hF (v_assign rfl) rfl ?_; clear hF a; intro a hF
    refine WL_nil (hK _ _ ?_)
    clear hK K
    replace hF := hF.sub _ (c_ 5 rfl (c_ 4 rfl (c_ 3 rfl (c_ 0 rfl (n_)))))
    refine W_ret ?_
    refine ⟨_, _, _, hF, rfl, rfl, ?_⟩
    rw [setR_no (fun h => by obtain ⟨h1, h2⟩ := h; simp_all)]
    exact ⟨_, none, rfl, Gam.Own.nil _ _ _ _ _, hS⟩
  · clear hF a; intro hc1 a hF
    try simp only [decide_eq_true_eq, decide_eq_false_iff_not, Bool.not_eq_true', Bool.not_eq_false', Bool.not_true, Bool.not_false] at hc1
    refine sv hF (v_move rfl) rfl ?_; clear hF a; intro a hF
    refine svg hF rfl ?_
    refine sv hF (v_loadN Tryd.underlying35 rfl (by kernel_rfl) rfl hbx) rfl ?_; clear hF a; intro a hF
    refine svg hF rfl ?_
    refine sc hF rfl rfl rfl en30 rfl (PMay_ok B p k m _ hS.inv) ?_; clear hF a; intro v w' a hv hF
    obtain ⟨rfl, hS'⟩ := hv
    replace hbx := hbx.st (by decide) hS'
    replace hS := hS.trans hS'
    clear hS'
    refine svg hF rfl ?_
    refine sv hF (v_not rfl) rfl ?_; clear hF a; intro a hF
    refine sv hF (v_pickF rfl rfl) rfl ?_; clear hF a; intro a hF
    refine WL_nil (hK _ _ ?_)
    clear hK K
    replace hF := hF.sub _ (c_ 17 rfl (c_ 5 rfl (c_ 4 rfl (c_ 3 rfl (c_ 0 rfl (n_))))))
    refine W_if hF rfl (fun hc2 => ?_) (fun hc2 => ?_)
    · skip
      try simp only [decide_eq_true_eq, decide_eq_false_iff_not, Bool.not_eq_true', Bool.not_eq_false', Bool.not_true, Bool.not_false] at hc2
      refine W_sr rfl (fun K hK => ?_)
      refine sv hF (v_assign rfl) rfl ?_; clear hF a; intro a hF
      refine sv hF (v_assign rfl) rfl ?_; clear hF a; intro a hF
      refine WL_nil (hK _ _ ?_)
      clear hK K
      replace hF := hF.sub _ (c_ 5 rfl (c_ 4 rfl (c_ 3 rfl (c_ 0 rfl (n_)))))
      refine W_ret ?_
      refine ⟨_, _, _, hF, rfl, rfl, ?_⟩
      rw [setR_no (fun h => by obtain ⟨h1, h2⟩ := h; simp_all)]
      exact ⟨_, none, rfl, Gam.Own.nil _ _ _ _ _, hS⟩
    · skip
      try simp only [decide_eq_true_eq, decide_eq_false_iff_not, Bool.not_eq_true', Bool.not_eq_false', Bool.not_true, Bool.not_false] at hc2
      refine W_skip ?_
      have hms : mayS nm = true := by simpa using hc1
      have hmay : mayP p k m = true := by simpa using hc2
      have hml := mayS_len hms
      have hmay2 := mayP_of hmay
      obtain ⟨hp1, hp2, kn, mn, rfl, rfl, hk1, hk2, hm1, hm2, -⟩ := hmay2
      refine W_sr rfl (fun K hK => ?_)
      refine sv hF (v_assign rfl) rfl ?_; clear hF a; intro a hF
      refine WL_nil (hK _ _ ?_)
      clear hK K
      replace hF := hF.sub _ (c_ 6 rfl (c_ 5 rfl (c_ 4 rfl (c_ 3 rfl (c_ 0 rfl (n_))))))
      refine W_seq ?_
      refine W_sr rfl (fun K hK => ?_)
      refine sv hF (v_fieldAddr fa35_1 rfl) rfl ?_; clear hF a; intro a hF
      refine sv hF (v_load sc3 rfl (hbx.at 1 rfl)) rfl ?_; clear hF a; intro a hF
      refine sv hF (v_fieldAddr fa35_2 rfl) rfl ?_; clear hF a; intro a hF
      refine sv hF (v_load sc3 rfl (hbx.at 2 rfl)) rfl ?_; clear hF a; intro a hF
      refine sv hF ((v_addI rfl rfl (by omega)).as (show Value.int .i64 ((kn : Int) + (mn : Int)) = .int .i64 ((kn + mn : Nat) : Int) by simp)) rfl ?_; clear hF a; intro a hF
      refine sv hF (v_move rfl) rfl ?_; clear hF a; intro a hF
      refine WL_nil (hK _ _ ?_)
      clear hK K
      replace hF := hF.sub _ (c_ 23 rfl (c_ 22 rfl (c_ 6 rfl (c_ 5 rfl (c_ 4 rfl (c_ 3 rfl (c_ 0 rfl (n_))))))))
      refine W_block ?_
      refine W_loop (fun q a w1 => ∃ (i : Nat) (v6 : Value) (b6 : Option Nat), Fr 39 [(0, .string (str nm)), (3, .pointer (some ⟨g3, 0, none⟩)), (6, v6), (22, .int .i64 ((kn + mn : Nat) : Int)), (23, .int .i64 (i : Int))] a ∧ (St FDx B w w1) ∧ (Blk w1 g3 35 [.int .i64 p, .int .i64 (kn : Int), .int .i64 (mn : Int)]) ∧ (Gam.Own FDx B w.heap.size w1 9 v6 b6 (strs ((List.range i).map fun i => shardN nm p kn mn i))) ∧ (i ≤ kn + mn) ∧ (q + i = kn + mn)) (kn + mn) ?_ ?_
      · skip
        exact ⟨0, _, none, hF.sub _ (c_ 0 rfl (c_ 3 rfl (c_ 6 rfl (c_ 22 rfl (c_ 23 rfl (n_)))))), hS, hbx, Gam.Own.nil _ _ _ _ _, by omega, by omega⟩
      · skip
        clear hF
        clear hS hbx
        rintro q a w1 ⟨i, v6, b6, hF, hS, hbx, hO, hi, hq⟩
        refine W_sr rfl (fun K hK => ?_)
        refine sv hF (v_lss rfl rfl) rfl ?_; clear hF a; intro a hF
        refine WL_nil (hK _ _ ?_)
        clear hK K
        refine W_seq ?_
        refine W_if hF rfl (fun hc3 => ?_) (fun hc3 => ?_)
        · skip
          try simp only [decide_eq_true_eq, decide_eq_false_iff_not, Bool.not_eq_true', Bool.not_eq_false', Bool.not_true, Bool.not_false] at hc3
          have hlt : i < kn + mn := by omega
          refine W_skip ?_
          refine W_seq ?_
          refine W_block ?_
          refine W_sr rfl (fun K hK => ?_)
          refine sv hF (v_move rfl) rfl ?_; clear hF a; intro a hF
          refine sv hF (v_assign rfl) rfl ?_; clear hF a; intro a hF
          refine WL_nil (hK _ _ ?_)
          clear hK K
          replace hF := hF.sub _ (c_ 7 rfl (c_ 0 rfl (c_ 3 rfl (c_ 6 rfl (c_ 22 rfl (c_ 23 rfl (n_)))))))
          refine W_sr rfl (fun K hK => ?_)
          refine sv hF (v_move rfl) rfl ?_; clear hF a; intro a hF
          refine sv hF (v_loadN Tryd.underlying35 rfl (by kernel_rfl) rfl hbx) rfl ?_; clear hF a; intro a hF
          refine sv hF (v_move rfl) rfl ?_; clear hF a; intro a hF
          refine sc hF rfl rfl rfl en14 rfl (Shard_ok B nm p (kn : Int) (mn : Int) (i : Int) _ hS.inv) ?_; clear hF a; intro v w' a hv hF
          obtain ⟨rfl, hS'⟩ := hv
          replace hbx := hbx.st (by decide) hS'
          replace hO := hO.st (by decide) hS'
          replace hS := hS.trans hS'
          clear hS'
          rw [shardR_is hms hmay hlt] at hF
          refine sv hF (v_move rfl) rfl ?_; clear hF a; intro a hF
          refine sv hF (v_ext rfl rfl) rfl ?_; clear hF a; intro a hF
          refine sv hF (v_ext rfl rfl) rfl ?_; clear hF a; intro a hF
          refine sv hF (v_assign rfl) rfl ?_; clear hF a; intro a hF
          refine sv hF (v_assign rfl) rfl ?_; clear hF a; intro a hF
          refine WL_nil (hK _ _ ?_)
          clear hK K
          replace hF := hF.sub _ (c_ 8 rfl (c_ 0 rfl (c_ 3 rfl (c_ 6 rfl (c_ 22 rfl (c_ 23 rfl (n_)))))))
          refine W_reg rfl (fun K hK => ?_)
          refine sv hF (v_move rfl) rfl ?_; clear hF a; intro a hF
          refine sv hF (v_move rfl) rfl ?_; clear hF a; intro a hF
          refine s_bs (D := FDx) (B := B) hF sl54 rfl rfl (by decide) (by simp [Value.cells]) (by decide) hS.inv rfl ?_; clear hF a; intro w' a hm hI' hL hF
          replace hbx := hbx.mb hm (by simp)
          replace hO := hO.mb hm (fun _ _ => by simp)
          replace hS := hS.mb0 hm
          clear hm hI'
          refine s_app (D := FDx) (B := B) hF rfl sl54 rfl rfl hO (hL.row (by decide)) (by simp [Value.oneCell']) (by simp [strs]; omega) (by simp [strs, maxLen]; omega) (hS.ext.size) (by decide) hS.inv rfl ?_; clear hF a; intro v' b' w' a ho' hm hI' hb' hF
          replace hbx := hbx.mb hm (hbx.ne_own hO (by decide))
          replace hS := hS.mb hm (fun k h => Nat.le_trans (Nat.le_refl _) (hO.lt k h).1)
          replace hO := ho'
          clear hm hI' ho'
          refine sv hF (v_assign rfl) rfl ?_; clear hF a; intro a hF
          refine WL_nil (hK _ _ ?_)
          clear hK K
          replace hF := hF.sub _ (c_ 6 rfl (c_ 0 rfl (c_ 3 rfl (c_ 22 rfl (c_ 23 rfl (n_))))))
          refine W_reg rfl (fun K hK => ?_)
          refine sv hF (v_addI rfl rfl (by omega)) rfl ?_; clear hF a; intro a hF
          refine sv hF (v_move rfl) rfl ?_; clear hF a; intro a hF
          refine WL_nil (hK _ _ ?_)
          clear hK K
          exact ⟨q - 1, by omega, i + 1, _, _, hF.sub _ (c_ 0 rfl (c_ 3 rfl (c_ 6 rfl (c_ 22 rfl (c_ 23 rfl (n_)))))), hS, hbx, hO.cast (by rw [List.range_succ, List.map_append]; simp [strs]), by omega, by omega⟩
        · skip
          try simp only [decide_eq_true_eq, decide_eq_false_iff_not, Bool.not_eq_true', Bool.not_eq_false', Bool.not_true, Bool.not_false] at hc3
          refine W_exit rfl ?_
          refine W_sr rfl (fun K hK => ?_)
          refine sv hF (v_move rfl) rfl ?_; clear hF a; intro a hF
          refine sv hF (v_assign rfl) rfl ?_; clear hF a; intro a hF
          refine sv hF (v_assign rfl) rfl ?_; clear hF a; intro a hF
          refine WL_nil (hK _ _ ?_)
          clear hK K
          replace hF := hF.sub _ (c_ 5 rfl (c_ 4 rfl (c_ 38 rfl (c_ 0 rfl (c_ 3 rfl (c_ 6 rfl (c_ 22 rfl (c_ 23 rfl (n_)))))))))
          refine W_ret ?_
          refine ⟨_, _, _, hF, rfl, rfl, ?_⟩
          obtain rfl : i = kn + mn := by omega
          rw [setR_is hms hmay]
          exact ⟨_, _, rfl, hO, hS⟩

end Go.Proofs.YtkoiolamnnmokaaDoor
