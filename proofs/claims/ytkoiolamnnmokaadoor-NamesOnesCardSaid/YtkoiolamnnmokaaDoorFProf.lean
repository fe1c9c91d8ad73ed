/- The walks of package profile: the table, a profile. -/
import Derived.Test.YtkoiolamnnmokaaDoorFBase
set_option linter.unusedVariables false
set_option linter.unusedSimpArgs false
namespace Go.Proofs.YtkoiolamnnmokaaDoor
open Go Go.Gam


namespace FxFProf
theorem en32 : Ent Tryd.prog 32 := ent Tryd.func32 (by kernel_rfl) (by kernel_rfl)
theorem en40 : Ent Tryd.prog 40 := ent Tryd.func40 (by kernel_rfl) (by kernel_rfl)
theorem fa35_0 : FieldFact Tryd.prog 35 0 0 := ff_of (sz := 0) Tryd.underlying35 (by kernel_rfl)
theorem fa35_1 : FieldFact Tryd.prog 35 1 1 := ff_of (sz := 0) Tryd.underlying35 (by kernel_rfl)
theorem fa35_2 : FieldFact Tryd.prog 35 2 2 := ff_of (sz := 0) Tryd.underlying35 (by kernel_rfl)
theorem fa71_0 : FieldFact Tryd.prog 71 0 0 := ff_of (sz := 0) Tryd.underlying71 (by kernel_rfl)
theorem fa71_4 : FieldFact Tryd.prog 71 4 4 := ff_of (sz := 0) Tryd.underlying71 (by kernel_rfl)
theorem sc3 : Scalar Tryd.prog 3 := ⟨_, Tryd.underlying3, by simp, by simp⟩
theorem sc9 : Scalar Tryd.prog 9 := ⟨_, Tryd.underlying9, by simp, by simp⟩
theorem sl78 : Sl Tryd.prog 78 3 (.int .i64 0) 8 := sl_of Tryd.underlying78 rfl (by kernel_rfl)
end FxFProf
open FxFProf

set_option maxRecDepth 100000 in
set_option maxHeartbeats 1000000 in
theorem table_ok (B : Nat) (w : World) (hI : Inv FDx B w) : Ret Tryd.prog 40 [] w fun v w' => v = .agg prAll.toArray ∧ St FDx B w w' := by
  refine enterC 8 [] 0 80 Tryd.func40 rfl rfl rfl rfl rfl ?_; intro a hF
  have hS := St.refl hI
  refine W_sr rfl (fun K hK => ?_)
  refine s_allocN (D := FDx) (B := B) (z := .agg (prz ++ (prz ++ (prz ++ (prz ++ (prz ++ prz))))).toArray) hF (by kernel_rfl) (by decide) hS.inv rfl ?_; clear hF a; intro gT w' a hm hI' hT hF
  replace hS := hS.mb0 hm
  clear hm hI'
  refine WL_nil (hK _ _ ?_)
  clear hK K
  refine W_sr rfl (fun K hK => ?_)
  refine sv hF (v_build (cs := (prN 0).toArray) rfl (by kernel_rfl)) rfl ?_; clear hF a; intro a hF
  refine sv hF (v_build (cs := (prN 1).toArray) rfl (by kernel_rfl)) rfl ?_; clear hF a; intro a hF
  refine sv hF (v_build (cs := (prN 2).toArray) rfl (by kernel_rfl)) rfl ?_; clear hF a; intro a hF
  refine sv hF (v_build (cs := (prN 3).toArray) rfl (by kernel_rfl)) rfl ?_; clear hF a; intro a hF
  refine sv hF (v_build (cs := (prN 4).toArray) rfl (by kernel_rfl)) rfl ?_; clear hF a; intro a hF
  refine sv hF (v_build (cs := (prN 5).toArray) rfl (by kernel_rfl)) rfl ?_; clear hF a; intro a hF
  refine sv hF (v_build (cs := (prAll).toArray) rfl (by kernel_rfl)) rfl ?_; clear hF a; intro a hF
  refine s_storeN (D := FDx) (B := B) hF (by kernel_rfl) rfl rfl (rfl) (by rfl) hT hS.inv ?_; intro w' hm hI' hrc'
  replace hS := hS.mb hm (fun k h => by cases h; exact hT.low)
  replace hT := hrc'
  clear hm hI' hrc'
  refine WL_nil (hK _ _ ?_)
  clear hK K
  replace hF := hF.sub _ (c_ 0 rfl (n_))
  refine W_ret ?_
  refine ⟨_, _, _, hF, rfl, (ld_rec Tryd.underlying80 rfl (by kernel_rfl) hT), ?_⟩
  exact ⟨rfl, hS⟩

set_option maxRecDepth 100000 in
set_option maxHeartbeats 1000000 in
theorem POf_ok (B : Nat) (p : Int) (w : World) (hI : Inv FDx B w) : Ret Tryd.prog 32 [.int .i64 p] w fun v w' => v = .tuple #[.agg (prOf p).toArray, .bool (decide (1 ≤ p ∧ p ≤ 6))] ∧ St FDx B w w' := by
  refine enterCT 15 [(0, .int .i64 p)] 2 71 3 Tryd.func32 rfl rfl rfl rfl rfl ?_; intro a hF
  have hS := St.refl hI
  refine W_sr rfl (fun K hK => ?_)
  refine s_allocN (D := FDx) (B := B) (z := .agg prz.toArray) hF (by kernel_rfl) (by decide) hS.inv rfl ?_; clear hF a; intro gR w' a hm hI' hR hF
  replace hS := hS.mb0 hm
  clear hm hI'
  refine sv hF (v_assign rfl) rfl ?_; clear hF a; intro a hF
  refine WL_nil (hK _ _ ?_)
  clear hK K
  refine W_seq ?_
  refine W_sr rfl (fun K hK => ?_)
  refine sv hF (v_move rfl) rfl ?_; clear hF a; intro a hF
  refine sb hF (v_lss rfl rfl) rfl ?_ ?_
  · clear hF a; intro hc1 a hF
    try simp only [decide_eq_true_eq, decide_eq_false_iff_not, Bool.not_eq_true', Bool.not_eq_false', Bool.not_true, Bool.not_false] at hc1
    refine sv hF (v_move rfl) rfl ?_; clear hF a; intro a hF
    refine svn hF rfl rfl rfl ?_; clear hF a; intro a hF
    refine svn hF rfl rfl rfl ?_; clear hF a; intro a hF
    refine sv hF (v_pickT rfl rfl) rfl ?_; clear hF a; intro a hF
    refine WL_nil (hK _ _ ?_)
    clear hK K
    replace hF := hF.sub _ (c_ 9 rfl (c_ 3 rfl (c_ 2 rfl (c_ 0 rfl (n_)))))
    refine W_ifT hF rfl ?_
    refine W_sr rfl (fun K hK => ?_)
    refine sv hF (v_build (cs := (prz).toArray) rfl (by kernel_rfl)) rfl ?_; clear hF a; intro a hF
    refine s_storeN (D := FDx) (B := B) hF (by kernel_rfl) rfl rfl (rfl) (by rfl) hR hS.inv ?_; intro w' hm hI' hrc'
    replace hS := hS.mb hm (fun k h => by cases h; exact hR.low)
    replace hR := hrc'
    clear hm hI' hrc'
    refine sv hF (v_assign rfl) rfl ?_; clear hF a; intro a hF
    refine WL_nil (hK _ _ ?_)
    clear hK K
    replace hF := hF.sub _ (c_ 3 rfl (c_ 2 rfl (c_ 0 rfl (n_))))
    refine W_ret ?_
    refine ⟨_, _, _, _, hF, rfl, (ld_rec Tryd.underlying71 rfl (by first | (rw [List.toList_toArray, prOf_len]; kernel_rfl) | kernel_rfl) hR), rfl, ?_⟩
    exact ⟨by rw [prOf_no (by omega), decide_eq_false (by omega)], hS⟩
  · clear hF a; intro hc1 a hF
    try simp only [decide_eq_true_eq, decide_eq_false_iff_not, Bool.not_eq_true', Bool.not_eq_false', Bool.not_true, Bool.not_false] at hc1
    refine sv hF (v_move rfl) rfl ?_; clear hF a; intro a hF
    refine svg hF rfl ?_
    refine sv hF (v_move rfl) rfl ?_; clear hF a; intro a hF
    refine svg hF rfl ?_
    refine sv hF (v_gtr rfl rfl) rfl ?_; clear hF a; intro a hF
    refine sv hF (v_pickF rfl rfl) rfl ?_; clear hF a; intro a hF
    refine WL_nil (hK _ _ ?_)
    clear hK K
    replace hF := hF.sub _ (c_ 9 rfl (c_ 3 rfl (c_ 2 rfl (c_ 0 rfl (n_)))))
    refine W_if hF rfl (fun hc2 => ?_) (fun hc2 => ?_)
    · skip
      try simp only [decide_eq_true_eq, decide_eq_false_iff_not, Bool.not_eq_true', Bool.not_eq_false', Bool.not_true, Bool.not_false] at hc2
      refine W_sr rfl (fun K hK => ?_)
      refine sv hF (v_build (cs := (prz).toArray) rfl (by kernel_rfl)) rfl ?_; clear hF a; intro a hF
      refine s_storeN (D := FDx) (B := B) hF (by kernel_rfl) rfl rfl (rfl) (by rfl) hR hS.inv ?_; intro w' hm hI' hrc'
      replace hS := hS.mb hm (fun k h => by cases h; exact hR.low)
      replace hR := hrc'
      clear hm hI' hrc'
      refine sv hF (v_assign rfl) rfl ?_; clear hF a; intro a hF
      refine WL_nil (hK _ _ ?_)
      clear hK K
      replace hF := hF.sub _ (c_ 3 rfl (c_ 2 rfl (c_ 0 rfl (n_))))
      refine W_ret ?_
      refine ⟨_, _, _, _, hF, rfl, (ld_rec Tryd.underlying71 rfl (by first | (rw [List.toList_toArray, prOf_len]; kernel_rfl) | kernel_rfl) hR), rfl, ?_⟩
      exact ⟨by rw [prOf_no (by omega), decide_eq_false (by omega)], hS⟩
    · skip
      try simp only [decide_eq_true_eq, decide_eq_false_iff_not, Bool.not_eq_true', Bool.not_eq_false', Bool.not_true, Bool.not_false] at hc2
      refine W_skip ?_
      refine W_sr rfl (fun K hK => ?_)
      refine sc hF rfl rfl rfl en40 rfl (table_ok B _ hS.inv) ?_; clear hF a; intro v w' a hv hF
      obtain ⟨rfl, hS'⟩ := hv
      replace hR := hR.st hS'
      replace hS := hS.trans hS'
      clear hS'
      refine sv hF (v_move rfl) rfl ?_; clear hF a; intro a hF
      refine sv hF (v_subI rfl rfl (by omega)) rfl ?_; clear hF a; intro a hF
      refine sv hF ((v_indexR (s := 5) Tryd.underlying80 (by kernel_rfl) Tryd.underlying71 rfl rfl rfl (by omega) (by omega)).as (congrArg Value.agg (prOf_ext (p := p) (by omega) (by omega)))) rfl ?_; clear hF a; intro a hF
      refine s_storeN (D := FDx) (B := B) hF (by rw [List.size_toArray, prOf_len]; kernel_rfl) rfl rfl (prOf_one p) (by rw [List.size_toArray, prOf_len]; rfl) hR hS.inv ?_; intro w' hm hI' hrc'
      replace hS := hS.mb hm (fun k h => by cases h; exact hR.low)
      replace hR := hrc'
      clear hm hI' hrc'
      refine sv hF (v_assign rfl) rfl ?_; clear hF a; intro a hF
      refine WL_nil (hK _ _ ?_)
      clear hK K
      replace hF := hF.sub _ (c_ 3 rfl (c_ 2 rfl (n_)))
      refine W_ret ?_
      refine ⟨_, _, _, _, hF, rfl, (ld_rec Tryd.underlying71 rfl (by first | (rw [List.toList_toArray, prOf_len]; kernel_rfl) | kernel_rfl) hR), rfl, ?_⟩
      exact ⟨by rw [decide_eq_true (by omega)], hS⟩

set_option maxRecDepth 100000 in
set_option maxHeartbeats 1000000 in
theorem PMay_in (B : Nat) (p k m : Int) (w : World) (hI : Inv FDx B w) (hpp : 1 ≤ p ∧ p ≤ 6) : Ret Tryd.prog 30 [.agg #[.int .i64 p, .int .i64 k, .int .i64 m]] w fun v w' => v = .bool (mayP p k m) ∧ St FDx B w w' := by
  refine enter 34 [(0, .agg #[.int .i64 p, .int .i64 k, .int .i64 m])] 2 Tryd.func30 rfl rfl rfl rfl rfl ?_; intro a hF
  have hS := St.refl hI
  refine W_sr rfl (fun K hK => ?_)
  refine s_box (D := FDx) (B := B) hF rfl (by decide) hS.inv rfl ?_; clear hF a; intro w' a hm hbx hsz hF
  replace hS := hS.mb0 hm
  clear hm
  refine sv hF (v_assign rfl) rfl ?_; clear hF a; intro a hF
  refine WL_nil (hK _ _ ?_)
  clear hK K
  replace hF := hF.sub _ (c_ 2 rfl (c_ 1 rfl (n_)))
  refine W_sr rfl (fun K hK => ?_)
  refine sv hF (v_fieldAddr fa35_0 rfl) rfl ?_; clear hF a; intro a hF
  refine sv hF (v_load sc3 rfl (hbx.at 0 rfl)) rfl ?_; clear hF a; intro a hF
  refine sc hF rfl rfl rfl en32 rfl (POf_ok B p _ hS.inv) ?_; clear hF a; intro v w' a hv hF
  obtain ⟨rfl, hS'⟩ := hv
  replace hbx := hbx.st (by decide) hS'
  replace hS := hS.trans hS'
  clear hS'
  refine sv hF (v_move rfl) rfl ?_; clear hF a; intro a hF
  refine sv hF (v_ext rfl rfl) rfl ?_; clear hF a; intro a hF
  refine sv hF ((v_ext rfl rfl).as (congrArg Value.bool (decide_eq_true (hpp)))) rfl ?_; clear hF a; intro a hF
  have hs0 := hS.ext.size
  refine s_allocN (D := FDx) (B := B) (z := .agg prz.toArray) hF (by kernel_rfl) (by decide) hS.inv rfl ?_; clear hF a; intro gR w' a hm hI' hR hF
  replace hbx := hbx.mb hm (by simp)
  replace hS := hS.mb0 hm
  clear hm hI'
  replace hR := hR.le hs0
  clear hs0
  refine s_storeN (D := FDx) (B := B) hF (by rw [List.size_toArray, prOf_len]; kernel_rfl) rfl rfl (prOf_one p) (by rw [List.size_toArray, prOf_len]; rfl) hR hS.inv ?_; intro w' hm hI' hrc'
  replace hbx := hbx.mb hm (by intro e; cases e; exact absurd hR.blk (by intro e2; have := hbx.symm.trans e2; cases this))
  replace hS := hS.mb hm (fun k h => by cases h; exact hR.low)
  replace hR := hrc'
  clear hm hI' hrc'
  refine sv hF (v_assign rfl) rfl ?_; clear hF a; intro a hF
  refine WL_nil (hK _ _ ?_)
  clear hK K
  replace hF := hF.sub _ (c_ 4 rfl (c_ 3 rfl (c_ 2 rfl (c_ 1 rfl (n_)))))
  refine W_sr rfl (fun K hK => ?_)
  refine sv hF (v_move rfl) rfl ?_; clear hF a; intro a hF
  refine sv hF (v_move rfl) rfl ?_; clear hF a; intro a hF
  refine svg hF rfl ?_
  refine sv hF (v_fieldAddr fa35_1 rfl) rfl ?_; clear hF a; intro a hF
  refine svg hF rfl ?_
  refine sv hF (v_load sc3 rfl (hbx.at 1 rfl)) rfl ?_; clear hF a; intro a hF
  refine svg hF rfl ?_
  refine sb hF (v_geq rfl rfl) rfl ?_ ?_
  · clear hF a; intro hc1 a hF
    try simp only [decide_eq_true_eq, decide_eq_false_iff_not, Bool.not_eq_true', Bool.not_eq_false', Bool.not_true, Bool.not_false] at hc1
    refine sv hF (v_pickT rfl rfl) rfl ?_; clear hF a; intro a hF
    refine sv hF (v_move rfl) rfl ?_; clear hF a; intro a hF
    refine svg hF rfl ?_
    refine sv hF (v_fieldAddr fa35_1 rfl) rfl ?_; clear hF a; intro a hF
    refine svg hF rfl ?_
    refine sv hF (v_load sc3 rfl (hbx.at 1 rfl)) rfl ?_; clear hF a; intro a hF
    refine svg hF rfl ?_
    refine sb hF (v_leq rfl rfl) rfl ?_ ?_
    · clear hF a; intro hc2 a hF
      try simp only [decide_eq_true_eq, decide_eq_false_iff_not, Bool.not_eq_true', Bool.not_eq_false', Bool.not_true, Bool.not_false] at hc2
      refine sv hF (v_pickT rfl rfl) rfl ?_; clear hF a; intro a hF
      refine sv hF (v_move rfl) rfl ?_; clear hF a; intro a hF
      refine svg hF rfl ?_
      refine sv hF (v_fieldAddr fa35_2 rfl) rfl ?_; clear hF a; intro a hF
      refine svg hF rfl ?_
      refine sv hF (v_load sc3 rfl (hbx.at 2 rfl)) rfl ?_; clear hF a; intro a hF
      refine svg hF rfl ?_
      refine sb hF (v_geq rfl rfl) rfl ?_ ?_
      · clear hF a; intro hc3 a hF
        try simp only [decide_eq_true_eq, decide_eq_false_iff_not, Bool.not_eq_true', Bool.not_eq_false', Bool.not_true, Bool.not_false] at hc3
        refine sv hF (v_pickT rfl rfl) rfl ?_; clear hF a; intro a hF
        refine sv hF (v_move rfl) rfl ?_; clear hF a; intro a hF
        refine svg hF rfl ?_
        refine sv hF (v_fieldAddr fa35_2 rfl) rfl ?_; clear hF a; intro a hF
        refine svg hF rfl ?_
        refine sv hF (v_load sc3 rfl (hbx.at 2 rfl)) rfl ?_; clear hF a; intro a hF
        refine svg hF rfl ?_
        refine sv hF (v_fieldAddr fa71_4 rfl) rfl ?_; clear hF a; intro a hF
        refine svg hF rfl ?_
        refine sv hF (v_load sc3 rfl ((hR.kc 4 (prOf_max hpp.1 hpp.2)).c)) rfl ?_; clear hF a; intro a hF
        refine svg hF rfl ?_
        refine sv hF (v_leq rfl rfl) rfl ?_; clear hF a; intro a hF
        refine sv hF (v_pickT rfl rfl) rfl ?_; clear hF a; intro a hF
        refine sv hF (v_assign rfl) rfl ?_; clear hF a; intro a hF
        refine WL_nil (hK _ _ ?_)
        clear hK K
        replace hF := hF.sub _ (c_ 2 rfl (n_))
        refine W_ret ?_
        refine ⟨_, _, hF, rfl, ?_⟩
        exact ⟨by unfold mayP; congr 1; first | (symm; rw [decide_eq_false_iff_not]; omega) | (rw [decide_eq_decide]; omega), hS⟩
      · clear hF a; intro hc3 a hF
        try simp only [decide_eq_true_eq, decide_eq_false_iff_not, Bool.not_eq_true', Bool.not_eq_false', Bool.not_true, Bool.not_false] at hc3
        refine sv hF (v_pickT rfl rfl) rfl ?_; clear hF a; intro a hF
        refine sv hF (v_move rfl) rfl ?_; clear hF a; intro a hF
        refine svn hF rfl rfl rfl ?_; clear hF a; intro a hF
        refine svn hF rfl rfl rfl ?_; clear hF a; intro a hF
        refine svn hF rfl rfl rfl ?_; clear hF a; intro a hF
        refine svn hF rfl rfl rfl ?_; clear hF a; intro a hF
        refine svn hF rfl rfl rfl ?_; clear hF a; intro a hF
        refine sv hF (v_pickF rfl rfl) rfl ?_; clear hF a; intro a hF
        refine sv hF (v_assign rfl) rfl ?_; clear hF a; intro a hF
        refine WL_nil (hK _ _ ?_)
        clear hK K
        replace hF := hF.sub _ (c_ 2 rfl (n_))
        refine W_ret ?_
        refine ⟨_, _, hF, rfl, ?_⟩
        exact ⟨by unfold mayP; congr 1; first | (symm; rw [decide_eq_false_iff_not]; omega) | (rw [decide_eq_decide]; omega), hS⟩
    · clear hF a; intro hc2 a hF
      try simp only [decide_eq_true_eq, decide_eq_false_iff_not, Bool.not_eq_true', Bool.not_eq_false', Bool.not_true, Bool.not_false] at hc2
      refine sv hF (v_pickT rfl rfl) rfl ?_; clear hF a; intro a hF
      refine sv hF (v_move rfl) rfl ?_; clear hF a; intro a hF
      refine svn hF rfl rfl rfl ?_; clear hF a; intro a hF
      refine svn hF rfl rfl rfl ?_; clear hF a; intro a hF
      refine svn hF rfl rfl rfl ?_; clear hF a; intro a hF
      refine sv hF (v_pickF rfl rfl) rfl ?_; clear hF a; intro a hF
      refine sv hF (v_move rfl) rfl ?_; clear hF a; intro a hF
      refine svn hF rfl rfl rfl ?_; clear hF a; intro a hF
      refine svn hF rfl rfl rfl ?_; clear hF a; intro a hF
      refine svn hF rfl rfl rfl ?_; clear hF a; intro a hF
      refine svn hF rfl rfl rfl ?_; clear hF a; intro a hF
      refine svn hF rfl rfl rfl ?_; clear hF a; intro a hF
      refine sv hF (v_pickF rfl rfl) rfl ?_; clear hF a; intro a hF
      refine sv hF (v_assign rfl) rfl ?_; clear hF a; intro a hF
      refine WL_nil (hK _ _ ?_)
      clear hK K
      replace hF := hF.sub _ (c_ 2 rfl (n_))
      refine W_ret ?_
      refine ⟨_, _, hF, rfl, ?_⟩
      exact ⟨by unfold mayP; congr 1; first | (symm; rw [decide_eq_false_iff_not]; omega) | (rw [decide_eq_decide]; omega), hS⟩
  · clear hF a; intro hc1 a hF
    try simp only [decide_eq_true_eq, decide_eq_false_iff_not, Bool.not_eq_true', Bool.not_eq_false', Bool.not_true, Bool.not_false] at hc1
    refine sv hF (v_pickT rfl rfl) rfl ?_; clear hF a; intro a hF
    refine sv hF (v_move rfl) rfl ?_; clear hF a; intro a hF
    refine svn hF rfl rfl rfl ?_; clear hF a; intro a hF
    refine svn hF rfl rfl rfl ?_; clear hF a; intro a hF
    refine svn hF rfl rfl rfl ?_; clear hF a; intro a hF
    refine sv hF (v_pickF rfl rfl) rfl ?_; clear hF a; intro a hF
    refine sv hF (v_move rfl) rfl ?_; clear hF a; intro a hF
    refine svn hF rfl rfl rfl ?_; clear hF a; intro a hF
    refine svn hF rfl rfl rfl ?_; clear hF a; intro a hF
    refine svn hF rfl rfl rfl ?_; clear hF a; intro a hF
    refine sv hF (v_pickF rfl rfl) rfl ?_; clear hF a; intro a hF
    refine sv hF (v_move rfl) rfl ?_; clear hF a; intro a hF
    refine svn hF rfl rfl rfl ?_; clear hF a; intro a hF
    refine svn hF rfl rfl rfl ?_; clear hF a; intro a hF
    refine svn hF rfl rfl rfl ?_; clear hF a; intro a hF
    refine svn hF rfl rfl rfl ?_; clear hF a; intro a hF
    refine svn hF rfl rfl rfl ?_; clear hF a; intro a hF
    refine sv hF (v_pickF rfl rfl) rfl ?_; clear hF a; intro a hF
    refine sv hF (v_assign rfl) rfl ?_; clear hF a; intro a hF
    refine WL_nil (hK _ _ ?_)
    clear hK K
    replace hF := hF.sub _ (c_ 2 rfl (n_))
    refine W_ret ?_
    refine ⟨_, _, hF, rfl, ?_⟩
    exact ⟨by unfold mayP; congr 1; first | (symm; rw [decide_eq_false_iff_not]; omega) | (rw [decide_eq_decide]; omega), hS⟩

set_option maxRecDepth 100000 in
set_option maxHeartbeats 1000000 in
theorem PMay_out (B : Nat) (p k m : Int) (w : World) (hI : Inv FDx B w) (hpp : ¬ (1 ≤ p ∧ p ≤ 6)) : Ret Tryd.prog 30 [.agg #[.int .i64 p, .int .i64 k, .int .i64 m]] w fun v w' => v = .bool (mayP p k m) ∧ St FDx B w w' := by
  refine enter 34 [(0, .agg #[.int .i64 p, .int .i64 k, .int .i64 m])] 2 Tryd.func30 rfl rfl rfl rfl rfl ?_; intro a hF
  have hS := St.refl hI
  refine W_sr rfl (fun K hK => ?_)
  refine s_box (D := FDx) (B := B) hF rfl (by decide) hS.inv rfl ?_; clear hF a; intro w' a hm hbx hsz hF
  replace hS := hS.mb0 hm
  clear hm
  refine sv hF (v_assign rfl) rfl ?_; clear hF a; intro a hF
  refine WL_nil (hK _ _ ?_)
  clear hK K
  replace hF := hF.sub _ (c_ 2 rfl (c_ 1 rfl (n_)))
  refine W_sr rfl (fun K hK => ?_)
  refine sv hF (v_fieldAddr fa35_0 rfl) rfl ?_; clear hF a; intro a hF
  refine sv hF (v_load sc3 rfl (hbx.at 0 rfl)) rfl ?_; clear hF a; intro a hF
  refine sc hF rfl rfl rfl en32 rfl (POf_ok B p _ hS.inv) ?_; clear hF a; intro v w' a hv hF
  obtain ⟨rfl, hS'⟩ := hv
  replace hbx := hbx.st (by decide) hS'
  replace hS := hS.trans hS'
  clear hS'
  refine sv hF (v_move rfl) rfl ?_; clear hF a; intro a hF
  refine sv hF (v_ext rfl rfl) rfl ?_; clear hF a; intro a hF
  refine sv hF ((v_ext rfl rfl).as (congrArg Value.bool (decide_eq_false hpp))) rfl ?_; clear hF a; intro a hF
  have hs0 := hS.ext.size
  refine s_allocN (D := FDx) (B := B) (z := .agg prz.toArray) hF (by kernel_rfl) (by decide) hS.inv rfl ?_; clear hF a; intro gR w' a hm hI' hR hF
  replace hbx := hbx.mb hm (by simp)
  replace hS := hS.mb0 hm
  clear hm hI'
  replace hR := hR.le hs0
  clear hs0
  refine s_storeN (D := FDx) (B := B) hF (by rw [List.size_toArray, prOf_len]; kernel_rfl) rfl rfl (prOf_one p) (by rw [List.size_toArray, prOf_len]; rfl) hR hS.inv ?_; intro w' hm hI' hrc'
  replace hbx := hbx.mb hm (by intro e; cases e; exact absurd hR.blk (by intro e2; have := hbx.symm.trans e2; cases this))
  replace hS := hS.mb hm (fun k h => by cases h; exact hR.low)
  replace hR := hrc'
  clear hm hI' hrc'
  refine sv hF (v_assign rfl) rfl ?_; clear hF a; intro a hF
  refine WL_nil (hK _ _ ?_)
  clear hK K
  replace hF := hF.sub _ (c_ 4 rfl (c_ 3 rfl (c_ 2 rfl (c_ 1 rfl (n_)))))
  refine W_sr rfl (fun K hK => ?_)
  refine sv hF (v_move rfl) rfl ?_; clear hF a; intro a hF
  refine sv hF (v_move rfl) rfl ?_; clear hF a; intro a hF
  refine svn hF rfl rfl rfl ?_; clear hF a; intro a hF
  refine svn hF rfl rfl rfl ?_; clear hF a; intro a hF
  refine svn hF rfl rfl rfl ?_; clear hF a; intro a hF
  refine sv hF (v_pickF rfl rfl) rfl ?_; clear hF a; intro a hF
  refine sv hF (v_move rfl) rfl ?_; clear hF a; intro a hF
  refine svn hF rfl rfl rfl ?_; clear hF a; intro a hF
  refine svn hF rfl rfl rfl ?_; clear hF a; intro a hF
  refine svn hF rfl rfl rfl ?_; clear hF a; intro a hF
  refine sv hF (v_pickF rfl rfl) rfl ?_; clear hF a; intro a hF
  refine sv hF (v_move rfl) rfl ?_; clear hF a; intro a hF
  refine svn hF rfl rfl rfl ?_; clear hF a; intro a hF
  refine svn hF rfl rfl rfl ?_; clear hF a; intro a hF
  refine svn hF rfl rfl rfl ?_; clear hF a; intro a hF
  refine sv hF (v_pickF rfl rfl) rfl ?_; clear hF a; intro a hF
  refine sv hF (v_move rfl) rfl ?_; clear hF a; intro a hF
  refine svn hF rfl rfl rfl ?_; clear hF a; intro a hF
  refine svn hF rfl rfl rfl ?_; clear hF a; intro a hF
  refine svn hF rfl rfl rfl ?_; clear hF a; intro a hF
  refine svn hF rfl rfl rfl ?_; clear hF a; intro a hF
  refine svn hF rfl rfl rfl ?_; clear hF a; intro a hF
  refine sv hF (v_pickF rfl rfl) rfl ?_; clear hF a; intro a hF
  refine sv hF (v_assign rfl) rfl ?_; clear hF a; intro a hF
  refine WL_nil (hK _ _ ?_)
  clear hK K
  replace hF := hF.sub _ (c_ 2 rfl (n_))
  refine W_ret ?_
  refine ⟨_, _, hF, rfl, ?_⟩
  exact ⟨by unfold mayP; congr 1; symm; rw [decide_eq_false_iff_not]; omega, hS⟩

set_option maxRecDepth 100000 in
set_option maxHeartbeats 1000000 in
theorem PAll_ok (B : Nat) (w : World) (hI : Inv FDx B w) : Ret Tryd.prog 39 [] w fun v w' => ∃ ob, Gam.Own FDx B w.heap.size w' FDx.E v ob (zints ((List.range 6).map fun i => ((i + 1 : Nat) : Int))) ∧ St FDx B w w' := by
  refine enter 13 [] 0 Tryd.func39 rfl rfl rfl rfl rfl ?_; intro a hF
  have hS := St.refl hI
  refine W_sr rfl (fun K hK => ?_)
  refine sv hF (v_assign rfl) rfl ?_; clear hF a; intro a hF
  refine WL_nil (hK _ _ ?_)
  clear hK K
  refine W_sr rfl (fun K hK => ?_)
  refine sv hF (v_assign rfl) rfl ?_; clear hF a; intro a hF
  refine WL_nil (hK _ _ ?_)
  clear hK K
  refine W_seq ?_
  refine W_sr rfl (fun K hK => ?_)
  refine sv hF (v_move rfl) rfl ?_; clear hF a; intro a hF
  refine WL_nil (hK _ _ ?_)
  clear hK K
  refine W_block ?_
  refine W_loop (fun q a w1 => ∃ (i : Nat) (v1 : Value) (b1 : Option Nat), Fr 13 [(1, v1), (3, .int .i64 (i : Int))] a ∧ (St FDx B w w1) ∧ (Gam.Own FDx B w.heap.size w1 FDx.E v1 b1 (zints ((List.range i).map fun i => ((i + 1 : Nat) : Int)))) ∧ (i ≤ 6) ∧ (q + i = 6)) (6) ?_ ?_
  · skip
    exact ⟨0, _, none, hF.sub _ (c_ 1 rfl (c_ 3 rfl (n_))), hS, Gam.Own.nil _ _ _ _ _, by omega, by omega⟩
  · skip
    clear hF
    clear hS
    rintro q a w1 ⟨i, v1, b1, hF, hS, hO, hi, hq⟩
    refine W_sr rfl (fun K hK => ?_)
    refine sv hF (v_lss rfl rfl) rfl ?_; clear hF a; intro a hF
    refine WL_nil (hK _ _ ?_)
    clear hK K
    refine W_seq ?_
    refine W_if hF rfl (fun hc1 => ?_) (fun hc1 => ?_)
    · skip
      try simp only [decide_eq_true_eq, decide_eq_false_iff_not, Bool.not_eq_true', Bool.not_eq_false', Bool.not_true, Bool.not_false] at hc1
      have hlt : i < 6 := by omega
      refine W_skip ?_
      refine W_seq ?_
      refine W_block ?_
      refine W_sr rfl (fun K hK => ?_)
      refine sv hF (v_move rfl) rfl ?_; clear hF a; intro a hF
      refine sv hF (v_assign rfl) rfl ?_; clear hF a; intro a hF
      refine WL_nil (hK _ _ ?_)
      clear hK K
      replace hF := hF.sub _ (c_ 2 rfl (c_ 1 rfl (c_ 3 rfl (n_))))
      refine W_reg rfl (fun K hK => ?_)
      refine sv hF (v_move rfl) rfl ?_; clear hF a; intro a hF
      refine sv hF (v_move rfl) rfl ?_; clear hF a; intro a hF
      refine sv hF (v_addI rfl rfl (by omega)) rfl ?_; clear hF a; intro a hF
      refine s_bs (D := FDx) (B := B) hF sl78 rfl rfl (by decide) (by simp [Value.cells]) (by decide) hS.inv rfl ?_; clear hF a; intro w' a hm hI' hL hF
      replace hO := hO.mb hm (fun _ _ => by simp)
      replace hS := hS.mb0 hm
      clear hm hI'
      refine s_app (D := FDx) (B := B) hF rfl sl78 rfl rfl hO (hL.row (by decide)) (by simp [Value.oneCell']) (by simp; omega) (by simp [maxLen]; omega) (hS.ext.size) (by decide) hS.inv rfl ?_; clear hF a; intro v' b' w' a ho' hm hI' hb' hF
      replace hS := hS.mb hm (fun k h => Nat.le_trans (Nat.le_refl _) (hO.lt k h).1)
      replace hO := ho'
      clear hm hI' ho'
      refine sv hF (v_assign rfl) rfl ?_; clear hF a; intro a hF
      refine WL_nil (hK _ _ ?_)
      clear hK K
      replace hF := hF.sub _ (c_ 1 rfl (c_ 3 rfl (n_)))
      refine W_reg rfl (fun K hK => ?_)
      refine sv hF (v_addI rfl rfl (by omega)) rfl ?_; clear hF a; intro a hF
      refine sv hF (v_move rfl) rfl ?_; clear hF a; intro a hF
      refine WL_nil (hK _ _ ?_)
      clear hK K
      exact ⟨q - 1, by omega, i + 1, _, _, hF.sub _ (c_ 1 rfl (c_ 3 rfl (n_))), hS, hO.cast (by rw [List.range_succ, List.map_append]; simp [zints]), by omega, by omega⟩
    · skip
      try simp only [decide_eq_true_eq, decide_eq_false_iff_not, Bool.not_eq_true', Bool.not_eq_false', Bool.not_true, Bool.not_false] at hc1
      refine W_exit rfl ?_
      refine W_sr rfl (fun K hK => ?_)
      refine sv hF (v_move rfl) rfl ?_; clear hF a; intro a hF
      refine sv hF (v_assign rfl) rfl ?_; clear hF a; intro a hF
      refine WL_nil (hK _ _ ?_)
      clear hK K
      replace hF := hF.sub _ (c_ 0 rfl (c_ 12 rfl (c_ 1 rfl (c_ 3 rfl (n_)))))
      refine W_ret ?_
      refine ⟨_, _, hF, rfl, ?_⟩
      obtain rfl : i = 6 := by omega
      exact ⟨_, hO, hS⟩

set_option maxRecDepth 100000 in
set_option maxHeartbeats 1000000 in
theorem Tagged_ok (B : Nat) (s : ByteArray) (w : World) (hI : Inv FDx B w) : Ret Tryd.prog 29 [.string s] w fun v w' => v = .tuple #[.int .i64 (tagR s 0 6).1, .bool (tagR s 0 6).2] ∧ St FDx B w w' := by
  refine enter2 18 [(0, .string s)] 2 3 Tryd.func29 rfl rfl rfl rfl rfl ?_; intro a hF
  have hS := St.refl hI
  refine W_sr rfl (fun K hK => ?_)
  refine sv hF (v_assign rfl) rfl ?_; clear hF a; intro a hF
  refine sv hF (v_assign rfl) rfl ?_; clear hF a; intro a hF
  refine WL_nil (hK _ _ ?_)
  clear hK K
  refine W_seq ?_
  refine W_sr rfl (fun K hK => ?_)
  refine sc hF rfl rfl rfl en40 rfl (table_ok B _ hS.inv) ?_; clear hF a; intro v w' a hv hF
  obtain ⟨rfl, hS'⟩ := hv
  replace hS := hS.trans hS'
  clear hS'
  refine sv hF (v_move rfl) rfl ?_; clear hF a; intro a hF
  refine WL_nil (hK _ _ ?_)
  clear hK K
  refine W_block ?_
  refine W_loop (fun q a w1 => ∃ (i : Nat), Fr 18 [(0, .string s), (6, .agg prAll.toArray), (7, .int .i64 (i : Int))] a ∧ (St FDx B w w1) ∧ (tagR s 0 6 = tagR s i (6 - i)) ∧ (i ≤ 6) ∧ (q + i = 6)) (6) ?_ ?_
  · skip
    exact ⟨0, hF.sub _ (c_ 0 rfl (c_ 6 rfl (c_ 7 rfl (n_)))), hS, rfl, by omega, by omega⟩
  · skip
    clear hF
    clear hS
    rintro q a w1 ⟨i, hF, hS, ht, hi, hq⟩
    refine W_sr rfl (fun K hK => ?_)
    refine sv hF (v_lss rfl rfl) rfl ?_; clear hF a; intro a hF
    refine WL_nil (hK _ _ ?_)
    clear hK K
    refine W_seq ?_
    refine W_if hF rfl (fun hc1 => ?_) (fun hc1 => ?_)
    · skip
      try simp only [decide_eq_true_eq, decide_eq_false_iff_not, Bool.not_eq_true', Bool.not_eq_false', Bool.not_true, Bool.not_false] at hc1
      have hlt : i < 6 := by omega
      refine W_skip ?_
      refine W_seq ?_
      refine W_block ?_
      refine W_sr rfl (fun K hK => ?_)
      refine sv hF (v_move rfl) rfl ?_; clear hF a; intro a hF
      refine sv hF ((v_indexR (s := 5) Tryd.underlying80 (by kernel_rfl) Tryd.underlying71 rfl rfl rfl (by omega) (by omega)).as (congrArg Value.agg (prN_ext hlt))) rfl ?_; clear hF a; intro a hF
      have hs0 := hS.ext.size
      refine s_allocN (D := FDx) (B := B) (z := .agg prz.toArray) hF (by kernel_rfl) (by decide) hS.inv rfl ?_; clear hF a; intro gR w' a hm hI' hR hF
      replace hS := hS.mb0 hm
      clear hm hI'
      replace hR := hR.le hs0
      clear hs0
      refine sv hF (v_assign rfl) rfl ?_; clear hF a; intro a hF
      refine s_storeN (D := FDx) (B := B) hF (by rw [List.size_toArray, prN_len]; kernel_rfl) rfl rfl (prN_one i) (by rw [List.size_toArray, prN_len]; rfl) hR hS.inv ?_; intro w' hm hI' hrc'
      replace hS := hS.mb hm (fun k h => by cases h; exact hR.low)
      replace hR := hrc'
      clear hm hI' hrc'
      refine WL_nil (hK _ _ ?_)
      clear hK K
      replace hF := hF.sub _ (c_ 4 rfl (c_ 5 rfl (c_ 0 rfl (c_ 6 rfl (c_ 7 rfl (n_))))))
      refine W_sr rfl (fun K hK => ?_)
      refine sv hF (v_fieldAddr fa71_0 rfl) rfl ?_; clear hF a; intro a hF
      refine sv hF (v_load sc9 rfl ((hR.kc 0 (prN_tag i)).c)) rfl ?_; clear hF a; intro a hF
      refine sv hF (v_move rfl) rfl ?_; clear hF a; intro a hF
      refine sv hF (v_eqlS rfl rfl) rfl ?_; clear hF a; intro a hF
      refine WL_nil (hK _ _ ?_)
      clear hK K
      replace hF := hF.sub _ (c_ 14 rfl (c_ 4 rfl (c_ 0 rfl (c_ 6 rfl (c_ 7 rfl (n_))))))
      refine W_if hF rfl (fun hc2 => ?_) (fun hc2 => ?_)
      · skip
        try simp only [decide_eq_true_eq, decide_eq_false_iff_not, Bool.not_eq_true', Bool.not_eq_false', Bool.not_true, Bool.not_false] at hc2
        have heq : tagS i = s := (Go.MapKept.bytes_beq _ _).1 (by assumption)
        refine W_sr rfl (fun K hK => ?_)
        refine sv hF (v_move rfl) rfl ?_; clear hF a; intro a hF
        refine sv hF (v_addI rfl rfl (by omega)) rfl ?_; clear hF a; intro a hF
        refine sv hF (v_assign rfl) rfl ?_; clear hF a; intro a hF
        refine sv hF (v_assign rfl) rfl ?_; clear hF a; intro a hF
        refine WL_nil (hK _ _ ?_)
        clear hK K
        replace hF := hF.sub _ (c_ 3 rfl (c_ 2 rfl (c_ 0 rfl (c_ 6 rfl (c_ 7 rfl (n_))))))
        refine W_ret ?_
        refine ⟨_, _, _, hF, rfl, rfl, ?_⟩
        rw [ht, show 6 - i = 6 - (i + 1) + 1 by omega, tagR, if_pos heq]
        exact ⟨by simp, hS⟩
      · skip
        try simp only [decide_eq_true_eq, decide_eq_false_iff_not, Bool.not_eq_true', Bool.not_eq_false', Bool.not_true, Bool.not_false] at hc2
        have hne : ¬ tagS i = s := fun e => by have h9 := (Go.MapKept.bytes_beq (tagS i) s).2 e; first | exact absurd h9 (by assumption) | simp_all
        refine W_skip ?_
        refine W_reg rfl (fun K hK => ?_)
        refine sv hF (v_addI rfl rfl (by omega)) rfl ?_; clear hF a; intro a hF
        refine sv hF (v_move rfl) rfl ?_; clear hF a; intro a hF
        refine WL_nil (hK _ _ ?_)
        clear hK K
        replace hF := hF.sub _ (c_ 7 rfl (c_ 17 rfl (c_ 0 rfl (c_ 6 rfl (n_)))))
        exact ⟨q - 1, by omega, i + 1, hF.sub _ (c_ 0 rfl (c_ 6 rfl (c_ 7 rfl (n_)))), hS, by rw [ht, show 6 - i = 6 - (i + 1) + 1 by omega, tagR, if_neg hne], by omega, by omega⟩
    · skip
      try simp only [decide_eq_true_eq, decide_eq_false_iff_not, Bool.not_eq_true', Bool.not_eq_false', Bool.not_true, Bool.not_false] at hc1
      refine W_exit rfl ?_
      refine W_sr rfl (fun K hK => ?_)
      refine sv hF (v_assign rfl) rfl ?_; clear hF a; intro a hF
      refine sv hF (v_assign rfl) rfl ?_; clear hF a; intro a hF
      refine WL_nil (hK _ _ ?_)
      clear hK K
      replace hF := hF.sub _ (c_ 3 rfl (c_ 2 rfl (c_ 0 rfl (c_ 6 rfl (c_ 7 rfl (n_))))))
      refine W_ret ?_
      refine ⟨_, _, _, hF, rfl, rfl, ?_⟩
      obtain rfl : i = 6 := by omega
      rw [ht]
      exact ⟨rfl, hS⟩

end Go.Proofs.YtkoiolamnnmokaaDoor
