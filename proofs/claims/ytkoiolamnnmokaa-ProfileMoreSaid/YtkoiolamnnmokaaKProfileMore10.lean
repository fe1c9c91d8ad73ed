/- Texts of the claim ProfileMore (part 10), put together in the order of their imports. -/
import Derived.Test.YtkoiolamnnmokaaKProfileMore9
/- The walks of package profile: the table, a profile. -/
set_option linter.unusedVariables false
set_option linter.unusedSimpArgs false
namespace Go.Proofs.Ytkoiolamnnmokaa
open Go Go.Gam


namespace FxFProf
theorem en10 : Ent Try.prog 10 := ent Try.func10 (by kernel_rfl) (by kernel_rfl)
theorem en20 : Ent Try.prog 20 := ent Try.func20 (by kernel_rfl) (by kernel_rfl)
theorem en21 : Ent Try.prog 21 := ent Try.func21 (by kernel_rfl) (by kernel_rfl)
theorem en34 : Ent Try.prog 34 := ent Try.func34 (by kernel_rfl) (by kernel_rfl)
theorem fa25_0 : FieldFact Try.prog 25 0 0 := ff_of (sz := 0) Try.underlying25 (by kernel_rfl)
theorem fa25_1 : FieldFact Try.prog 25 1 1 := ff_of (sz := 0) Try.underlying25 (by kernel_rfl)
theorem fa25_2 : FieldFact Try.prog 25 2 2 := ff_of (sz := 0) Try.underlying25 (by kernel_rfl)
theorem fa36_0 : FieldFact Try.prog 36 0 0 := ff_of (sz := 0) Try.underlying36 (by kernel_rfl)
theorem fa36_1 : FieldFact Try.prog 36 1 1 := ff_of (sz := 0) Try.underlying36 (by kernel_rfl)
theorem fa36_2 : FieldFact Try.prog 36 2 2 := ff_of (sz := 0) Try.underlying36 (by kernel_rfl)
theorem fa36_4 : FieldFact Try.prog 36 4 4 := ff_of (sz := 0) Try.underlying36 (by kernel_rfl)
theorem sc3 : Scalar Try.prog 3 := ⟨_, Try.underlying3, by simp, by simp⟩
theorem sc34 : Scalar Try.prog 34 := ⟨_, Try.underlying34, by simp, by simp⟩
theorem sc9 : Scalar Try.prog 9 := ⟨_, Try.underlying9, by simp, by simp⟩
theorem sl23 : Sl Try.prog 23 3 (.int .i64 0) 8 := sl_of Try.underlying23 rfl (by kernel_rfl)
theorem sl27 : Sl Try.prog 27 23 (.slice none 0 0) 24 := sl_of Try.underlying27 rfl (by kernel_rfl)
end FxFProf
open FxFProf

set_option maxRecDepth 100000 in
set_option maxHeartbeats 1000000 in
theorem table_ok (B : Nat) (w : World) (hI : Inv FDx B w) : Ret Try.prog 20 [] w fun v w' => v = .agg prAll.toArray ∧ St FDx B w w' := by
 refine enterC 8 [] 0 49 Try.func20 rfl rfl rfl rfl rfl ?_; intro a hF
 have hS := St.refl hI
 refine W_sr rfl (fun K hK => ?_)
 refine s_allocN (D := FDx) (B := B) (z := .agg (prz ++ (prz ++ (prz ++ (prz ++ (prz ++ prz))))).toArray) hF (by kernel_rfl) (by decide) hS.inv rfl ?_; clear hF a; intro gT w' a hm hI' hT hF
 replace hS := hS.mb0 hm
 clear hm hI'
 refine WL_nil (hK _ _ ?_)
 clear hK K
 refine W_sr rfl (fun K hK => ?_)
 refine sv hF (v_build (cs := (prN 0).toArray) rfl (by kernel_rfl)) rfl ?_; clear hF a; intro a hF
 refine sv hF (v_build (cs := (prN 1).toArray) rfl (by kernel_rfl)) rfl ?_; clear hF a; intro a hF
 refine sv hF (v_build (cs := (prN 2).toArray) rfl (by kernel_rfl)) rfl ?_; clear hF a; intro a hF
 refine sv hF (v_build (cs := (prN 3).toArray) rfl (by kernel_rfl)) rfl ?_; clear hF a; intro a hF
 refine sv hF (v_build (cs := (prN 4).toArray) rfl (by kernel_rfl)) rfl ?_; clear hF a; intro a hF
 refine sv hF (v_build (cs := (prN 5).toArray) rfl (by kernel_rfl)) rfl ?_; clear hF a; intro a hF
 refine sv hF (v_build (cs := (prAll).toArray) rfl (by kernel_rfl)) rfl ?_; clear hF a; intro a hF
 refine s_storeN (D := FDx) (B := B) hF (by kernel_rfl) rfl rfl (rfl) (by rfl) hT hS.inv ?_; intro w' hm hI' hrc'
 replace hS := hS.mb hm (fun k h => by cases h; exact hT.low)
 replace hT := hrc'
 clear hm hI' hrc'
 refine WL_nil (hK _ _ ?_)
 clear hK K
 replace hF := hF.sub _ (c_ 0 rfl (n_))
 refine W_ret ?_
 refine ⟨_, _, _, hF, rfl, (ld_rec Try.underlying49 rfl (by kernel_rfl) hT), ?_⟩
 exact ⟨rfl, hS⟩

set_option maxRecDepth 100000 in
set_option maxHeartbeats 1000000 in
theorem POf_ok (B : Nat) (p : Int) (w : World) (hI : Inv FDx B w) : Ret Try.prog 10 [.int .i64 p] w fun v w' => v = .tuple #[.agg (prOf p).toArray, .bool (decide (1 ≤ p ∧ p ≤ 6))] ∧ St FDx B w w' := by
 refine enterCT 15 [(0, .int .i64 p)] 2 36 3 Try.func10 rfl rfl rfl rfl rfl ?_; intro a hF
 have hS := St.refl hI
 refine W_sr rfl (fun K hK => ?_)
 refine s_allocN (D := FDx) (B := B) (z := .agg prz.toArray) hF (by kernel_rfl) (by decide) hS.inv rfl ?_; clear hF a; intro gR w' a hm hI' hR hF
 replace hS := hS.mb0 hm
 clear hm hI'
 refine sv hF (v_assign rfl) rfl ?_; clear hF a; intro a hF
 refine WL_nil (hK _ _ ?_)
 clear hK K
 refine W_seq ?_
 refine W_sr rfl (fun K hK => ?_)
 refine sv hF (v_move rfl) rfl ?_; clear hF a; intro a hF
 refine sb hF (v_lss rfl rfl) rfl ?_ ?_
 ·
  clear hF a; intro hc1 a hF
  try simp only [dcl] at hc1
  refine sv hF (v_move rfl) rfl ?_; clear hF a; intro a hF
  refine svn hF rfl rfl rfl ?_; clear hF a; intro a hF
  refine svn hF rfl rfl rfl ?_; clear hF a; intro a hF
  refine sv hF (v_pickT rfl rfl) rfl ?_; clear hF a; intro a hF
  refine WL_nil (hK _ _ ?_)
  clear hK K
  replace hF := hF.sub _ (c_ 9 rfl (c_ 3 rfl (c_ 2 rfl (c_ 0 rfl (n_)))))
  refine W_ifT hF rfl ?_
  refine W_sr rfl (fun K hK => ?_)
  refine sv hF (v_build (cs := (prz).toArray) rfl (by kernel_rfl)) rfl ?_; clear hF a; intro a hF
  refine s_storeN (D := FDx) (B := B) hF (by kernel_rfl) rfl rfl (rfl) (by rfl) hR hS.inv ?_; intro w' hm hI' hrc'
  replace hS := hS.mb hm (fun k h => by cases h; exact hR.low)
  replace hR := hrc'
  clear hm hI' hrc'
  refine sv hF (v_assign rfl) rfl ?_; clear hF a; intro a hF
  refine WL_nil (hK _ _ ?_)
  clear hK K
  replace hF := hF.sub _ (c_ 3 rfl (c_ 2 rfl (c_ 0 rfl (n_))))
  refine W_ret ?_
  refine ⟨_, _, _, _, hF, rfl, (ld_rec Try.underlying36 rfl (by first | (rw [List.toList_toArray, prOf_len]; kernel_rfl) | kernel_rfl) hR), rfl, ?_⟩
  exact ⟨by rw [prOf_no (by omega), decide_eq_false (by omega)], hS⟩
 ·
  clear hF a; intro hc1 a hF
  try simp only [dcl] at hc1
  refine sv hF (v_move rfl) rfl ?_; clear hF a; intro a hF
  refine svg hF rfl ?_
  refine sv hF (v_move rfl) rfl ?_; clear hF a; intro a hF
  refine svg hF rfl ?_
  refine sv hF (v_gtr rfl rfl) rfl ?_; clear hF a; intro a hF
  refine sv hF (v_pickF rfl rfl) rfl ?_; clear hF a; intro a hF
  refine WL_nil (hK _ _ ?_)
  clear hK K
  replace hF := hF.sub _ (c_ 9 rfl (c_ 3 rfl (c_ 2 rfl (c_ 0 rfl (n_)))))
  refine W_if hF rfl (fun hc2 => ?_) (fun hc2 => ?_)
  ·
   skip
   try simp only [dcl] at hc2
   refine W_sr rfl (fun K hK => ?_)
   refine sv hF (v_build (cs := (prz).toArray) rfl (by kernel_rfl)) rfl ?_; clear hF a; intro a hF
   refine s_storeN (D := FDx) (B := B) hF (by kernel_rfl) rfl rfl (rfl) (by rfl) hR hS.inv ?_; intro w' hm hI' hrc'
   replace hS := hS.mb hm (fun k h => by cases h; exact hR.low)
   replace hR := hrc'
   clear hm hI' hrc'
   refine sv hF (v_assign rfl) rfl ?_; clear hF a; intro a hF
   refine WL_nil (hK _ _ ?_)
   clear hK K
   replace hF := hF.sub _ (c_ 3 rfl (c_ 2 rfl (c_ 0 rfl (n_))))
   refine W_ret ?_
   refine ⟨_, _, _, _, hF, rfl, (ld_rec Try.underlying36 rfl (by first | (rw [List.toList_toArray, prOf_len]; kernel_rfl) | kernel_rfl) hR), rfl, ?_⟩
   exact ⟨by rw [prOf_no (by omega), decide_eq_false (by omega)], hS⟩
  ·
   skip
   try simp only [dcl] at hc2
   refine W_skip ?_
   refine W_sr rfl (fun K hK => ?_)
   refine sc hF rfl rfl rfl en20 rfl (table_ok B _ hS.inv) ?_; clear hF a; intro v w' a hv hF
   obtain ⟨rfl, hS'⟩ := hv
   replace hR := hR.st hS'
   replace hS := hS.trans hS'
   clear hS'
   refine sv hF (v_move rfl) rfl ?_; clear hF a; intro a hF
   refine sv hF (v_subI rfl rfl (by omega)) rfl ?_; clear hF a; intro a hF
   refine sv hF ((v_indexR (s := 5) Try.underlying49 (by kernel_rfl) Try.underlying36 rfl rfl rfl (by omega) (by omega)).as (congrArg Value.agg (prOf_ext (p := p) (by omega) (by omega)))) rfl ?_; clear hF a; intro a hF
   refine s_storeN (D := FDx) (B := B) hF (by rw [List.size_toArray, prOf_len]; kernel_rfl) rfl rfl (prOf_one p) (by rw [List.size_toArray, prOf_len]; rfl) hR hS.inv ?_; intro w' hm hI' hrc'
   replace hS := hS.mb hm (fun k h => by cases h; exact hR.low)
   replace hR := hrc'
   clear hm hI' hrc'
   refine sv hF (v_assign rfl) rfl ?_; clear hF a; intro a hF
   refine WL_nil (hK _ _ ?_)
   clear hK K
   replace hF := hF.sub _ (c_ 3 rfl (c_ 2 rfl (n_)))
   refine W_ret ?_
   refine ⟨_, _, _, _, hF, rfl, (ld_rec Try.underlying36 rfl (by first | (rw [List.toList_toArray, prOf_len]; kernel_rfl) | kernel_rfl) hR), rfl, ?_⟩
   exact ⟨by rw [decide_eq_true (by omega)], hS⟩

set_option maxRecDepth 100000 in
set_option maxHeartbeats 1000000 in
theorem PMay_in (B : Nat) (p k m : Int) (w : World) (hI : Inv FDx B w) (hpp : 1 ≤ p ∧ p ≤ 6) : Ret Try.prog 8 [.agg #[.int .i64 p, .int .i64 k, .int .i64 m]] w fun v w' => v = .bool (mayP p k m) ∧ St FDx B w w' := by
 refine enter 34 [(0, .agg #[.int .i64 p, .int .i64 k, .int .i64 m])] 2 Try.func8 rfl rfl rfl rfl rfl ?_; intro a hF
 have hS := St.refl hI
 refine W_sr rfl (fun K hK => ?_)
 refine s_box (D := FDx) (B := B) hF rfl (by decide) hS.inv rfl ?_; clear hF a; intro w' a hm hbx hsz hF
 replace hS := hS.mb0 hm
 clear hm
 refine sv hF (v_assign rfl) rfl ?_; clear hF a; intro a hF
 refine WL_nil (hK _ _ ?_)
 clear hK K
 replace hF := hF.sub _ (c_ 2 rfl (c_ 1 rfl (n_)))
 refine W_sr rfl (fun K hK => ?_)
 refine sv hF (v_fieldAddr fa25_0 rfl) rfl ?_; clear hF a; intro a hF
 refine sv hF (v_load sc3 rfl (hbx.at 0 rfl)) rfl ?_; clear hF a; intro a hF
 refine sc hF rfl rfl rfl en10 rfl (POf_ok B p _ hS.inv) ?_; clear hF a; intro v w' a hv hF
 obtain ⟨rfl, hS'⟩ := hv
 replace hbx := hbx.st (by decide) hS'
 replace hS := hS.trans hS'
 clear hS'
 refine sv2 hF (v_move rfl) (v_ext rfl rfl) rfl rfl ?_; clear hF a; intro a hF
 refine sv hF ((v_ext rfl rfl).as (congrArg Value.bool (decide_eq_true (hpp)))) rfl ?_; clear hF a; intro a hF
 have hs0 := hS.ext.size
 refine s_allocN (D := FDx) (B := B) (z := .agg prz.toArray) hF (by kernel_rfl) (by decide) hS.inv rfl ?_; clear hF a; intro gR w' a hm hI' hR hF
 replace hbx := hbx.mb hm (by simp)
 replace hS := hS.mb0 hm
 clear hm hI'
 replace hR := hR.le hs0
 clear hs0
 refine s_storeN (D := FDx) (B := B) hF (by rw [List.size_toArray, prOf_len]; kernel_rfl) rfl rfl (prOf_one p) (by rw [List.size_toArray, prOf_len]; rfl) hR hS.inv ?_; intro w' hm hI' hrc'
 replace hbx := hbx.mb hm (by intro e; cases e; exact absurd hR.blk (by intro e2; have := hbx.symm.trans e2; cases this))
 replace hS := hS.mb hm (fun k h => by cases h; exact hR.low)
 replace hR := hrc'
 clear hm hI' hrc'
 refine sv hF (v_assign rfl) rfl ?_; clear hF a; intro a hF
 refine WL_nil (hK _ _ ?_)
 clear hK K
 replace hF := hF.sub _ (c_ 4 rfl (c_ 3 rfl (c_ 2 rfl (c_ 1 rfl (n_)))))
 refine W_sr rfl (fun K hK => ?_)
 refine sv2 hF (v_move rfl) (v_move rfl) rfl rfl ?_; clear hF a; intro a hF
 refine svg hF rfl ?_
 refine sv hF (v_fieldAddr fa25_1 rfl) rfl ?_; clear hF a; intro a hF
 refine svg hF rfl ?_
 refine sv hF (v_load sc3 rfl (hbx.at 1 rfl)) rfl ?_; clear hF a; intro a hF
 refine svg hF rfl ?_
 refine sb hF (v_geq rfl rfl) rfl ?_ ?_
 ·
  clear hF a; intro hc1 a hF
  try simp only [dcl] at hc1
  refine sv2 hF (v_pickT rfl rfl) (v_move rfl) rfl rfl ?_; clear hF a; intro a hF
  refine svg hF rfl ?_
  refine sv hF (v_fieldAddr fa25_1 rfl) rfl ?_; clear hF a; intro a hF
  refine svg hF rfl ?_
  refine sv hF (v_load sc3 rfl (hbx.at 1 rfl)) rfl ?_; clear hF a; intro a hF
  refine svg hF rfl ?_
  refine sb hF (v_leq rfl rfl) rfl ?_ ?_
  ·
   clear hF a; intro hc2 a hF
   try simp only [dcl] at hc2
   refine sv2 hF (v_pickT rfl rfl) (v_move rfl) rfl rfl ?_; clear hF a; intro a hF
   refine svg hF rfl ?_
   refine sv hF (v_fieldAddr fa25_2 rfl) rfl ?_; clear hF a; intro a hF
   refine svg hF rfl ?_
   refine sv hF (v_load sc3 rfl (hbx.at 2 rfl)) rfl ?_; clear hF a; intro a hF
   refine svg hF rfl ?_
   refine sb hF (v_geq rfl rfl) rfl ?_ ?_
   ·
    clear hF a; intro hc3 a hF
    try simp only [dcl] at hc3
    refine sv2 hF (v_pickT rfl rfl) (v_move rfl) rfl rfl ?_; clear hF a; intro a hF
    refine svg hF rfl ?_
    refine sv hF (v_fieldAddr fa25_2 rfl) rfl ?_; clear hF a; intro a hF
    refine svg hF rfl ?_
    refine sv hF (v_load sc3 rfl (hbx.at 2 rfl)) rfl ?_; clear hF a; intro a hF
    refine svg hF rfl ?_
    refine sv hF (v_fieldAddr fa36_4 rfl) rfl ?_; clear hF a; intro a hF
    refine svg hF rfl ?_
    refine sv hF (v_load sc3 rfl ((hR.kc 4 (prOf_max hpp.1 hpp.2)).c)) rfl ?_; clear hF a; intro a hF
    refine svg hF rfl ?_
    refine sv hF (v_leq rfl rfl) rfl ?_; clear hF a; intro a hF
    refine sv2 hF (v_pickT rfl rfl) (v_assign rfl) rfl rfl ?_; clear hF a; intro a hF
    refine WL_nil (hK _ _ ?_)
    clear hK K
    replace hF := hF.sub _ (c_ 2 rfl (n_))
    refine W_ret ?_
    refine ⟨_, _, hF, rfl, ?_⟩
    exact ⟨by unfold mayP; congr 1; first | (symm; rw [decide_eq_false_iff_not]; omega) | (rw [decide_eq_decide]; omega), hS⟩
   ·
    clear hF a; intro hc3 a hF
    try simp only [dcl] at hc3
    refine sv2 hF (v_pickT rfl rfl) (v_move rfl) rfl rfl ?_; clear hF a; intro a hF
    refine svn hF rfl rfl rfl ?_; clear hF a; intro a hF
    refine svn hF rfl rfl rfl ?_; clear hF a; intro a hF
    refine svn hF rfl rfl rfl ?_; clear hF a; intro a hF
    refine svn hF rfl rfl rfl ?_; clear hF a; intro a hF
    refine svn hF rfl rfl rfl ?_; clear hF a; intro a hF
    refine sv2 hF (v_pickF rfl rfl) (v_assign rfl) rfl rfl ?_; clear hF a; intro a hF
    refine WL_nil (hK _ _ ?_)
    clear hK K
    replace hF := hF.sub _ (c_ 2 rfl (n_))
    refine W_ret ?_
    refine ⟨_, _, hF, rfl, ?_⟩
    exact ⟨by unfold mayP; congr 1; first | (symm; rw [decide_eq_false_iff_not]; omega) | (rw [decide_eq_decide]; omega), hS⟩
  ·
   clear hF a; intro hc2 a hF
   try simp only [dcl] at hc2
   refine sv2 hF (v_pickT rfl rfl) (v_move rfl) rfl rfl ?_; clear hF a; intro a hF
   refine svn hF rfl rfl rfl ?_; clear hF a; intro a hF
   refine svn hF rfl rfl rfl ?_; clear hF a; intro a hF
   refine svn hF rfl rfl rfl ?_; clear hF a; intro a hF
   refine sv2 hF (v_pickF rfl rfl) (v_move rfl) rfl rfl ?_; clear hF a; intro a hF
   refine svn hF rfl rfl rfl ?_; clear hF a; intro a hF
   refine svn hF rfl rfl rfl ?_; clear hF a; intro a hF
   refine svn hF rfl rfl rfl ?_; clear hF a; intro a hF
   refine svn hF rfl rfl rfl ?_; clear hF a; intro a hF
   refine svn hF rfl rfl rfl ?_; clear hF a; intro a hF
   refine sv2 hF (v_pickF rfl rfl) (v_assign rfl) rfl rfl ?_; clear hF a; intro a hF
   refine WL_nil (hK _ _ ?_)
   clear hK K
   replace hF := hF.sub _ (c_ 2 rfl (n_))
   refine W_ret ?_
   refine ⟨_, _, hF, rfl, ?_⟩
   exact ⟨by unfold mayP; congr 1; first | (symm; rw [decide_eq_false_iff_not]; omega) | (rw [decide_eq_decide]; omega), hS⟩
 ·
  clear hF a; intro hc1 a hF
  try simp only [dcl] at hc1
  refine sv2 hF (v_pickT rfl rfl) (v_move rfl) rfl rfl ?_; clear hF a; intro a hF
  refine svn hF rfl rfl rfl ?_; clear hF a; intro a hF
  refine svn hF rfl rfl rfl ?_; clear hF a; intro a hF
  refine svn hF rfl rfl rfl ?_; clear hF a; intro a hF
  refine sv2 hF (v_pickF rfl rfl) (v_move rfl) rfl rfl ?_; clear hF a; intro a hF
  refine svn hF rfl rfl rfl ?_; clear hF a; intro a hF
  refine svn hF rfl rfl rfl ?_; clear hF a; intro a hF
  refine svn hF rfl rfl rfl ?_; clear hF a; intro a hF
  refine sv2 hF (v_pickF rfl rfl) (v_move rfl) rfl rfl ?_; clear hF a; intro a hF
  refine svn hF rfl rfl rfl ?_; clear hF a; intro a hF
  refine svn hF rfl rfl rfl ?_; clear hF a; intro a hF
  refine svn hF rfl rfl rfl ?_; clear hF a; intro a hF
  refine svn hF rfl rfl rfl ?_; clear hF a; intro a hF
  refine svn hF rfl rfl rfl ?_; clear hF a; intro a hF
  refine sv2 hF (v_pickF rfl rfl) (v_assign rfl) rfl rfl ?_; clear hF a; intro a hF
  refine WL_nil (hK _ _ ?_)
  clear hK K
  replace hF := hF.sub _ (c_ 2 rfl (n_))
  refine W_ret ?_
  refine ⟨_, _, hF, rfl, ?_⟩
  exact ⟨by unfold mayP; congr 1; first | (symm; rw [decide_eq_false_iff_not]; omega) | (rw [decide_eq_decide]; omega), hS⟩

set_option maxRecDepth 100000 in
set_option maxHeartbeats 1000000 in
theorem PMay_out (B : Nat) (p k m : Int) (w : World) (hI : Inv FDx B w) (hpp : ¬ (1 ≤ p ∧ p ≤ 6)) : Ret Try.prog 8 [.agg #[.int .i64 p, .int .i64 k, .int .i64 m]] w fun v w' => v = .bool (mayP p k m) ∧ St FDx B w w' := by
 refine enter 34 [(0, .agg #[.int .i64 p, .int .i64 k, .int .i64 m])] 2 Try.func8 rfl rfl rfl rfl rfl ?_; intro a hF
 have hS := St.refl hI
 refine W_sr rfl (fun K hK => ?_)
 refine s_box (D := FDx) (B := B) hF rfl (by decide) hS.inv rfl ?_; clear hF a; intro w' a hm hbx hsz hF
 replace hS := hS.mb0 hm
 clear hm
 refine sv hF (v_assign rfl) rfl ?_; clear hF a; intro a hF
 refine WL_nil (hK _ _ ?_)
 clear hK K
 replace hF := hF.sub _ (c_ 2 rfl (c_ 1 rfl (n_)))
 refine W_sr rfl (fun K hK => ?_)
 refine sv hF (v_fieldAddr fa25_0 rfl) rfl ?_; clear hF a; intro a hF
 refine sv hF (v_load sc3 rfl (hbx.at 0 rfl)) rfl ?_; clear hF a; intro a hF
 refine sc hF rfl rfl rfl en10 rfl (POf_ok B p _ hS.inv) ?_; clear hF a; intro v w' a hv hF
 obtain ⟨rfl, hS'⟩ := hv
 replace hbx := hbx.st (by decide) hS'
 replace hS := hS.trans hS'
 clear hS'
 refine sv2 hF (v_move rfl) (v_ext rfl rfl) rfl rfl ?_; clear hF a; intro a hF
 refine sv hF ((v_ext rfl rfl).as (congrArg Value.bool (decide_eq_false hpp))) rfl ?_; clear hF a; intro a hF
 have hs0 := hS.ext.size
 refine s_allocN (D := FDx) (B := B) (z := .agg prz.toArray) hF (by kernel_rfl) (by decide) hS.inv rfl ?_; clear hF a; intro gR w' a hm hI' hR hF
 replace hbx := hbx.mb hm (by simp)
 replace hS := hS.mb0 hm
 clear hm hI'
 replace hR := hR.le hs0
 clear hs0
 refine s_storeN (D := FDx) (B := B) hF (by rw [List.size_toArray, prOf_len]; kernel_rfl) rfl rfl (prOf_one p) (by rw [List.size_toArray, prOf_len]; rfl) hR hS.inv ?_; intro w' hm hI' hrc'
 replace hbx := hbx.mb hm (by intro e; cases e; exact absurd hR.blk (by intro e2; have := hbx.symm.trans e2; cases this))
 replace hS := hS.mb hm (fun k h => by cases h; exact hR.low)
 replace hR := hrc'
 clear hm hI' hrc'
 refine sv hF (v_assign rfl) rfl ?_; clear hF a; intro a hF
 refine WL_nil (hK _ _ ?_)
 clear hK K
 replace hF := hF.sub _ (c_ 4 rfl (c_ 3 rfl (c_ 2 rfl (c_ 1 rfl (n_)))))
 refine W_sr rfl (fun K hK => ?_)
 refine sv2 hF (v_move rfl) (v_move rfl) rfl rfl ?_; clear hF a; intro a hF
 refine svn hF rfl rfl rfl ?_; clear hF a; intro a hF
 refine svn hF rfl rfl rfl ?_; clear hF a; intro a hF
 refine svn hF rfl rfl rfl ?_; clear hF a; intro a hF
 refine sv2 hF (v_pickF rfl rfl) (v_move rfl) rfl rfl ?_; clear hF a; intro a hF
 refine svn hF rfl rfl rfl ?_; clear hF a; intro a hF
 refine svn hF rfl rfl rfl ?_; clear hF a; intro a hF
 refine svn hF rfl rfl rfl ?_; clear hF a; intro a hF
 refine sv2 hF (v_pickF rfl rfl) (v_move rfl) rfl rfl ?_; clear hF a; intro a hF
 refine svn hF rfl rfl rfl ?_; clear hF a; intro a hF
 refine svn hF rfl rfl rfl ?_; clear hF a; intro a hF
 refine svn hF rfl rfl rfl ?_; clear hF a; intro a hF
 refine sv2 hF (v_pickF rfl rfl) (v_move rfl) rfl rfl ?_; clear hF a; intro a hF
 refine svn hF rfl rfl rfl ?_; clear hF a; intro a hF
 refine svn hF rfl rfl rfl ?_; clear hF a; intro a hF
 refine svn hF rfl rfl rfl ?_; clear hF a; intro a hF
 refine svn hF rfl rfl rfl ?_; clear hF a; intro a hF
 refine svn hF rfl rfl rfl ?_; clear hF a; intro a hF
 refine sv2 hF (v_pickF rfl rfl) (v_assign rfl) rfl rfl ?_; clear hF a; intro a hF
 refine WL_nil (hK _ _ ?_)
 clear hK K
 replace hF := hF.sub _ (c_ 2 rfl (n_))
 refine W_ret ?_
 refine ⟨_, _, hF, rfl, ?_⟩
 exact ⟨by unfold mayP; congr 1; symm; rw [decide_eq_false_iff_not]; omega, hS⟩

set_option maxRecDepth 100000 in
set_option maxHeartbeats 1000000 in
theorem PAll_ok (B : Nat) (w : World) (hI : Inv FDx B w) : Ret Try.prog 11 [] w fun v w' => ∃ ob, Gam.Own FDx B w.heap.size w' FDx.E v ob (zints ((List.range 6).map fun i => ((i + 1 : Nat) : Int))) ∧ St FDx B w w' := by
 refine enter 13 [] 0 Try.func11 rfl rfl rfl rfl rfl ?_; intro a hF
 have hS := St.refl hI
 refine W_sr rfl (fun K hK => ?_)
 refine sv hF (v_assign rfl) rfl ?_; clear hF a; intro a hF
 refine WL_nil (hK _ _ ?_)
 clear hK K
 refine W_sr rfl (fun K hK => ?_)
 refine sv hF (v_assign rfl) rfl ?_; clear hF a; intro a hF
 refine WL_nil (hK _ _ ?_)
 clear hK K
 refine W_seq ?_
 refine W_sr rfl (fun K hK => ?_)
 refine sv hF (v_move rfl) rfl ?_; clear hF a; intro a hF
 refine WL_nil (hK _ _ ?_)
 clear hK K
 refine W_block ?_
 refine W_loop (fun q a w1 => ∃ (i : Nat) (v1 : Value) (b1 : Option Nat), Fr 13 [(1, v1), (3, .int .i64 (i : Int))] a ∧ (St FDx B w w1) ∧ (Gam.Own FDx B w.heap.size w1 FDx.E v1 b1 (zints ((List.range i).map fun i => ((i + 1 : Nat) : Int)))) ∧ (i ≤ 6) ∧ (q + i = 6)) (6) ?_ ?_
 ·
  skip
  exact ⟨0, _, none, hF.sub _ (c_ 1 rfl (c_ 3 rfl (n_))), hS, Gam.Own.nil _ _ _ _ _, by omega, by omega⟩
 ·
  skip
  clear hF
  clear hS
  rintro q a w1 ⟨i, v1, b1, hF, hS, hO, hi, hq⟩
  refine W_sr rfl (fun K hK => ?_)
  refine sv hF (v_lss rfl rfl) rfl ?_; clear hF a; intro a hF
  refine WL_nil (hK _ _ ?_)
  clear hK K
  refine W_seq ?_
  refine W_if hF rfl (fun hc1 => ?_) (fun hc1 => ?_)
  ·
   skip
   try simp only [dcl] at hc1
   have hlt : i < 6 := by omega
   refine W_skip ?_
   refine W_seq ?_
   refine W_block ?_
   refine W_sr rfl (fun K hK => ?_)
   refine sv2 hF (v_move rfl) (v_assign rfl) rfl rfl ?_; clear hF a; intro a hF
   refine WL_nil (hK _ _ ?_)
   clear hK K
   replace hF := hF.sub _ (c_ 2 rfl (c_ 1 rfl (c_ 3 rfl (n_))))
   refine W_reg rfl (fun K hK => ?_)
   refine sv2 hF (v_move rfl) (v_move rfl) rfl rfl ?_; clear hF a; intro a hF
   refine sv hF (v_addI rfl rfl (by omega)) rfl ?_; clear hF a; intro a hF
   refine s_bs (D := FDx) (B := B) hF sl23 rfl rfl (by decide) (by simp [Value.cells]) (by decide) hS.inv rfl ?_; clear hF a; intro w' a hm hI' hL hF
   replace hO := hO.mb hm (fun _ _ => by simp)
   replace hS := hS.mb0 hm
   clear hm hI'
   refine s_app (D := FDx) (B := B) hF rfl sl23 rfl rfl hO (hL.row (by decide)) (by simp [Value.oneCell']) (by simp; omega) (by simp [maxLen]; omega) (hS.ext.size) (by decide) hS.inv rfl ?_; clear hF a; intro v' b' w' a ho' hm hI' hb' hF
   replace hS := hS.mb hm (fun k h => Nat.le_trans (Nat.le_refl _) (hO.lt k h).1)
   replace hO := ho'
   clear hm hI' ho'
   refine sv hF (v_assign rfl) rfl ?_; clear hF a; intro a hF
   refine WL_nil (hK _ _ ?_)
   clear hK K
   replace hF := hF.sub _ (c_ 1 rfl (c_ 3 rfl (n_)))
   refine W_reg rfl (fun K hK => ?_)
   refine sv hF (v_addI rfl rfl (by omega)) rfl ?_; clear hF a; intro a hF
   refine sv hF (v_move rfl) rfl ?_; clear hF a; intro a hF
   refine WL_nil (hK _ _ ?_)
   clear hK K
   exact ⟨q - 1, by omega, i + 1, _, _, hF.sub _ (c_ 1 rfl (c_ 3 rfl (n_))), hS, hO.cast (by rw [List.range_succ, List.map_append]; simp [zints]), by omega, by omega⟩
  ·
   skip
   try simp only [dcl] at hc1
   refine W_exit rfl ?_
   refine W_sr rfl (fun K hK => ?_)
   refine sv2 hF (v_move rfl) (v_assign rfl) rfl rfl ?_; clear hF a; intro a hF
   refine WL_nil (hK _ _ ?_)
   clear hK K
   replace hF := hF.sub _ (c_ 0 rfl (c_ 12 rfl (c_ 1 rfl (c_ 3 rfl (n_)))))
   refine W_ret ?_
   refine ⟨_, _, hF, rfl, ?_⟩
   obtain rfl : i = 6 := by omega
   exact ⟨_, hO, hS⟩

set_option maxRecDepth 100000 in
set_option maxHeartbeats 1000000 in
theorem PField_in (B : Nat) (p : Int) (w : World) (hI : Inv FDx B w) (hpp : 1 ≤ p ∧ p ≤ 6) : Ret Try.prog 13 [.int .i64 p] w fun v w' => Fo FDx B w' v (some (pfl p)) ∧ St FDx B w w' := by
 refine enter 17 [(0, .int .i64 p)] 2 Try.func13 rfl rfl rfl rfl rfl ?_; intro a hF
 have hS := St.refl hI
 refine W_sr rfl (fun K hK => ?_)
 refine sv hF (v_assign rfl) rfl ?_; clear hF a; intro a hF
 refine WL_nil (hK _ _ ?_)
 clear hK K
 refine W_sr rfl (fun K hK => ?_)
 refine sv hF (v_move rfl) rfl ?_; clear hF a; intro a hF
 refine sc hF rfl rfl rfl en10 rfl (POf_ok B p _ hS.inv) ?_; clear hF a; intro v w' a hv hF
 obtain ⟨rfl, hS'⟩ := hv
 replace hS := hS.trans hS'
 clear hS'
 refine sv2 hF (v_move rfl) (v_ext rfl rfl) rfl rfl ?_; clear hF a; intro a hF
 refine sv hF ((v_ext rfl rfl).as (congrArg Value.bool (decide_eq_true (hpp)))) rfl ?_; clear hF a; intro a hF
 have hs0 := hS.ext.size
 refine s_allocN (D := FDx) (B := B) (z := .agg prz.toArray) hF (by kernel_rfl) (by decide) hS.inv rfl ?_; clear hF a; intro gR w' a hm hI' hR hF
 replace hS := hS.mb0 hm
 clear hm hI'
 replace hR := hR.le hs0
 clear hs0
 refine s_storeN (D := FDx) (B := B) hF (by rw [List.size_toArray, prOf_len]; kernel_rfl) rfl rfl (prOf_one p) (by rw [List.size_toArray, prOf_len]; rfl) hR hS.inv ?_; intro w' hm hI' hrc'
 replace hS := hS.mb hm (fun k h => by cases h; exact hR.low)
 replace hR := hrc'
 clear hm hI' hrc'
 refine sv hF (v_assign rfl) rfl ?_; clear hF a; intro a hF
 refine WL_nil (hK _ _ ?_)
 clear hK K
 replace hF := hF.sub _ (c_ 4 rfl (c_ 3 rfl (c_ 2 rfl (n_))))
 refine W_seq ?_
 refine W_sr rfl (fun K hK => ?_)
 refine sv hF (v_move rfl) rfl ?_; clear hF a; intro a hF
 refine sv hF (v_not rfl) rfl ?_; clear hF a; intro a hF
 refine WL_nil (hK _ _ ?_)
 clear hK K
 replace hF := hF.sub _ (c_ 11 rfl (c_ 3 rfl (c_ 2 rfl (n_))))
 refine W_ifF hF rfl ?_
 refine W_skip ?_
 refine W_sr rfl (fun K hK => ?_)
 refine sv hF (v_fieldAddr fa36_1 rfl) rfl ?_; clear hF a; intro a hF
 refine sv hF (v_load sc3 rfl ((hR.kc 1 (prOf_bits hpp.1 hpp.2)).c)) rfl ?_; clear hF a; intro a hF
 refine sv hF (v_fieldAddr fa36_2 rfl) rfl ?_; clear hF a; intro a hF
 refine sv hF (v_load sc34 rfl ((hR.kc 2 (prOf_poly hpp.1 hpp.2)).c)) rfl ?_; clear hF a; intro a hF
 refine sc hF rfl rfl rfl en21 rfl (New_ok B ((pfl p).1 : Int) (pfl p).2 _ hS.inv (by have := (pfl_lt p).1; omega) (pfl_lt p).2) ?_; clear hF a; intro v w' a hv hF
 obtain ⟨hf, hS'⟩ := hv
 rw [pfl_new] at hf
 replace hR := hR.st hS'
 replace hS := hS.trans hS'
 clear hS'
 refine sv hF (v_assign rfl) rfl ?_; clear hF a; intro a hF
 refine WL_nil (hK _ _ ?_)
 clear hK K
 replace hF := hF.sub _ (c_ 2 rfl (n_))
 refine W_ret ?_
 refine ⟨_, _, hF, rfl, ?_⟩
 exact ⟨hf, hS⟩

set_option maxRecDepth 100000 in
set_option maxHeartbeats 1000000 in
theorem PField_out (B : Nat) (p : Int) (w : World) (hI : Inv FDx B w) (hpp : ¬ (1 ≤ p ∧ p ≤ 6)) : Ret Try.prog 13 [.int .i64 p] w fun v w' => v = .pointer none ∧ St FDx B w w' := by
 refine enter 17 [(0, .int .i64 p)] 2 Try.func13 rfl rfl rfl rfl rfl ?_; intro a hF
 have hS := St.refl hI
 refine W_sr rfl (fun K hK => ?_)
 refine sv hF (v_assign rfl) rfl ?_; clear hF a; intro a hF
 refine WL_nil (hK _ _ ?_)
 clear hK K
 refine W_sr rfl (fun K hK => ?_)
 refine sv hF (v_move rfl) rfl ?_; clear hF a; intro a hF
 refine sc hF rfl rfl rfl en10 rfl (POf_ok B p _ hS.inv) ?_; clear hF a; intro v w' a hv hF
 obtain ⟨rfl, hS'⟩ := hv
 replace hS := hS.trans hS'
 clear hS'
 refine sv2 hF (v_move rfl) (v_ext rfl rfl) rfl rfl ?_; clear hF a; intro a hF
 refine sv hF ((v_ext rfl rfl).as (congrArg Value.bool (decide_eq_false hpp))) rfl ?_; clear hF a; intro a hF
 have hs0 := hS.ext.size
 refine s_allocN (D := FDx) (B := B) (z := .agg prz.toArray) hF (by kernel_rfl) (by decide) hS.inv rfl ?_; clear hF a; intro gR w' a hm hI' hR hF
 replace hS := hS.mb0 hm
 clear hm hI'
 replace hR := hR.le hs0
 clear hs0
 refine s_storeN (D := FDx) (B := B) hF (by rw [List.size_toArray, prOf_len]; kernel_rfl) rfl rfl (prOf_one p) (by rw [List.size_toArray, prOf_len]; rfl) hR hS.inv ?_; intro w' hm hI' hrc'
 replace hS := hS.mb hm (fun k h => by cases h; exact hR.low)
 replace hR := hrc'
 clear hm hI' hrc'
 refine sv hF (v_assign rfl) rfl ?_; clear hF a; intro a hF
 refine WL_nil (hK _ _ ?_)
 clear hK K
 replace hF := hF.sub _ (c_ 4 rfl (c_ 3 rfl (c_ 2 rfl (n_))))
 refine W_seq ?_
 refine W_sr rfl (fun K hK => ?_)
 refine sv hF (v_move rfl) rfl ?_; clear hF a; intro a hF
 refine sv hF (v_not rfl) rfl ?_; clear hF a; intro a hF
 refine WL_nil (hK _ _ ?_)
 clear hK K
 replace hF := hF.sub _ (c_ 11 rfl (c_ 3 rfl (c_ 2 rfl (n_))))
 refine W_ifT hF rfl ?_
 refine W_sr rfl (fun K hK => ?_)
 refine sv hF (v_assign rfl) rfl ?_; clear hF a; intro a hF
 refine WL_nil (hK _ _ ?_)
 clear hK K
 replace hF := hF.sub _ (c_ 2 rfl (c_ 3 rfl (n_)))
 refine W_ret ?_
 refine ⟨_, _, hF, rfl, ?_⟩
 exact ⟨rfl, hS⟩

set_option maxRecDepth 100000 in
set_option maxHeartbeats 1000000 in
theorem behind_bad (B wb p : Nat) (hp : Prm wb p) (fv : Value) (k m : Int) (w : World) (hI : Inv FDx B w) (hf : Fo FDx B w fv (some (wb, p))) (hb : fitB (some (wb, p)) k m = false) : Ret Try.prog 19 [fv, .int .i64 k, .int .i64 m] w fun v w' => v = .tuple #[.slice none 0 0, .int .i64 1] ∧ St FDx B w w' := by
 refine enter2 23 [(0, fv), (1, .int .i64 k), (2, .int .i64 m)] 6 7 Try.func19 rfl rfl rfl rfl rfl ?_; intro a hF
 have hS := St.refl hI
 refine W_sr rfl (fun K hK => ?_)
 refine sv2 hF (v_assign rfl) (v_assign rfl) rfl rfl ?_; clear hF a; intro a hF
 refine WL_nil (hK _ _ ?_)
 clear hK K
 refine W_sr rfl (fun K hK => ?_)
 refine sv3 hF (v_move rfl) (v_move rfl) (v_move rfl) rfl rfl rfl ?_; clear hF a; intro a hF
 refine sc hF rfl rfl rfl en34 rfl (System_ok B wb p hp fv k m _ hS.inv hf) ?_; clear hF a; intro v w' a hv hF
 obtain ⟨obX, uX, rfl, hoX, hS'⟩ := hv
 rw [(sysM_no hp hb)] at hoX hF
 try simp only [Option.getD_some, Option.getD_none] at hoX
 obtain ⟨sX, cX, rfl, hX⟩ := hoX.mat (by decide) (Nat.zero_le _)
 clear hoX
 replace hf := hf.st hS'
 replace hS := hS.trans hS'
 clear hS'
 refine sv5 hF (v_move rfl) (v_ext rfl rfl) (v_ext rfl rfl) (v_assign rfl) (v_assign rfl) rfl rfl rfl rfl rfl ?_; clear hF a; intro a hF
 refine WL_nil (hK _ _ ?_)
 clear hK K
 replace hF := hF.sub _ (c_ 9 rfl (c_ 8 rfl (c_ 7 rfl (c_ 6 rfl (c_ 1 rfl (n_))))))
 refine W_seq ?_
 refine W_sr rfl (fun K hK => ?_)
 refine sv hF (v_move rfl) rfl ?_; clear hF a; intro a hF
 refine sv hF ((v_neq rfl rfl).as (congrArg Value.bool (decide_eq_true (by decide)))) rfl ?_; clear hF a; intro a hF
 refine WL_nil (hK _ _ ?_)
 clear hK K
 replace hF := hF.sub _ (c_ 18 rfl (c_ 9 rfl (c_ 8 rfl (c_ 7 rfl (c_ 6 rfl (c_ 1 rfl (n_)))))))
 refine W_ifT hF rfl ?_
 refine W_sr rfl (fun K hK => ?_)
 refine sv3 hF (v_move rfl) (v_assign rfl) (v_assign rfl) rfl rfl rfl ?_; clear hF a; intro a hF
 refine WL_nil (hK _ _ ?_)
 clear hK K
 replace hF := hF.sub _ (c_ 7 rfl (c_ 6 rfl (c_ 8 rfl (c_ 1 rfl (n_)))))
 refine W_ret ?_
 refine ⟨_, _, _, hF, rfl, rfl, ?_⟩
 exact ⟨rfl, hS⟩

set_option maxRecDepth 100000 in
set_option maxHeartbeats 1000000 in
theorem behind_fit (B wb p : Nat) (hp : Prm wb p) (fv : Value) (kn mn : Nat) (w : World) (hI : Inv FDx B w) (hf : Fo FDx B w fv (some (wb, p))) (h1 : 1 ≤ kn) (h2 : 1 ≤ mn) (h3 : kn + mn ≤ 20) : Ret Try.prog 19 [fv, .int .i64 (kn : Int), .int .i64 (mn : Int)] w fun v w' => ∃ sa cap, v = .tuple #[.slice sa mn cap, .int .i64 0] ∧ Mat FDx B w'.heap.size w' sa cap (tab mn kn fun i j => sysT hp kn (kn + i) j) ∧ St FDx B w w' := by
 refine enter2 23 [(0, fv), (1, .int .i64 (kn : Int)), (2, .int .i64 (mn : Int))] 6 7 Try.func19 rfl rfl rfl rfl rfl ?_; intro a hF
 have hS := St.refl hI
 refine W_sr rfl (fun K hK => ?_)
 refine sv2 hF (v_assign rfl) (v_assign rfl) rfl rfl ?_; clear hF a; intro a hF
 refine WL_nil (hK _ _ ?_)
 clear hK K
 refine W_sr rfl (fun K hK => ?_)
 refine sv3 hF (v_move rfl) (v_move rfl) (v_move rfl) rfl rfl rfl ?_; clear hF a; intro a hF
 refine sc hF rfl rfl rfl en34 rfl (System_ok B wb p hp fv (kn : Int) (mn : Int) _ hS.inv hf) ?_; clear hF a; intro v w' a hv hF
 obtain ⟨obX, uX, rfl, hoX, hS'⟩ := hv
 rw [(sysM_is hp h1 h2 h3)] at hoX hF
 try simp only [Option.getD_some, Option.getD_none] at hoX
 obtain ⟨sX, cX, rfl, hX⟩ := hoX.mat (by decide) (Nat.zero_le _)
 clear hoX
 replace hf := hf.st hS'
 replace hS := hS.trans hS'
 clear hS'
 refine sv5 hF (v_move rfl) (v_ext rfl rfl) (v_ext rfl rfl) (v_assign rfl) (v_assign rfl) rfl rfl rfl rfl rfl ?_; clear hF a; intro a hF
 refine WL_nil (hK _ _ ?_)
 clear hK K
 replace hF := hF.sub _ (c_ 9 rfl (c_ 8 rfl (c_ 7 rfl (c_ 6 rfl (c_ 1 rfl (n_))))))
 refine W_seq ?_
 refine W_sr rfl (fun K hK => ?_)
 refine sv hF (v_move rfl) rfl ?_; clear hF a; intro a hF
 refine sv hF ((v_neq rfl rfl).as (congrArg Value.bool (decide_eq_false (fun h => h rfl)))) rfl ?_; clear hF a; intro a hF
 refine WL_nil (hK _ _ ?_)
 clear hK K
 replace hF := hF.sub _ (c_ 18 rfl (c_ 9 rfl (c_ 8 rfl (c_ 7 rfl (c_ 6 rfl (c_ 1 rfl (n_)))))))
 refine W_ifF hF rfl ?_
 refine W_skip ?_
 have hxl : (tab (kn + mn) kn (sysT hp kn)).length = kn + mn := tab_length _ _ _
 rw [hxl] at hF
 have hcX := hX.capd
 rw [hxl] at hcX
 have hX2 := hX.from (lo := kn) (b := tab mn kn fun i j => sysT hp kn (kn + i) j) (by rw [tab_length]; omega) (by rw [tab_drop (by omega), Nat.add_sub_cancel_left])
 refine W_sr rfl (fun K hK => ?_)
 refine sv2 hF (v_move rfl) (v_move rfl) rfl rfl ?_; clear hF a; intro a hF
 refine sv hF (v_slLo sl27 rfl rfl (by omega) (by omega)) rfl ?_; clear hF a; intro a hF
 rw [show kn + mn - kn = mn by omega] at hF
 refine sv2 hF (v_assign rfl) (v_assign rfl) rfl rfl ?_; clear hF a; intro a hF
 refine WL_nil (hK _ _ ?_)
 clear hK K
 replace hF := hF.sub _ (c_ 7 rfl (c_ 6 rfl (n_)))
 refine W_ret ?_
 refine ⟨_, _, _, hF, rfl, rfl, ?_⟩
 exact ⟨_, _, rfl, hX2, hS⟩

set_option maxRecDepth 100000 in
set_option maxHeartbeats 1000000 in
theorem Tagged_ok (B : Nat) (s : ByteArray) (w : World) (hI : Inv FDx B w) : Ret Try.prog 12 [.string s] w fun v w' => v = .tuple #[.int .i64 (tagR s 0 6).1, .bool (tagR s 0 6).2] ∧ St FDx B w w' := by
 refine enter2 18 [(0, .string s)] 2 3 Try.func12 rfl rfl rfl rfl rfl ?_; intro a hF
 have hS := St.refl hI
 refine W_sr rfl (fun K hK => ?_)
 refine sv2 hF (v_assign rfl) (v_assign rfl) rfl rfl ?_; clear hF a; intro a hF
 refine WL_nil (hK _ _ ?_)
 clear hK K
 refine W_seq ?_
 refine W_sr rfl (fun K hK => ?_)
 refine sc hF rfl rfl rfl en20 rfl (table_ok B _ hS.inv) ?_; clear hF a; intro v w' a hv hF
 obtain ⟨rfl, hS'⟩ := hv
 replace hS := hS.trans hS'
 clear hS'
 refine sv hF (v_move rfl) rfl ?_; clear hF a; intro a hF
 refine WL_nil (hK _ _ ?_)
 clear hK K
 refine W_block ?_
 refine W_loop (fun q a w1 => ∃ (i : Nat), Fr 18 [(0, .string s), (6, .agg prAll.toArray), (7, .int .i64 (i : Int))] a ∧ (St FDx B w w1) ∧ (tagR s 0 6 = tagR s i (6 - i)) ∧ (i ≤ 6) ∧ (q + i = 6)) (6) ?_ ?_
 ·
  skip
  exact ⟨0, hF.sub _ (c_ 0 rfl (c_ 6 rfl (c_ 7 rfl (n_)))), hS, rfl, by omega, by omega⟩
 ·
  skip
  clear hF
  clear hS
  rintro q a w1 ⟨i, hF, hS, ht, hi, hq⟩
  refine W_sr rfl (fun K hK => ?_)
  refine sv hF (v_lss rfl rfl) rfl ?_; clear hF a; intro a hF
  refine WL_nil (hK _ _ ?_)
  clear hK K
  refine W_seq ?_
  refine W_if hF rfl (fun hc1 => ?_) (fun hc1 => ?_)
  ·
   skip
   try simp only [dcl] at hc1
   have hlt : i < 6 := by omega
   refine W_skip ?_
   refine W_seq ?_
   refine W_block ?_
   refine W_sr rfl (fun K hK => ?_)
   refine sv hF (v_move rfl) rfl ?_; clear hF a; intro a hF
   refine sv hF ((v_indexR (s := 5) Try.underlying49 (by kernel_rfl) Try.underlying36 rfl rfl rfl (by omega) (by omega)).as (congrArg Value.agg (prN_ext hlt))) rfl ?_; clear hF a; intro a hF
   have hs0 := hS.ext.size
   refine s_allocN (D := FDx) (B := B) (z := .agg prz.toArray) hF (by kernel_rfl) (by decide) hS.inv rfl ?_; clear hF a; intro gR w' a hm hI' hR hF
   replace hS := hS.mb0 hm
   clear hm hI'
   replace hR := hR.le hs0
   clear hs0
   refine sv hF (v_assign rfl) rfl ?_; clear hF a; intro a hF
   refine s_storeN (D := FDx) (B := B) hF (by rw [List.size_toArray, prN_len]; kernel_rfl) rfl rfl (prN_one i) (by rw [List.size_toArray, prN_len]; rfl) hR hS.inv ?_; intro w' hm hI' hrc'
   replace hS := hS.mb hm (fun k h => by cases h; exact hR.low)
   replace hR := hrc'
   clear hm hI' hrc'
   refine WL_nil (hK _ _ ?_)
   clear hK K
   replace hF := hF.sub _ (c_ 4 rfl (c_ 5 rfl (c_ 0 rfl (c_ 6 rfl (c_ 7 rfl (n_))))))
   refine W_sr rfl (fun K hK => ?_)
   refine sv hF (v_fieldAddr fa36_0 rfl) rfl ?_; clear hF a; intro a hF
   refine sv hF (v_load sc9 rfl ((hR.kc 0 (prN_tag i)).c)) rfl ?_; clear hF a; intro a hF
   refine sv hF (v_move rfl) rfl ?_; clear hF a; intro a hF
   refine sv hF (v_eqlS rfl rfl) rfl ?_; clear hF a; intro a hF
   refine WL_nil (hK _ _ ?_)
   clear hK K
   replace hF := hF.sub _ (c_ 14 rfl (c_ 4 rfl (c_ 0 rfl (c_ 6 rfl (c_ 7 rfl (n_))))))
   refine W_if hF rfl (fun hc2 => ?_) (fun hc2 => ?_)
   ·
    skip
    try simp only [dcl] at hc2
    have heq : tagS i = s := (Go.MapKept.bytes_beq _ _).1 (by assumption)
    refine W_sr rfl (fun K hK => ?_)
    refine sv hF (v_move rfl) rfl ?_; clear hF a; intro a hF
    refine sv hF (v_addI rfl rfl (by omega)) rfl ?_; clear hF a; intro a hF
    refine sv2 hF (v_assign rfl) (v_assign rfl) rfl rfl ?_; clear hF a; intro a hF
    refine WL_nil (hK _ _ ?_)
    clear hK K
    replace hF := hF.sub _ (c_ 3 rfl (c_ 2 rfl (c_ 0 rfl (c_ 6 rfl (c_ 7 rfl (n_))))))
    refine W_ret ?_
    refine ⟨_, _, _, hF, rfl, rfl, ?_⟩
    rw [ht, show 6 - i = 6 - (i + 1) + 1 by omega, tagR, if_pos heq]
    exact ⟨by simp, hS⟩
   ·
    skip
    try simp only [dcl] at hc2
    have hne : ¬ tagS i = s := fun e => by have h9 := (Go.MapKept.bytes_beq (tagS i) s).2 e; first | exact absurd h9 (by assumption) | simp_all
    refine W_skip ?_
    refine W_reg rfl (fun K hK => ?_)
    refine sv hF (v_addI rfl rfl (by omega)) rfl ?_; clear hF a; intro a hF
    refine sv hF (v_move rfl) rfl ?_; clear hF a; intro a hF
    refine WL_nil (hK _ _ ?_)
    clear hK K
    replace hF := hF.sub _ (c_ 7 rfl (c_ 17 rfl (c_ 0 rfl (c_ 6 rfl (n_)))))
    exact ⟨q - 1, by omega, i + 1, hF.sub _ (c_ 0 rfl (c_ 6 rfl (c_ 7 rfl (n_)))), hS, by rw [ht, show 6 - i = 6 - (i + 1) + 1 by omega, tagR, if_neg hne], by omega, by omega⟩
  ·
   skip
   try simp only [dcl] at hc1
   refine W_exit rfl ?_
   refine W_sr rfl (fun K hK => ?_)
   refine sv2 hF (v_assign rfl) (v_assign rfl) rfl rfl ?_; clear hF a; intro a hF
   refine WL_nil (hK _ _ ?_)
   clear hK K
   replace hF := hF.sub _ (c_ 3 rfl (c_ 2 rfl (c_ 0 rfl (c_ 6 rfl (c_ 7 rfl (n_))))))
   refine W_ret ?_
   refine ⟨_, _, _, hF, rfl, rfl, ?_⟩
   obtain rfl : i = 6 := by omega
   rw [ht]
   exact ⟨rfl, hS⟩

end Go.Proofs.Ytkoiolamnnmokaa

/- The walk of package jvan: rows of powers. -/
set_option linter.unusedVariables false
set_option linter.unusedSimpArgs false
namespace Go.Proofs.Ytkoiolamnnmokaa
open Go Go.Gam


namespace FxFJva
theorem en33 : Ent Try.prog 33 := ent Try.func33 (by kernel_rfl) (by kernel_rfl)
theorem on3 : Gam.One Try.prog 3 := by unfold Gam.One; kernel_rfl
theorem sc23 : Scalar Try.prog 23 := ⟨_, Try.underlying23, by simp, by simp⟩
theorem sl23 : Sl Try.prog 23 3 (.int .i64 0) 8 := sl_of Try.underlying23 rfl (by kernel_rfl)
theorem sl26 : Sl Try.prog 26 23 (.slice none 0 0) 24 := sl_of Try.underlying26 rfl (by kernel_rfl)
theorem sl27 : Sl Try.prog 27 23 (.slice none 0 0) 24 := sl_of Try.underlying27 rfl (by kernel_rfl)
end FxFJva
open FxFJva

set_option maxRecDepth 100000 in
set_option maxHeartbeats 1000000 in
theorem Extended_ok (B : Nat) (o : Fq) (fv : Value) (k m : Int) (w : World) (hI : Inv FDx B w) (hf : Fo FDx B w fv o) : Ret Try.prog 22 [fv, .int .i64 k, .int .i64 m] w fun v w' => ((fitB o k m = false ∧ v = .tuple #[.slice none 0 0, .int .i64 1]) ∨ (fitB o k m = true ∧ ∃ g cap bs rc, v = .tuple #[.slice (some ⟨g, 0, none⟩) (k + m).toNat cap, .int .i64 0] ∧ Gam.Own FDx B w.heap.size w' 23 (.slice (some ⟨g, 0, none⟩) (k + m).toNat cap) (some g) (vls (k + m).toNat k.toNat bs rc) ∧ Wr FDx B w.heap.size w'.heap.size w' (k + m).toNat k.toNat bs rc (extT o k.toNat m.toNat))) ∧ St FDx B w w' := by
 refine enter2 71 [(0, fv), (1, .int .i64 k), (2, .int .i64 m)] 6 7 Try.func22 rfl rfl rfl rfl rfl ?_; intro a hF
 have hS := St.refl hI
 have hprm := hf.prms
 obtain ⟨pa_, rfl, hpa⟩ := hf.ptr
 refine W_sr rfl (fun K hK => ?_)
 refine sv2 hF (v_assign rfl) (v_assign rfl) rfl rfl ?_; clear hF a; intro a hF
 refine WL_nil (hK _ _ ?_)
 clear hK K
 refine W_seq ?_
 refine W_sr rfl (fun K hK => ?_)
 refine sv hF (v_move rfl) rfl ?_; clear hF a; intro a hF
 refine sb hF (v_eqlNil (by exact Try.underlying44) rfl rfl) rfl ?_ ?_
 ·
  clear hF a; intro hc1 a hF
  try simp only [dcl] at hc1
  refine sv hF (v_move rfl) rfl ?_; clear hF a; intro a hF
  refine svn hF rfl rfl rfl ?_; clear hF a; intro a hF
  refine svn hF rfl rfl rfl ?_; clear hF a; intro a hF
  refine sv2 hF (v_pickT rfl rfl) (v_move rfl) rfl rfl ?_; clear hF a; intro a hF
  refine svn hF rfl rfl rfl ?_; clear hF a; intro a hF
  refine svn hF rfl rfl rfl ?_; clear hF a; intro a hF
  refine sv2 hF (v_pickT rfl rfl) (v_move rfl) rfl rfl ?_; clear hF a; intro a hF
  refine svn hF rfl rfl rfl ?_; clear hF a; intro a hF
  refine svn hF rfl rfl rfl ?_; clear hF a; intro a hF
  refine sv2 hF (v_pickT rfl rfl) (v_move rfl) rfl rfl ?_; clear hF a; intro a hF
  refine svn hF rfl rfl rfl ?_; clear hF a; intro a hF
  refine svn hF rfl rfl rfl ?_; clear hF a; intro a hF
  refine sv2 hF (v_pickT rfl rfl) (v_move rfl) rfl rfl ?_; clear hF a; intro a hF
  refine svn hF rfl rfl rfl ?_; clear hF a; intro a hF
  refine svn hF rfl rfl rfl ?_; clear hF a; intro a hF
  refine svn hF rfl rfl rfl ?_; clear hF a; intro a hF
  refine svn hF rfl rfl rfl ?_; clear hF a; intro a hF
  refine sv hF (v_pickT rfl rfl) rfl ?_; clear hF a; intro a hF
  refine WL_nil (hK _ _ ?_)
  clear hK K
  replace hF := hF.sub _ (c_ 36 rfl (c_ 7 rfl (c_ 6 rfl (c_ 0 rfl (c_ 1 rfl (c_ 2 rfl (n_)))))))
  refine W_ifT hF rfl ?_
  refine W_sr rfl (fun K hK => ?_)
  refine sv2 hF (v_assign rfl) (v_assign rfl) rfl rfl ?_; clear hF a; intro a hF
  refine WL_nil (hK _ _ ?_)
  clear hK K
  replace hF := hF.sub _ (c_ 7 rfl (c_ 6 rfl (c_ 0 rfl (c_ 1 rfl (c_ 2 rfl (n_))))))
  refine W_ret ?_
  refine ⟨_, _, _, hF, rfl, rfl, ?_⟩
  exact ⟨.inl ⟨by unfold fitB; rw [← hpa]; cases pa_ <;> first | (exfalso; simp_all; done) | rfl | (rw [decide_eq_false (by omega)]; rfl), rfl⟩, hS⟩
 ·
  clear hF a; intro hc1 a hF
  try simp only [dcl] at hc1
  refine sv hF (v_move rfl) rfl ?_; clear hF a; intro a hF
  refine svg hF rfl ?_
  refine sv hF (v_move rfl) rfl ?_; clear hF a; intro a hF
  refine svg hF rfl ?_
  refine sb hF (v_lss rfl rfl) rfl ?_ ?_
  ·
   clear hF a; intro hc2 a hF
   try simp only [dcl] at hc2
   refine sv2 hF (v_pickF rfl rfl) (v_move rfl) rfl rfl ?_; clear hF a; intro a hF
   refine svn hF rfl rfl rfl ?_; clear hF a; intro a hF
   refine svn hF rfl rfl rfl ?_; clear hF a; intro a hF
   refine sv2 hF (v_pickT rfl rfl) (v_move rfl) rfl rfl ?_; clear hF a; intro a hF
   refine svn hF rfl rfl rfl ?_; clear hF a; intro a hF
   refine svn hF rfl rfl rfl ?_; clear hF a; intro a hF
   refine sv2 hF (v_pickT rfl rfl) (v_move rfl) rfl rfl ?_; clear hF a; intro a hF
   refine svn hF rfl rfl rfl ?_; clear hF a; intro a hF
   refine svn hF rfl rfl rfl ?_; clear hF a; intro a hF
   refine sv2 hF (v_pickT rfl rfl) (v_move rfl) rfl rfl ?_; clear hF a; intro a hF
   refine svn hF rfl rfl rfl ?_; clear hF a; intro a hF
   refine svn hF rfl rfl rfl ?_; clear hF a; intro a hF
   refine svn hF rfl rfl rfl ?_; clear hF a; intro a hF
   refine svn hF rfl rfl rfl ?_; clear hF a; intro a hF
   refine sv hF (v_pickT rfl rfl) rfl ?_; clear hF a; intro a hF
   refine WL_nil (hK _ _ ?_)
   clear hK K
   replace hF := hF.sub _ (c_ 36 rfl (c_ 7 rfl (c_ 6 rfl (c_ 0 rfl (c_ 1 rfl (c_ 2 rfl (n_)))))))
   refine W_ifT hF rfl ?_
   refine W_sr rfl (fun K hK => ?_)
   refine sv2 hF (v_assign rfl) (v_assign rfl) rfl rfl ?_; clear hF a; intro a hF
   refine WL_nil (hK _ _ ?_)
   clear hK K
   replace hF := hF.sub _ (c_ 7 rfl (c_ 6 rfl (c_ 0 rfl (c_ 1 rfl (c_ 2 rfl (n_))))))
   refine W_ret ?_
   refine ⟨_, _, _, hF, rfl, rfl, ?_⟩
   exact ⟨.inl ⟨by unfold fitB; rw [← hpa]; cases pa_ <;> first | (exfalso; simp_all; done) | rfl | (rw [decide_eq_false (by omega)]; rfl), rfl⟩, hS⟩
  ·
   clear hF a; intro hc2 a hF
   try simp only [dcl] at hc2
   refine sv2 hF (v_pickF rfl rfl) (v_move rfl) rfl rfl ?_; clear hF a; intro a hF
   refine svg hF rfl ?_
   refine sv hF (v_move rfl) rfl ?_; clear hF a; intro a hF
   refine svg hF rfl ?_
   refine sb hF (v_lss rfl rfl) rfl ?_ ?_
   ·
    clear hF a; intro hc3 a hF
    try simp only [dcl] at hc3
    refine sv2 hF (v_pickF rfl rfl) (v_move rfl) rfl rfl ?_; clear hF a; intro a hF
    refine svn hF rfl rfl rfl ?_; clear hF a; intro a hF
    refine svn hF rfl rfl rfl ?_; clear hF a; intro a hF
    refine sv2 hF (v_pickT rfl rfl) (v_move rfl) rfl rfl ?_; clear hF a; intro a hF
    refine svn hF rfl rfl rfl ?_; clear hF a; intro a hF
    refine svn hF rfl rfl rfl ?_; clear hF a; intro a hF
    refine sv2 hF (v_pickT rfl rfl) (v_move rfl) rfl rfl ?_; clear hF a; intro a hF
    refine svn hF rfl rfl rfl ?_; clear hF a; intro a hF
    refine svn hF rfl rfl rfl ?_; clear hF a; intro a hF
    refine svn hF rfl rfl rfl ?_; clear hF a; intro a hF
    refine svn hF rfl rfl rfl ?_; clear hF a; intro a hF
    refine sv hF (v_pickT rfl rfl) rfl ?_; clear hF a; intro a hF
    refine WL_nil (hK _ _ ?_)
    clear hK K
    replace hF := hF.sub _ (c_ 36 rfl (c_ 7 rfl (c_ 6 rfl (c_ 0 rfl (c_ 1 rfl (c_ 2 rfl (n_)))))))
    refine W_ifT hF rfl ?_
    refine W_sr rfl (fun K hK => ?_)
    refine sv2 hF (v_assign rfl) (v_assign rfl) rfl rfl ?_; clear hF a; intro a hF
    refine WL_nil (hK _ _ ?_)
    clear hK K
    replace hF := hF.sub _ (c_ 7 rfl (c_ 6 rfl (c_ 0 rfl (c_ 1 rfl (c_ 2 rfl (n_))))))
    refine W_ret ?_
    refine ⟨_, _, _, hF, rfl, rfl, ?_⟩
    exact ⟨.inl ⟨by unfold fitB; rw [← hpa]; cases pa_ <;> first | (exfalso; simp_all; done) | rfl | (rw [decide_eq_false (by omega)]; rfl), rfl⟩, hS⟩
   ·
    clear hF a; intro hc3 a hF
    try simp only [dcl] at hc3
    refine sv2 hF (v_pickF rfl rfl) (v_move rfl) rfl rfl ?_; clear hF a; intro a hF
    refine svg hF rfl ?_
    refine sv hF (v_move rfl) rfl ?_; clear hF a; intro a hF
    refine svg hF rfl ?_
    refine sb hF (v_geq rfl rfl) rfl ?_ ?_
    ·
     clear hF a; intro hc4 a hF
     try simp only [dcl] at hc4
     refine sv2 hF (v_pickF rfl rfl) (v_move rfl) rfl rfl ?_; clear hF a; intro a hF
     refine svn hF rfl rfl rfl ?_; clear hF a; intro a hF
     refine svn hF rfl rfl rfl ?_; clear hF a; intro a hF
     refine sv2 hF (v_pickT rfl rfl) (v_move rfl) rfl rfl ?_; clear hF a; intro a hF
     refine svn hF rfl rfl rfl ?_; clear hF a; intro a hF
     refine svn hF rfl rfl rfl ?_; clear hF a; intro a hF
     refine svn hF rfl rfl rfl ?_; clear hF a; intro a hF
     refine svn hF rfl rfl rfl ?_; clear hF a; intro a hF
     refine sv hF (v_pickT rfl rfl) rfl ?_; clear hF a; intro a hF
     refine WL_nil (hK _ _ ?_)
     clear hK K
     replace hF := hF.sub _ (c_ 36 rfl (c_ 7 rfl (c_ 6 rfl (c_ 0 rfl (c_ 1 rfl (c_ 2 rfl (n_)))))))
     refine W_ifT hF rfl ?_
     refine W_sr rfl (fun K hK => ?_)
     refine sv2 hF (v_assign rfl) (v_assign rfl) rfl rfl ?_; clear hF a; intro a hF
     refine WL_nil (hK _ _ ?_)
     clear hK K
     replace hF := hF.sub _ (c_ 7 rfl (c_ 6 rfl (c_ 0 rfl (c_ 1 rfl (c_ 2 rfl (n_))))))
     refine W_ret ?_
     refine ⟨_, _, _, hF, rfl, rfl, ?_⟩
     exact ⟨.inl ⟨by unfold fitB; rw [← hpa]; cases pa_ <;> first | (exfalso; simp_all; done) | rfl | (rw [decide_eq_false (by omega)]; rfl), rfl⟩, hS⟩
    ·
     clear hF a; intro hc4 a hF
     try simp only [dcl] at hc4
     refine sv2 hF (v_pickF rfl rfl) (v_move rfl) rfl rfl ?_; clear hF a; intro a hF
     refine svg hF rfl ?_
     refine sv hF (v_move rfl) rfl ?_; clear hF a; intro a hF
     refine svg hF rfl ?_
     refine sb hF (v_geq rfl rfl) rfl ?_ ?_
     ·
      clear hF a; intro hc5 a hF
      try simp only [dcl] at hc5
      refine sv2 hF (v_pickF rfl rfl) (v_move rfl) rfl rfl ?_; clear hF a; intro a hF
      refine svn hF rfl rfl rfl ?_; clear hF a; intro a hF
      refine svn hF rfl rfl rfl ?_; clear hF a; intro a hF
      refine svn hF rfl rfl rfl ?_; clear hF a; intro a hF
      refine svn hF rfl rfl rfl ?_; clear hF a; intro a hF
      refine sv hF (v_pickT rfl rfl) rfl ?_; clear hF a; intro a hF
      refine WL_nil (hK _ _ ?_)
      clear hK K
      replace hF := hF.sub _ (c_ 36 rfl (c_ 7 rfl (c_ 6 rfl (c_ 0 rfl (c_ 1 rfl (c_ 2 rfl (n_)))))))
      refine W_ifT hF rfl ?_
      refine W_sr rfl (fun K hK => ?_)
      refine sv2 hF (v_assign rfl) (v_assign rfl) rfl rfl ?_; clear hF a; intro a hF
      refine WL_nil (hK _ _ ?_)
      clear hK K
      replace hF := hF.sub _ (c_ 7 rfl (c_ 6 rfl (c_ 0 rfl (c_ 1 rfl (c_ 2 rfl (n_))))))
      refine W_ret ?_
      refine ⟨_, _, _, hF, rfl, rfl, ?_⟩
      exact ⟨.inl ⟨by unfold fitB; rw [← hpa]; cases pa_ <;> first | (exfalso; simp_all; done) | rfl | (rw [decide_eq_false (by omega)]; rfl), rfl⟩, hS⟩
     ·
      clear hF a; intro hc5 a hF
      try simp only [dcl] at hc5
      refine sv2 hF (v_pickF rfl rfl) (v_move rfl) rfl rfl ?_; clear hF a; intro a hF
      refine svg hF rfl ?_
      refine sv hF (v_move rfl) rfl ?_; clear hF a; intro a hF
      refine svg hF rfl ?_
      refine sv hF (v_move rfl) rfl ?_; clear hF a; intro a hF
      refine svg hF rfl ?_
      refine sv hF (v_addI rfl rfl (by omega)) rfl ?_; clear hF a; intro a hF
      refine svg hF rfl ?_
      refine sv hF (v_gtr rfl rfl) rfl ?_; clear hF a; intro a hF
      refine sv hF (v_pickF rfl rfl) rfl ?_; clear hF a; intro a hF
      refine WL_nil (hK _ _ ?_)
      clear hK K
      replace hF := hF.sub _ (c_ 36 rfl (c_ 7 rfl (c_ 6 rfl (c_ 0 rfl (c_ 1 rfl (c_ 2 rfl (n_)))))))
      refine W_if hF rfl (fun hc6 => ?_) (fun hc6 => ?_)
      ·
       skip
       try simp only [dcl] at hc6
       refine W_sr rfl (fun K hK => ?_)
       refine sv2 hF (v_assign rfl) (v_assign rfl) rfl rfl ?_; clear hF a; intro a hF
       refine WL_nil (hK _ _ ?_)
       clear hK K
       replace hF := hF.sub _ (c_ 7 rfl (c_ 6 rfl (c_ 0 rfl (c_ 1 rfl (c_ 2 rfl (n_))))))
       refine W_ret ?_
       refine ⟨_, _, _, hF, rfl, rfl, ?_⟩
       exact ⟨.inl ⟨by unfold fitB; rw [← hpa]; cases pa_ <;> first | (exfalso; simp_all; done) | rfl | (rw [decide_eq_false (by omega)]; rfl), rfl⟩, hS⟩
      ·
       skip
       try simp only [dcl] at hc6
       have hb : fitB o k m = true := by unfold fitB; rw [← hpa]; cases pa_ <;> first | (exfalso; simp_all; done) | (rw [decide_eq_true (by omega)]; rfl)
       obtain ⟨-, hb2⟩ := fitB_iff.1 hb
       obtain ⟨kn, rfl⟩ : ∃ n : Nat, k = (n : Int) := ⟨k.toNat, by omega⟩
       obtain ⟨mn, rfl⟩ : ∃ n : Nat, m = (n : Int) := ⟨m.toNat, by omega⟩
       refine W_skip ?_
       refine W_sr rfl (fun K hK => ?_)
       refine sv hF (v_assign rfl) rfl ?_; clear hF a; intro a hF
       refine WL_nil (hK _ _ ?_)
       clear hK K
       replace hF := hF.sub _ (c_ 8 rfl (c_ 7 rfl (c_ 6 rfl (c_ 0 rfl (c_ 1 rfl (c_ 2 rfl (n_)))))))
       refine W_seq ?_
       refine W_sr rfl (fun K hK => ?_)
       refine sv2 hF (v_move rfl) (v_move rfl) rfl rfl ?_; clear hF a; intro a hF
       refine sv hF ((v_addI rfl rfl (by omega)).as (show Value.int .i64 ((kn : Int) + (mn : Int)) = .int .i64 ((kn + mn : Nat) : Int) by simp)) rfl ?_; clear hF a; intro a hF
       refine sv hF ((v_subI rfl rfl (by omega)).as (show Value.int .i64 (((kn + mn : Nat) : Int) - 1) = .int .i64 ((kn + mn - 1 : Nat) : Int) by congr 1; omega)) rfl ?_; clear hF a; intro a hF
       refine sv hF (v_move rfl) rfl ?_; clear hF a; intro a hF
       refine WL_nil (hK _ _ ?_)
       clear hK K
       replace hF := hF.sub _ (c_ 41 rfl (c_ 40 rfl (c_ 8 rfl (c_ 7 rfl (c_ 6 rfl (c_ 0 rfl (c_ 1 rfl (n_))))))))
       refine W_block ?_
       refine W_loop (fun q a w1 => ∃ (i : Nat) (v8 : Value) (b8 : Option Nat) (bs rc : Nat → Nat), Fr 71 [(0, .pointer pa_), (1, .int .i64 (kn : Int)), (8, v8), (40, .int .i64 ((kn + mn - 1 : Nat) : Int)), (41, .int .i64 (i : Int))] a ∧ (St FDx B w w1) ∧ (Fo FDx B w1 (.pointer pa_) o) ∧ (Gam.Own FDx B w.heap.size w1 23 v8 b8 (vls i kn bs rc)) ∧ (Wr FDx B w.heap.size w1.heap.size w1 i kn bs rc (extT o kn mn)) ∧ (i ≤ kn + mn - 1) ∧ (q + i = kn + mn - 1)) (kn + mn - 1) ?_ ?_
       ·
        skip
        exact ⟨0, _, none, id, id, hF.sub _ (c_ 0 rfl (c_ 1 rfl (c_ 8 rfl (c_ 40 rfl (c_ 41 rfl (n_)))))), hS, hf, Gam.Own.nil _ _ _ _ _, Wr.nil, by omega, by omega⟩
       ·
        skip
        clear hF
        clear hS hf
        rintro q a w1 ⟨i, v8, b8, bs, rc, hF, hS, hf, hO, hW, hi, hq⟩
        obtain ⟨KM, hKe⟩ : ∃ KM, KM = w1.heap.size := ⟨_, rfl⟩
        rw [← hKe] at hW
        have hKs : KM ≤ w1.heap.size := by omega
        have hNK : w.heap.size ≤ KM := by have := hS.ext.size; omega
        clear hKe
        refine W_sr rfl (fun K hK => ?_)
        refine sv hF (v_lss rfl rfl) rfl ?_; clear hF a; intro a hF
        refine WL_nil (hK _ _ ?_)
        clear hK K
        refine W_seq ?_
        refine W_if hF rfl (fun hc7 => ?_) (fun hc7 => ?_)
        ·
         skip
         try simp only [dcl] at hc7
         have hlt : i < kn + mn - 1 := by omega
         refine W_skip ?_
         refine W_seq ?_
         refine W_block ?_
         refine W_sr rfl (fun K hK => ?_)
         refine sv2 hF (v_move rfl) (v_assign rfl) rfl rfl ?_; clear hF a; intro a hF
         refine WL_nil (hK _ _ ?_)
         clear hK K
         replace hF := hF.sub _ (c_ 9 rfl (c_ 0 rfl (c_ 1 rfl (c_ 8 rfl (c_ 40 rfl (c_ 41 rfl (n_)))))))
         refine W_sr rfl (fun K hK => ?_)
         refine sv hF (v_assign rfl) rfl ?_; clear hF a; intro a hF
         refine WL_nil (hK _ _ ?_)
         clear hK K
         refine W_seq ?_
         refine W_sr rfl (fun K hK => ?_)
         refine sv2 hF (v_move rfl) (v_move rfl) rfl rfl ?_; clear hF a; intro a hF
         refine WL_nil (hK _ _ ?_)
         clear hK K
         refine W_block ?_
         refine W_loop (fun q2 a w2 => ∃ (j : Nat) (v10 : Value) (b10 : Option Nat), Fr 71 [(0, .pointer pa_), (1, .int .i64 (kn : Int)), (8, v8), (9, .int .i64 (i : Int)), (10, v10), (40, .int .i64 ((kn + mn - 1 : Nat) : Int)), (41, .int .i64 (i : Int)), (44, .int .i64 (kn : Int)), (45, .int .i64 (j : Int))] a ∧ (St FDx B w w2) ∧ (Fo FDx B w2 (.pointer pa_) o) ∧ (Gam.Own FDx B w.heap.size w2 23 v8 b8 (vls i kn bs rc)) ∧ (Wr FDx B w.heap.size KM w2 i kn bs rc (extT o kn mn)) ∧ (KM ≤ w2.heap.size) ∧ (Gam.Own FDx B KM w2 FDx.E v10 b10 (zints ((List.range j).map fun j => ((extT o kn mn i j : Nat) : Int)))) ∧ (j ≤ kn) ∧ (q2 + j = kn)) (kn) ?_ ?_
         ·
          skip
          exact ⟨0, _, none, hF.sub _ (c_ 0 rfl (c_ 1 rfl (c_ 8 rfl (c_ 9 rfl (c_ 10 rfl (c_ 40 rfl (c_ 41 rfl (c_ 44 rfl (c_ 45 rfl (n_)))))))))), hS, hf, hO, hW, hKs, Gam.Own.nil _ _ _ _ _, by omega, by omega⟩
         ·
          skip
          clear hF
          clear hS hf hO hW hKs
          rintro q2 a w2 ⟨j, v10, b10, hF, hS, hf, hO, hW, hKs, hC, hj, hq2⟩
          refine W_sr rfl (fun K hK => ?_)
          refine sv hF (v_lss rfl rfl) rfl ?_; clear hF a; intro a hF
          refine WL_nil (hK _ _ ?_)
          clear hK K
          refine W_seq ?_
          refine W_if hF rfl (fun hc8 => ?_) (fun hc8 => ?_)
          ·
           skip
           try simp only [dcl] at hc8
           have hlt2 : j < kn := by omega
           refine W_skip ?_
           refine W_seq ?_
           refine W_block ?_
           refine W_sr rfl (fun K hK => ?_)
           refine sv2 hF (v_move rfl) (v_assign rfl) rfl rfl ?_; clear hF a; intro a hF
           refine WL_nil (hK _ _ ?_)
           clear hK K
           replace hF := hF.sub _ (c_ 11 rfl (c_ 0 rfl (c_ 1 rfl (c_ 8 rfl (c_ 9 rfl (c_ 10 rfl (c_ 40 rfl (c_ 41 rfl (c_ 44 rfl (c_ 45 rfl (n_)))))))))))
           refine W_reg rfl (fun K hK => ?_)
           refine sv4 hF (v_move rfl) (v_move rfl) (v_move rfl) (v_move rfl) rfl rfl rfl rfl ?_; clear hF a; intro a hF
           refine sc hF rfl rfl rfl en33 rfl (Pow_gf B o _ (i : Int) (j : Int) _ hS.inv hf (by omega)) ?_; clear hF a; intro v w' a hv hF
           obtain ⟨rfl, hS'⟩ := hv
           replace hf := hf.st hS'
           replace hO := hO.st (by decide) hS'
           replace hW := hW.st hS'
           replace hKs := Nat.le_trans hKs hS'.ext.size
           replace hC := hC.st (by decide) hS'
           replace hS := hS.trans hS'
           clear hS'
           rw [← ext_cell hprm (k := kn) (m := mn) (j := j) hlt] at hF
           refine s_bs (D := FDx) (B := B) hF sl23 rfl rfl (by decide) (by simp [Value.cells]) (by decide) hS.inv rfl ?_; clear hF a; intro w' a hm hI' hL hF
           replace hf := hf.mb hm
           replace hO := hO.mb hm (fun _ _ => by simp)
           replace hW := hW.mb0 hm
           replace hKs := Nat.le_trans hKs hm.size
           replace hC := hC.mb hm (fun _ _ => by simp)
           replace hS := hS.mb0 hm
           clear hm hI'
           refine s_app (D := FDx) (B := B) hF rfl sl23 rfl rfl hC (hL.row (by decide)) (by simp [Value.oneCell']) (by simp; omega) (by simp [maxLen]; omega) (hKs) (by decide) hS.inv rfl ?_; clear hF a; intro v' b' w' a ho' hm hI' hb' hF
           replace hf := hf.mb hm
           replace hO := hO.mb hm (hO.ne_type hC (by decide))
           replace hW := hW.mbx hm (fun k e => (hC.lt k e).1)
           replace hKs := Nat.le_trans hKs hm.size
           replace hS := hS.mb hm (fun k h => Nat.le_trans (hNK) (hC.lt k h).1)
           replace hC := ho'
           clear hm hI' ho'
           clear hL
           refine sv hF (v_assign rfl) rfl ?_; clear hF a; intro a hF
           refine WL_nil (hK _ _ ?_)
           clear hK K
           replace hF := hF.sub _ (c_ 10 rfl (c_ 0 rfl (c_ 1 rfl (c_ 8 rfl (c_ 9 rfl (c_ 40 rfl (c_ 41 rfl (c_ 44 rfl (c_ 45 rfl (n_))))))))))
           refine W_reg rfl (fun K hK => ?_)
           refine sv hF (v_addI rfl rfl (by omega)) rfl ?_; clear hF a; intro a hF
           refine sv hF (v_move rfl) rfl ?_; clear hF a; intro a hF
           refine WL_nil (hK _ _ ?_)
           clear hK K
           exact ⟨q2 - 1, by omega, j + 1, _, _, hF.sub _ (c_ 0 rfl (c_ 1 rfl (c_ 8 rfl (c_ 9 rfl (c_ 10 rfl (c_ 40 rfl (c_ 41 rfl (c_ 44 rfl (c_ 45 rfl (n_)))))))))), hS, hf, hO, hW, hKs, hC.cast (by rw [List.range_succ, List.map_append]; simp [zints]), by omega, by omega⟩
          ·
           skip
           try simp only [dcl] at hc8
           obtain rfl : j = kn := by omega
           obtain ⟨gx, cx, rfl, rfl⟩ := hC.ptr (by simp; omega)
           rw [zints_length, List.length_map, List.length_range] at hC hF
           have hvl := vls_length i j bs rc
           refine W_exit rfl ?_
           refine W_reg rfl (fun K hK => ?_)
           refine sv2 hF (v_move rfl) (v_move rfl) rfl rfl ?_; clear hF a; intro a hF
           refine s_bs (D := FDx) (B := B) hF sl27 rfl rfl (by decide) (by simp [Value.cells]) (by decide) hS.inv rfl ?_; clear hF a; intro w' a hm hI' hL hF
           replace hf := hf.mb hm
           replace hO := hO.mb hm (fun _ _ => by simp)
           replace hW := hW.mb0 hm
           replace hKs := Nat.le_trans hKs hm.size
           replace hC := hC.mb hm (fun _ _ => by simp)
           replace hS := hS.mb0 hm
           clear hm hI'
           refine s_app (D := FDx) (B := B) hF rfl sl27 rfl rfl hO (hL.row (by decide)) (by simp [Value.oneCell']) (by rw [vls_length]; simp; omega) (by rw [vls_length]; simp [maxLen]; omega) (hS.ext.size) (by decide) hS.inv rfl ?_; clear hF a; intro v' b' w' a ho' hm hI' hb' hF
           replace hf := hf.mb hm
           replace hW := hW.mbo hm hO (by decide)
           replace hKs := Nat.le_trans hKs hm.size
           replace hC := hC.mb hm (hC.ne_type hO (by decide))
           replace hS := hS.mb hm (fun k h => Nat.le_trans (Nat.le_refl _) (hO.lt k h).1)
           replace hO := ho'
           clear hm hI' ho'
           clear hL
           refine sv hF (v_assign rfl) rfl ?_; clear hF a; intro a hF
           refine WL_nil (hK _ _ ?_)
           clear hK K
           replace hF := hF.sub _ (c_ 8 rfl (c_ 59 rfl (c_ 58 rfl (c_ 57 rfl (c_ 56 rfl (c_ 0 rfl (c_ 1 rfl (c_ 9 rfl (c_ 10 rfl (c_ 40 rfl (c_ 41 rfl (c_ 44 rfl (c_ 45 rfl (n_))))))))))))))
           refine W_reg rfl (fun K hK => ?_)
           refine sv hF (v_addI rfl rfl (by omega)) rfl ?_; clear hF a; intro a hF
           refine sv hF (v_move rfl) rfl ?_; clear hF a; intro a hF
           refine WL_nil (hK _ _ ?_)
           clear hK K
           exact ⟨q - 1, by omega, i + 1, _, _, _, _, hF.sub _ (c_ 0 rfl (c_ 1 rfl (c_ 8 rfl (c_ 40 rfl (c_ 41 rfl (n_)))))), hS, hf, hO.cast vls_snoc.symm, hW.snoc (hC.le hNK) ((hC.lt _ rfl).1), by omega, by omega⟩
        ·
         skip
         try simp only [dcl] at hc7
         refine W_exit rfl ?_
         obtain rfl : i = kn + mn - 1 := by omega
         refine W_sr rfl (fun K hK => ?_)
         refine sv hF (v_move rfl) rfl ?_; clear hF a; intro a hF
         have hKs0 := hKs
         refine s_mk (D := FDx) (B := B) (m := kn) hF sl23 rfl rfl (by simp) (by omega) (by simp only [maxLen]; omega) (by decide) hS.inv rfl ?_; clear hF a; intro w' a hm hI' hC hF
         replace hf := hf.mb hm
         replace hO := hO.mb hm (fun _ _ => by simp)
         replace hW := hW.mb0 hm
         replace hKs := Nat.le_trans hKs hm.size
         replace hS := hS.mb0 hm
         clear hm hI'
         replace hC := hC.le hKs0
         clear hKs0
         refine sv hF (v_assign rfl) rfl ?_; clear hF a; intro a hF
         refine WL_nil (hK _ _ ?_)
         clear hK K
         replace hF := hF.sub _ (c_ 12 rfl (c_ 62 rfl (c_ 61 rfl (c_ 0 rfl (c_ 1 rfl (c_ 8 rfl (c_ 40 rfl (c_ 41 rfl (n_)))))))))
         refine W_sr rfl (fun K hK => ?_)
         refine sv2 hF (v_move rfl) (v_move rfl) rfl rfl ?_; clear hF a; intro a hF
         refine sv hF ((v_subI rfl rfl (by omega)).as (show Value.int .i64 ((kn : Int) - 1) = .int .i64 ((kn - 1 : Nat) : Int) by congr 1; omega)) rfl ?_; clear hF a; intro a hF
         refine sv hF (v_ixS sl23 rfl rfl (by omega) (by omega)) rfl ?_; clear hF a; intro a hF
         refine s_set (D := FDx) (B := B) hF on3 rfl (by rw [toNat_c]; simp; omega) rfl rfl hC (by decide) hS.inv ?_; intro w' hm hI' ho'
         replace hf := hf.mb hm
         replace hO := hO.mb hm (hO.ne_type hC (by decide))
         replace hW := hW.mbx hm (fun k e => (hC.lt k e).1)
         replace hKs := Nat.le_trans hKs hm.size
         replace hS := hS.mb hm (fun k h => Nat.le_trans (hNK) (hC.lt k h).1)
         replace hC := ho'
         clear hm hI' ho'
         rw [toNat_c, Nat.zero_add, ext_last (o := o) (m := mn) (by omega)] at hC
         refine WL_nil (hK _ _ ?_)
         clear hK K
         refine W_sr rfl (fun K hK => ?_)
         refine sv2 hF (v_move rfl) (v_move rfl) rfl rfl ?_; clear hF a; intro a hF
         refine s_bs (D := FDx) (B := B) hF sl27 rfl rfl (by decide) (by simp [Value.cells]) (by decide) hS.inv rfl ?_; clear hF a; intro w' a hm hI' hL hF
         replace hf := hf.mb hm
         replace hO := hO.mb hm (fun _ _ => by simp)
         replace hW := hW.mb0 hm
         replace hKs := Nat.le_trans hKs hm.size
         replace hC := hC.mb hm (fun _ _ => by simp)
         replace hS := hS.mb0 hm
         clear hm hI'
         refine s_app (D := FDx) (B := B) hF rfl sl27 rfl rfl hO (hL.row (by decide)) (by simp [Value.oneCell']) (by rw [vls_length]; simp; omega) (by rw [vls_length]; simp [maxLen]; omega) (hS.ext.size) (by decide) hS.inv rfl ?_; clear hF a; intro v' b' w' a ho' hm hI' hb' hF
         replace hf := hf.mb hm
         replace hW := hW.mbo hm hO (by decide)
         replace hKs := Nat.le_trans hKs hm.size
         replace hC := hC.mb hm (hC.ne_type hO (by decide))
         replace hS := hS.mb hm (fun k h => Nat.le_trans (Nat.le_refl _) (hO.lt k h).1)
         replace hO := ho'
         clear hm hI' ho'
         clear hL
         refine sv2 hF (v_assign rfl) (v_assign rfl) rfl rfl ?_; clear hF a; intro a hF
         refine WL_nil (hK _ _ ?_)
         clear hK K
         refine W_ret ?_
         refine ⟨_, _, _, hF, rfl, rfl, ?_⟩
         have hO2 := hO.cast vls_snoc.symm
         have hW2 := hW.snoc (hC.le hNK) ((hC.lt _ rfl).1)
         rw [show kn + mn - 1 + 1 = kn + mn by omega] at hO2 hW2
         obtain ⟨g, cap, rfl, rfl⟩ := hO2.ptr (by simp; omega)
         rw [vls_length] at hO2
         rw [vls_length, show ((kn : Int) + (mn : Int)).toNat = kn + mn by omega]
         simp only [Int.toNat_natCast]
         exact ⟨.inr ⟨hb, g, cap, _, _, rfl, hO2, hW2⟩, hS⟩

end Go.Proofs.Ytkoiolamnnmokaa

/- The walks of package jvan: columns. -/
set_option linter.unusedVariables false
set_option linter.unusedSimpArgs false
namespace Go.Proofs.Ytkoiolamnnmokaa
open Go Go.Gam


namespace FxFJvb
theorem en26 : Ent Try.prog 26 := ent Try.func26 (by kernel_rfl) (by kernel_rfl)
theorem fa68_0 : FieldFact Try.prog 68 0 0 := ff_of (sz := 0) Try.underlying68 (by kernel_rfl)
theorem fa68_1 : FieldFact Try.prog 68 1 1 := ff_of (sz := 0) Try.underlying68 (by kernel_rfl)
theorem hmix : Try.prog.follows .mixedOrders = true := by kernel_rfl
theorem on3 : Gam.One Try.prog 3 := by unfold Gam.One; kernel_rfl
theorem rc68 : Rec2 Try.prog 68 (.pointer none) (.slice none 0 0) := rec2_of Try.underlying68 (by kernel_rfl) (by kernel_rfl) (by kernel_rfl)
theorem sc23 : Scalar Try.prog 23 := ⟨_, Try.underlying23, by simp, by simp⟩
theorem sc27 : Scalar Try.prog 27 := ⟨_, Try.underlying27, by simp, by simp⟩
theorem sc3 : Scalar Try.prog 3 := ⟨_, Try.underlying3, by simp, by simp⟩
theorem sc44 : Scalar Try.prog 44 := ⟨_, Try.underlying44, by simp, by simp⟩
theorem sl23 : Sl Try.prog 23 3 (.int .i64 0) 8 := sl_of Try.underlying23 rfl (by kernel_rfl)
theorem sl26 : Sl Try.prog 26 23 (.slice none 0 0) 24 := sl_of Try.underlying26 rfl (by kernel_rfl)
theorem sl27 : Sl Try.prog 27 23 (.slice none 0 0) 24 := sl_of Try.underlying27 rfl (by kernel_rfl)
end FxFJvb
open FxFJvb

set_option maxRecDepth 100000 in
set_option maxHeartbeats 1000000 in
theorem scale_ok (B N KM wb p : Nat) (hp : Prm wb p) (fv : Value) (g cap n k : Nat) (bs rc : Nat → Nat) (f : Tb) (fr j c : Nat) (w : World) (hI : Inv FDx B w) (hf : Fo FDx B w fv (some (wb, p))) (hO : Gam.Own FDx B N w 23 (.slice (some ⟨g, 0, none⟩) n cap) (some g) (vls n k bs rc)) (hW : Wr FDx B N KM w n k bs rc (f)) (hKM : KM ≤ w.heap.size) (hNM : N ≤ KM) (hfb : hp.fld.Bd f) (hnk : n ≤ 20 ∧ k ≤ 20) (hfr : fr < n) (hj : j < k) (hc : c < 2 ^ wb) : Ret Try.prog 25 [.agg #[fv, .slice (some ⟨g, 0, none⟩) n cap], .int .i64 (fr : Int), .int .i64 (j : Int), .int .i64 (c : Int)] w fun v w' => v = .tuple #[] ∧ Gam.Own FDx B N w' 23 (.slice (some ⟨g, 0, none⟩) n cap) (some g) (vls n k bs rc) ∧ Wr FDx B N KM w' n k bs rc (hp.fld.scC fr j c n f) ∧ StZ FDx B (fun x => N ≤ x ∧ x < KM) w w' := by
 refine enter0 31 [(0, .agg #[fv, .slice (some ⟨g, 0, none⟩) n cap]), (1, .int .i64 (fr : Int)), (2, .int .i64 (j : Int)), (3, .int .i64 (c : Int))]  Try.func25 rfl rfl rfl rfl rfl ?_; intro a hF
 have hS := StZ.refl (Z := (fun x => N ≤ x ∧ x < KM)) hI
 have hfw := hp.fld_w
 have h16 : 2 ^ wb ≤ 65536 := by rcases hp.w with h | h <;> rw [h] <;> decide
 refine W_sr rfl (fun K hK => ?_)
 obtain ⟨gr, hgr⟩ : ∃ x, x = w.heap.size := ⟨_, rfl⟩
 have hKgr : KM ≤ gr := by omega
 refine s_box (D := FDx) (B := B) hF rfl (by decide) hS.inv rfl ?_; clear hF a; intro w' a hm hbx hsz hF
 replace hf := hf.mb hm
 replace hO := hO.mb hm (fun _ _ => by simp)
 replace hW := hW.mb0 hm
 replace hS := hS.mb0 hm
 clear hm
 rw [← hgr] at hbx hF
 refine WL_nil (hK _ _ ?_)
 clear hK K
 replace hF := hF.sub _ (c_ 4 rfl (c_ 1 rfl (c_ 2 rfl (c_ 3 rfl (n_)))))
 refine W_sr rfl (fun K hK => ?_)
 refine sv hF (v_fieldAddr fa68_1 rfl) rfl ?_; clear hF a; intro a hF
 refine sv hF (v_load sc27 rfl (hbx.at 1 rfl)) rfl ?_; clear hF a; intro a hF
 refine sv hF (v_move rfl) rfl ?_; clear hF a; intro a hF
 have hcap := (hO.row (by decide)).capd
 have hvl := vls_length n k bs rc
 refine sv hF (v_slLo sl27 rfl rfl (by omega) (by omega)) rfl ?_; clear hF a; intro a hF
 refine sv hF (v_lenS rfl sl27 rfl) rfl ?_; clear hF a; intro a hF
 refine sv hF (v_move rfl) rfl ?_; clear hF a; intro a hF
 refine WL_nil (hK _ _ ?_)
 clear hK K
 replace hF := hF.sub _ (c_ 15 rfl (c_ 14 rfl (c_ 13 rfl (c_ 4 rfl (c_ 2 rfl (c_ 3 rfl (n_)))))))
 refine W_block ?_
 refine W_loop (fun q a w1 => ∃ (l : Nat), Fr 31 [(2, .int .i64 (j : Int)), (3, .int .i64 (c : Int)), (4, .pointer (some ⟨gr, 0, none⟩)), (13, .slice (slA (some ⟨g, 0, none⟩) fr cap) (n - fr) (cap - fr)), (14, .int .i64 ((n - fr : Nat) : Int)), (15, .int .i64 (l : Int))] a ∧ (StZ FDx B (fun x => N ≤ x ∧ x < KM) w w1) ∧ (Fo FDx B w1 fv (some (wb, p))) ∧ (Blk w1 gr 68 [fv, .slice (some ⟨g, 0, none⟩) n cap]) ∧ (Gam.Own FDx B N w1 23 (.slice (some ⟨g, 0, none⟩) n cap) (some g) (vls n k bs rc)) ∧ (Wr FDx B N KM w1 n k bs rc (hp.fld.scC fr j c (fr + l) f)) ∧ (l ≤ n - fr) ∧ (q + l = n - fr)) (n - fr) ?_ ?_
 ·
  skip
  exact ⟨0, hF.sub _ (c_ 2 rfl (c_ 3 rfl (c_ 4 rfl (c_ 13 rfl (c_ 14 rfl (c_ 15 rfl (n_))))))), hS, hf, hbx, hO, hW.congr (fun a _ b _ => hp.fld.scC_zero.symm), by omega, by omega⟩
 ·
  skip
  clear hF
  clear hS hf hbx hO hW
  rintro q a w1 ⟨l, hF, hS, hf, hbx, hO, hW, hl, hq⟩
  refine W_sr rfl (fun K hK => ?_)
  refine sv hF (v_lss rfl rfl) rfl ?_; clear hF a; intro a hF
  refine WL_nil (hK _ _ ?_)
  clear hK K
  refine W_seq ?_
  refine W_if hF rfl (fun hc1 => ?_) (fun hc1 => ?_)
  ·
   skip
   try simp only [dcl] at hc1
   have hlt : l < n - fr := by omega
   have hx : fr + l < n := by omega
   have hb1 := hp.fld.scC_bd (fr := fr) (j := j) (c := c) (x := fr + l) hfb (fr + l) j
   rw [hfw] at hb1
   have hkr := hO.kc (by decide) (vls_at hx)
   have hsl : slA (some ⟨g, 0, none⟩) fr cap = some ⟨g, 0 + fr, none⟩ := slA_of (by omega)
   rw [hsl] at hF
   refine W_skip ?_
   refine W_seq ?_
   refine W_block ?_
   refine W_sr rfl (fun K hK => ?_)
   refine sv hF (v_ixS sl27 rfl rfl (by omega) (by omega)) rfl ?_; clear hF a; intro a hF
   refine sv hF (v_load sc23 rfl (by rw [toNat_c, Nat.add_assoc]; exact hkr.c)) rfl ?_; clear hF a; intro a hF
   refine sv hF (v_assign rfl) rfl ?_; clear hF a; intro a hF
   refine WL_nil (hK _ _ ?_)
   clear hK K
   replace hF := hF.sub _ (c_ 9 rfl (c_ 2 rfl (c_ 3 rfl (c_ 4 rfl (c_ 13 rfl (c_ 14 rfl (c_ 15 rfl (n_))))))))
   clear hkr
   refine W_dS (fun (w2 : World) => w2.cell? ⟨gr, 0, none⟩ = some fv) (m := 12) rfl hmix (fun K hK => ?_)
   have hS' := St.drew hS.inv
   replace hf := hf.st hS'
   replace hO := hO.st (by decide) hS'
   replace hW := hW.st hS'
   replace hbx := hbx.st (by decide) hS'
   replace hS := hS.trans hS'
   clear hS'
   have hSS : (fun (w2 : World) => w2.cell? ⟨gr, 0, none⟩ = some fv) _ := hbx.at 0 rfl
   refine b_v (i := 0) rfl (by kernel_rfl) hF (fun w2 hx => v_move rfl) rfl hSS ?_; clear hF a; intro a hF
   refine b_v (i := 1) rfl (by kernel_rfl) hF (fun w2 hx => v_move rfl) rfl hSS ?_; clear hF a; intro a hF
   refine b_v (i := 2) rfl (by kernel_rfl) hF (fun w2 hx => v_fieldAddr fa68_0 rfl) rfl hSS ?_; clear hF a; intro a hF
   refine b_v (i := 3) rfl (by kernel_rfl) hF (fun w2 hx => v_load sc44 rfl hx) rfl hSS ?_; clear hF a; intro a hF
   refine b_v (i := 4) rfl (by kernel_rfl) hF (fun w2 hx => v_move rfl) rfl hSS ?_; clear hF a; intro a hF
   refine b_v (i := 5) rfl (by kernel_rfl) hF (fun w2 hx => v_move rfl) rfl hSS ?_; clear hF a; intro a hF
   refine b_v (i := 6) rfl (by kernel_rfl) hF (fun w2 hx => v_ixS sl23 rfl rfl (by omega) (by omega)) rfl hSS ?_; clear hF a; intro a hF
   refine b_v (i := 8) rfl (by kernel_rfl) hF (fun w2 hx => v_move rfl) rfl hSS ?_; clear hF a; intro a hF
   refine b_e (i := 7) (by kernel_rfl) rfl ?_
   refine sv hF (v_load sc3 rfl (by rw [toNat_c]; exact (hW.rd hx hj).c)) rfl ?_; clear hF a; intro a hF
   refine WL_nil ⟨hSS, ?_⟩
   refine b_e (i := 9) (by kernel_rfl) rfl ?_
   refine sc hF rfl rfl rfl en26 rfl (Mul_gf B (some (wb, p)) fv (((hp.fld.scC fr j c (fr + l) f) (fr + l) j : Nat) : Int) (c : Int) _ hS.inv hf) ?_; clear hF a; intro v w' a hv hF
   obtain ⟨rfl, hS'⟩ := hv
   replace hf := hf.st hS'
   replace hO := hO.st (by decide) hS'
   replace hW := hW.st hS'
   replace hbx := hbx.st (by decide) hS'
   replace hS := hS.trans hS'
   clear hS'
   rw [gmul_num hp hb1 hc] at hF
   clear hSS
   have hSS : (fun (w2 : World) => w2.cell? ⟨gr, 0, none⟩ = some fv) _ := hbx.at 0 rfl
   refine WL_nil ⟨hSS, ?_⟩
   refine b_v (i := 10) rfl (by kernel_rfl) hF (fun w2 hx => v_ixS sl23 rfl rfl (by omega) (by omega)) rfl hSS ?_; clear hF a; intro a hF
   refine b_e (i := 11) (by kernel_rfl) rfl ?_
   have hR0 := hW.row _ hx
   have hge := hW.ge hx
   refine s_set (D := FDx) (B := B) hF on3 rfl (by rw [toNat_c, zints_length, trow_length]; omega) rfl rfl hR0 (by decide) hS.inv ?_; intro w' hm hI' ho'
   replace hf := hf.mb hm
   replace hO := hO.mb hm (hO.ne_type hR0 (by decide))
   replace hW := hW.set (g := hp.fld.scC fr j c (fr + l + 1) f) hx hm (ho'.cast (by rw [toNat_c, Nat.zero_add, zints_set, trow_set (g := hp.fld.scC fr j c (fr + l + 1) f)]; intro l hl; exact hp.fld.scC_at (by omega))) (fun a ha hai l hl => (hp.fld.scC_ne hai))
   replace hbx := hbx.mb hm (hW.ne hx hKgr)
   replace hS := hS.mb hm (fun k e => ⟨by cases e; exact ⟨hge.1, hW.lt _ hx⟩, hR0.isrow k e⟩)
   replace hR0 := ho'
   clear hm hI' ho'
   clear hR0 hge
   clear hSS
   have hSS : (fun (w2 : World) => w2.cell? ⟨gr, 0, none⟩ = some fv) _ := hbx.at 0 rfl
   refine WL_nil ⟨hSS, ?_⟩
   refine b_done (by kernel_rfl) (hK _ _ ?_)
   clear hK K
   replace hF := hF.sub _ (c_ 2 rfl (c_ 3 rfl (c_ 4 rfl (c_ 13 rfl (c_ 14 rfl (c_ 15 rfl (n_)))))))
   rw [← hsl] at hF
   refine W_reg rfl (fun K hK => ?_)
   refine sv hF (v_addI rfl rfl (by omega)) rfl ?_; clear hF a; intro a hF
   refine sv hF (v_move rfl) rfl ?_; clear hF a; intro a hF
   refine WL_nil (hK _ _ ?_)
   clear hK K
   exact ⟨q - 1, by omega, l + 1, hF.sub _ (c_ 2 rfl (c_ 3 rfl (c_ 4 rfl (c_ 13 rfl (c_ 14 rfl (c_ 15 rfl (n_))))))), hS, hf, hbx, hO, hW, by omega, by omega⟩
  ·
   skip
   try simp only [dcl] at hc1
   refine W_exit rfl ?_
   refine ⟨_, hF, ?_⟩
   obtain rfl : l = n - fr := by omega
   rw [show fr + (n - fr) = n by omega] at hW
   exact ⟨rfl, hO, hW, hS⟩

set_option maxRecDepth 100000 in
set_option maxHeartbeats 1000000 in
theorem jclear_ok (B N KM wb p : Nat) (hp : Prm wb p) (fv : Value) (g cap n k : Nat) (bs rc : Nat → Nat) (f : Tb) (i : Nat) (w : World) (hI : Inv FDx B w) (hf : Fo FDx B w fv (some (wb, p))) (hO : Gam.Own FDx B N w 23 (.slice (some ⟨g, 0, none⟩) n cap) (some g) (vls n k bs rc)) (hW : Wr FDx B N KM w n k bs rc (f)) (hKM : KM ≤ w.heap.size) (hNM : N ≤ KM) (hfb : hp.fld.Bd f) (hnk : n ≤ 20 ∧ k ≤ 20) (hi : i < k) (hin : i < n) : Ret Try.prog 37 [.agg #[fv, .slice (some ⟨g, 0, none⟩) n cap], .int .i64 (i : Int)] w fun v w' => v = .tuple #[] ∧ Gam.Own FDx B N w' 23 (.slice (some ⟨g, 0, none⟩) n cap) (some g) (vls n k bs rc) ∧ Wr FDx B N KM w' n k bs rc (hp.fld.clC i (k) (0) f) ∧ StZ FDx B (fun x => N ≤ x ∧ x < KM) w w' := by
 refine enter0 49 [(0, .agg #[fv, .slice (some ⟨g, 0, none⟩) n cap]), (1, .int .i64 (i : Int))]  Try.func37 rfl rfl rfl rfl rfl ?_; intro a hF
 have hS := StZ.refl (Z := (fun x => N ≤ x ∧ x < KM)) hI
 have hfw := hp.fld_w
 have h16 : 2 ^ wb ≤ 65536 := by rcases hp.w with h | h <;> rw [h] <;> decide
 refine W_sr rfl (fun K hK => ?_)
 obtain ⟨gr, hgr⟩ : ∃ x, x = w.heap.size := ⟨_, rfl⟩
 have hKgr : KM ≤ gr := by omega
 refine s_box (D := FDx) (B := B) hF rfl (by decide) hS.inv rfl ?_; clear hF a; intro w' a hm hbx hsz hF
 replace hf := hf.mb hm
 replace hO := hO.mb hm (fun _ _ => by simp)
 replace hW := hW.mb0 hm
 replace hS := hS.mb0 hm
 clear hm
 rw [← hgr] at hbx hF
 refine WL_nil (hK _ _ ?_)
 clear hK K
 replace hF := hF.sub _ (c_ 2 rfl (c_ 1 rfl (n_)))
 refine W_sr rfl (fun K hK => ?_)
 have hs0 := hS.ext.size
 refine s_bs (D := FDx) (B := B) hF sl23 rfl rfl (by decide) (by simp [Value.cells]) (by decide) hS.inv rfl ?_; clear hF a; intro w' a hm hI' hC hF
 replace hf := hf.mb hm
 replace hO := hO.mb hm (fun _ _ => by simp)
 replace hW := hW.mb0 hm
 replace hbx := hbx.mb hm (by simp)
 replace hS := hS.mb0 hm
 clear hm hI'
 replace hC := hC.le hs0
 clear hs0
 refine sv hF (v_fieldAddr fa68_1 rfl) rfl ?_; clear hF a; intro a hF
 refine sv hF (v_load sc27 rfl (hbx.at 1 rfl)) rfl ?_; clear hF a; intro a hF
 refine sv hF (v_move rfl) rfl ?_; clear hF a; intro a hF
 refine sv hF (v_ixS sl27 rfl rfl (by omega) (by omega)) rfl ?_; clear hF a; intro a hF
 have hkr := hO.kc (by decide) (vls_at hin)
 refine sv hF (v_load sc23 rfl (by rw [toNat_c]; exact hkr.c)) rfl ?_; clear hF a; intro a hF
 clear hkr
 refine s_app (D := FDx) (B := B) hF rfl sl23 rfl rfl hC (((hW.row i hin).row (by decide))) (by intro u hu; obtain ⟨_, _, rfl⟩ := List.mem_map.1 hu; rfl) (by simp; omega) (by simp [maxLen]; omega) (hS.ext.size) (by decide) hS.inv rfl ?_; clear hF a; intro v' b' w' a ho' hm hI' hb' hF
 replace hf := hf.mb hm
 replace hO := hO.mb hm (hO.ne_type hC (by decide))
 replace hW := hW.mbx hm (fun k e => Nat.le_trans hKM (hC.lt k e).1)
 replace hbx := hbx.mb hm (Blk.ne_own hbx hC (by decide))
 replace hS := hS.mbn hm (fun k e => ⟨(hC.lt k e).1, hC.isrow k e⟩)
 replace hC := ho'
 clear hm hI' ho'
 refine sv hF (v_assign rfl) rfl ?_; clear hF a; intro a hF
 refine WL_nil (hK _ _ ?_)
 clear hK K
 replace hF := hF.sub _ (c_ 4 rfl (c_ 2 rfl (c_ 1 rfl (n_))))
 replace hC := hC.cast (List.nil_append _)
 obtain ⟨gc, cc, rfl, rfl⟩ := hC.ptr (by simp; omega)
 rw [zints_length, trow_length] at hC hF
 have hKgc : KM ≤ gc := Nat.le_trans hKM (hC.lt _ rfl).1
 refine W_sr rfl (fun K hK => ?_)
 refine sv hF (v_move rfl) rfl ?_; clear hF a; intro a hF
 refine sv hF (v_lenS rfl sl23 rfl) rfl ?_; clear hF a; intro a hF
 refine sv hF (v_move rfl) rfl ?_; clear hF a; intro a hF
 refine WL_nil (hK _ _ ?_)
 clear hK K
 replace hF := hF.sub _ (c_ 18 rfl (c_ 17 rfl (c_ 16 rfl (c_ 2 rfl (c_ 1 rfl (n_))))))
 refine W_block ?_
 refine W_loop (fun q a w1 => ∃ (j : Nat), Fr 49 [(1, .int .i64 (i : Int)), (2, .pointer (some ⟨gr, 0, none⟩)), (16, .slice (some ⟨gc, 0, none⟩) k cc), (17, .int .i64 (k : Int)), (18, .int .i64 (j : Int))] a ∧ (StZ FDx B (fun x => N ≤ x ∧ x < KM) w w1) ∧ (Fo FDx B w1 fv (some (wb, p))) ∧ (Blk w1 gr 68 [fv, .slice (some ⟨g, 0, none⟩) n cap]) ∧ (Gam.Own FDx B N w1 23 (.slice (some ⟨g, 0, none⟩) n cap) (some g) (vls n k bs rc)) ∧ (Wr FDx B N KM w1 n k bs rc (hp.fld.clC i (j) (0) f)) ∧ (Gam.Own FDx B w.heap.size w1 FDx.E (.slice (some ⟨gc, 0, none⟩) k cc) (some gc) (zints (trow k f i))) ∧ (j ≤ k) ∧ (q + j = k)) (k) ?_ ?_
 ·
  skip
  exact ⟨0, hF.sub _ (c_ 1 rfl (c_ 2 rfl (c_ 16 rfl (c_ 17 rfl (c_ 18 rfl (n_)))))), hS, hf, hbx, hO, hW.congr (fun a _ b _ => hp.fld.clC_zero.symm), hC, by omega, by omega⟩
 ·
  skip
  clear hF
  clear hS hf hbx hO hW hC
  rintro q a w1 ⟨j, hF, hS, hf, hbx, hO, hW, hC, hj, hq⟩
  refine W_sr rfl (fun K hK => ?_)
  refine sv hF (v_lss rfl rfl) rfl ?_; clear hF a; intro a hF
  refine WL_nil (hK _ _ ?_)
  clear hK K
  refine W_seq ?_
  refine W_if hF rfl (fun hc1 => ?_) (fun hc1 => ?_)
  ·
   skip
   try simp only [dcl] at hc1
   have hlt : j < k := by omega
   refine W_skip ?_
   refine W_seq ?_
   refine W_block ?_
   refine W_sr rfl (fun K hK => ?_)
   refine sv hF (v_move rfl) rfl ?_; clear hF a; intro a hF
   refine sv hF (v_ixS sl23 rfl rfl (by omega) (by omega)) rfl ?_; clear hF a; intro a hF
   refine sv hF (v_load sc3 rfl (by rw [toNat_c]; exact (hC.kc (by decide) (zints_at (trow_at (f := f) (i := i) hlt))).c)) rfl ?_; clear hF a; intro a hF
   refine sv2 hF (v_assign rfl) (v_assign rfl) rfl rfl ?_; clear hF a; intro a hF
   refine WL_nil (hK _ _ ?_)
   clear hK K
   replace hF := hF.sub _ (c_ 6 rfl (c_ 5 rfl (c_ 1 rfl (c_ 2 rfl (c_ 16 rfl (c_ 17 rfl (c_ 18 rfl (n_))))))))
   refine W_sr rfl (fun K hK => ?_)
   refine sv hF (v_fieldAddr fa68_1 rfl) rfl ?_; clear hF a; intro a hF
   refine sv hF (v_load sc27 rfl (hbx.at 1 rfl)) rfl ?_; clear hF a; intro a hF
   refine sv hF (v_lenS rfl sl27 rfl) rfl ?_; clear hF a; intro a hF
   refine sv hF (v_move rfl) rfl ?_; clear hF a; intro a hF
   refine WL_nil (hK _ _ ?_)
   clear hK K
   replace hF := hF.sub _ (c_ 26 rfl (c_ 25 rfl (c_ 24 rfl (c_ 6 rfl (c_ 5 rfl (c_ 1 rfl (c_ 2 rfl (c_ 16 rfl (c_ 17 rfl (c_ 18 rfl (n_)))))))))))
   refine W_block ?_
   refine W_loop (fun q2 a w3 => ∃ (x : Nat), Fr 49 [(1, .int .i64 (i : Int)), (2, .pointer (some ⟨gr, 0, none⟩)), (5, .int .i64 (j : Int)), (6, .int .i64 ((f i j : Nat) : Int)), (16, .slice (some ⟨gc, 0, none⟩) k cc), (17, .int .i64 (k : Int)), (18, .int .i64 (j : Int)), (24, .slice (some ⟨g, 0, none⟩) n cap), (25, .int .i64 (n : Int)), (26, .int .i64 (x : Int))] a ∧ (StZ FDx B (fun x => N ≤ x ∧ x < KM) w w3) ∧ (Fo FDx B w3 fv (some (wb, p))) ∧ (Blk w3 gr 68 [fv, .slice (some ⟨g, 0, none⟩) n cap]) ∧ (Gam.Own FDx B N w3 23 (.slice (some ⟨g, 0, none⟩) n cap) (some g) (vls n k bs rc)) ∧ (Wr FDx B N KM w3 n k bs rc (hp.fld.clC i (j) (x) f)) ∧ (Gam.Own FDx B w.heap.size w3 FDx.E (.slice (some ⟨gc, 0, none⟩) k cc) (some gc) (zints (trow k f i))) ∧ (x ≤ n) ∧ (q2 + x = n)) (n) ?_ ?_
   ·
    skip
    exact ⟨0, hF.sub _ (c_ 1 rfl (c_ 2 rfl (c_ 5 rfl (c_ 6 rfl (c_ 16 rfl (c_ 17 rfl (c_ 18 rfl (c_ 24 rfl (c_ 25 rfl (c_ 26 rfl (n_))))))))))), hS, hf, hbx, hO, hW, hC, by omega, by omega⟩
   ·
    skip
    clear hF
    clear hS hf hbx hO hW hC
    rintro q2 a w3 ⟨x, hF, hS, hf, hbx, hO, hW, hC, hxn, hq2⟩
    refine W_sr rfl (fun K hK => ?_)
    refine sv hF (v_lss rfl rfl) rfl ?_; clear hF a; intro a hF
    refine WL_nil (hK _ _ ?_)
    clear hK K
    refine W_seq ?_
    refine W_if hF rfl (fun hc2 => ?_) (fun hc2 => ?_)
    ·
     skip
     try simp only [dcl] at hc2
     have hx : x < n := by omega
     refine W_skip ?_
     refine W_seq ?_
     refine W_block ?_
     refine W_sr rfl (fun K hK => ?_)
     refine sv hF (v_ixS sl27 rfl rfl (by omega) (by omega)) rfl ?_; clear hF a; intro a hF
     refine sv hF (v_load sc23 rfl (by rw [toNat_c]; exact (hO.kc (by decide) (vls_at hx)).c)) rfl ?_; clear hF a; intro a hF
     refine sv hF (v_assign rfl) rfl ?_; clear hF a; intro a hF
     refine WL_nil (hK _ _ ?_)
     clear hK K
     replace hF := hF.sub _ (c_ 8 rfl (c_ 1 rfl (c_ 2 rfl (c_ 5 rfl (c_ 6 rfl (c_ 16 rfl (c_ 17 rfl (c_ 18 rfl (c_ 24 rfl (c_ 25 rfl (c_ 26 rfl (n_))))))))))))
     refine W_sr rfl (fun K hK => ?_)
     refine sv2 hF (v_move rfl) (v_move rfl) rfl rfl ?_; clear hF a; intro a hF
     refine sv hF (v_neq rfl rfl) rfl ?_; clear hF a; intro a hF
     refine WL_nil (hK _ _ ?_)
     clear hK K
     replace hF := hF.sub _ (c_ 32 rfl (c_ 8 rfl (c_ 1 rfl (c_ 2 rfl (c_ 5 rfl (c_ 6 rfl (c_ 16 rfl (c_ 17 rfl (c_ 18 rfl (c_ 24 rfl (c_ 25 rfl (c_ 26 rfl (n_)))))))))))))
     refine W_if hF rfl (fun hc3 => ?_) (fun hc3 => ?_)
     ·
      skip
      try simp only [dcl] at hc3
      have hji : j ≠ i := by omega
      have hb1 := hfb x i
      have hb2 := hfb i j
      have hb3 := hp.fld.clC_bd (i := i) (j := j) (x := x) hfb x j
      have hb5 := hp.fld.lt (f x i) (f i j)
      rw [hfw] at hb1 hb2 hb3 hb5
      refine W_dS (fun (w2 : World) => w2.cell? ⟨gr, 0, none⟩ = some fv ∧ w2.cell? ⟨bs x, 0 + i, none⟩ = some (.int .i64 ((f x i : Nat) : Int))) (m := 15) rfl hmix (fun K hK => ?_)
      have hS' := St.drew hS.inv
      replace hf := hf.st hS'
      replace hO := hO.st (by decide) hS'
      replace hW := hW.st hS'
      replace hbx := hbx.st (by decide) hS'
      replace hC := hC.st (by decide) hS'
      replace hS := hS.trans hS'
      clear hS'
      have hSS : (fun (w2 : World) => w2.cell? ⟨gr, 0, none⟩ = some fv ∧ w2.cell? ⟨bs x, 0 + i, none⟩ = some (.int .i64 ((f x i : Nat) : Int))) _ := And.intro (hbx.at 0 rfl) (by have h := (hW.rd hx hi).c; rw [Fld.clC_self] at h; exact h)
      refine b_v (i := 0) rfl (by kernel_rfl) hF (fun w2 hx => v_move rfl) rfl hSS ?_; clear hF a; intro a hF
      refine b_v (i := 1) rfl (by kernel_rfl) hF (fun w2 hx => v_move rfl) rfl hSS ?_; clear hF a; intro a hF
      refine b_v (i := 2) rfl (by kernel_rfl) hF (fun w2 hx => v_ixS sl23 rfl rfl (by omega) (by omega)) rfl hSS ?_; clear hF a; intro a hF
      refine b_v (i := 4) rfl (by kernel_rfl) hF (fun w2 hx => v_fieldAddr fa68_0 rfl) rfl hSS ?_; clear hF a; intro a hF
      refine b_v (i := 5) rfl (by kernel_rfl) hF (fun w2 hx => v_load sc44 rfl hx.1) rfl hSS ?_; clear hF a; intro a hF
      refine b_v (i := 6) rfl (by kernel_rfl) hF (fun w2 hx => v_move rfl) rfl hSS ?_; clear hF a; intro a hF
      refine b_v (i := 7) rfl (by kernel_rfl) hF (fun w2 hx => v_move rfl) rfl hSS ?_; clear hF a; intro a hF
      refine b_v (i := 8) rfl (by kernel_rfl) hF (fun w2 hx => v_ixS sl23 rfl rfl (by omega) (by omega)) rfl hSS ?_; clear hF a; intro a hF
      refine b_v (i := 9) rfl (by kernel_rfl) hF (fun w2 hx => v_load sc3 rfl (by rw [toNat_c]; exact hx.2)) rfl hSS ?_; clear hF a; intro a hF
      refine b_v (i := 10) rfl (by kernel_rfl) hF (fun w2 hx => v_move rfl) rfl hSS ?_; clear hF a; intro a hF
      refine b_e2 (i := 3) (i' := 11) (by kernel_rfl) rfl rfl ?_ ?_
      ·
       skip
       refine sv hF (v_load sc3 rfl (by rw [toNat_c]; exact (hW.rd hx hlt).c)) rfl ?_; clear hF a; intro a hF
       refine WL_nil ⟨hSS, ?_⟩
       refine b_e (i := 11) (by kernel_rfl) rfl ?_
       refine sc hF rfl rfl rfl en26 rfl (Mul_gf B (some (wb, p)) fv ((f x i : Nat) : Int) ((f i j : Nat) : Int) _ hS.inv hf) ?_; clear hF a; intro v w' a hv hF
       obtain ⟨rfl, hS'⟩ := hv
       replace hf := hf.st hS'
       replace hO := hO.st (by decide) hS'
       replace hW := hW.st hS'
       replace hbx := hbx.st (by decide) hS'
       replace hC := hC.st (by decide) hS'
       replace hS := hS.trans hS'
       clear hS'
       rw [gmul_num hp hb1 hb2] at hF
       clear hSS
       have hSS : (fun (w2 : World) => w2.cell? ⟨gr, 0, none⟩ = some fv ∧ w2.cell? ⟨bs x, 0 + i, none⟩ = some (.int .i64 ((f x i : Nat) : Int))) _ := And.intro (hbx.at 0 rfl) (by have h := (hW.rd hx hi).c; rw [Fld.clC_self] at h; exact h)
       refine WL_nil ⟨hSS, ?_⟩
       refine b_v (i := 12) rfl (by kernel_rfl) hF (fun w2 hx => v_xorN rfl rfl (fits_i64 (by omega)) (fits_i64 (by omega))) rfl hSS ?_; clear hF a; intro a hF
       refine b_v (i := 13) rfl (by kernel_rfl) hF (fun w2 hx => v_ixS sl23 rfl rfl (by omega) (by omega)) rfl hSS ?_; clear hF a; intro a hF
       refine b_e (i := 14) (by kernel_rfl) rfl ?_
       have hR0 := hW.row _ hx
       have hge := hW.ge hx
       refine s_set (D := FDx) (B := B) hF on3 rfl (by rw [toNat_c, zints_length, trow_length]; omega) rfl rfl hR0 (by decide) hS.inv ?_; intro w' hm hI' ho'
       replace hf := hf.mb hm
       replace hO := hO.mb hm (hO.ne_type hR0 (by decide))
       replace hW := hW.set (g := hp.fld.clC i (j) (x + 1) f) hx hm (ho'.cast (by rw [toNat_c, Nat.zero_add, zints_set, trow_set (g := hp.fld.clC i (j) (x + 1) f)]; intro l hl; exact (by have e := hp.fld.clC_at (x := x) (l := l) (f := f) hji; rw [hp.fld.clC_self] at e; exact e))) (fun a ha hai l hl => (hp.fld.clC_ne hai))
       replace hbx := hbx.mb hm (hW.ne hx hKgr)
       replace hC := hC.mb hm (fun k e e2 => hW.ne hx hKgc (e2.trans e.symm))
       replace hS := hS.mb hm (fun k e => ⟨by cases e; exact ⟨hge.1, hW.lt _ hx⟩, hR0.isrow k e⟩)
       replace hR0 := ho'
       clear hm hI' ho'
       clear hR0 hge
       clear hSS
       have hSS : (fun (w2 : World) => w2.cell? ⟨gr, 0, none⟩ = some fv ∧ w2.cell? ⟨bs x, 0 + i, none⟩ = some (.int .i64 ((f x i : Nat) : Int))) _ := And.intro (hbx.at 0 rfl) (by have h := (hW.rd hx hi).c; rw [Fld.clC_self] at h; exact h)
       refine WL_nil ⟨hSS, ?_⟩
       refine b_done (by kernel_rfl) (hK _ _ ?_)
       clear hK K
       replace hF := hF.sub _ (c_ 1 rfl (c_ 2 rfl (c_ 5 rfl (c_ 6 rfl (c_ 16 rfl (c_ 17 rfl (c_ 18 rfl (c_ 24 rfl (c_ 25 rfl (c_ 26 rfl (n_)))))))))))
       refine W_reg rfl (fun K hK => ?_)
       refine sv hF (v_addI rfl rfl (by omega)) rfl ?_; clear hF a; intro a hF
       refine sv hF (v_move rfl) rfl ?_; clear hF a; intro a hF
       refine WL_nil (hK _ _ ?_)
       clear hK K
       exact ⟨q2 - 1, by omega, x + 1, hF.sub _ (c_ 1 rfl (c_ 2 rfl (c_ 5 rfl (c_ 6 rfl (c_ 16 rfl (c_ 17 rfl (c_ 18 rfl (c_ 24 rfl (c_ 25 rfl (c_ 26 rfl (n_))))))))))), hS, hf, hbx, hO, hW, hC, by omega, by omega⟩
      ·
       skip
       refine sc hF rfl rfl rfl en26 rfl (Mul_gf B (some (wb, p)) fv ((f x i : Nat) : Int) ((f i j : Nat) : Int) _ hS.inv hf) ?_; clear hF a; intro v w' a hv hF
       obtain ⟨rfl, hS'⟩ := hv
       replace hf := hf.st hS'
       replace hO := hO.st (by decide) hS'
       replace hW := hW.st hS'
       replace hbx := hbx.st (by decide) hS'
       replace hC := hC.st (by decide) hS'
       replace hS := hS.trans hS'
       clear hS'
       rw [gmul_num hp hb1 hb2] at hF
       clear hSS
       have hSS : (fun (w2 : World) => w2.cell? ⟨gr, 0, none⟩ = some fv ∧ w2.cell? ⟨bs x, 0 + i, none⟩ = some (.int .i64 ((f x i : Nat) : Int))) _ := And.intro (hbx.at 0 rfl) (by have h := (hW.rd hx hi).c; rw [Fld.clC_self] at h; exact h)
       refine WL_nil ⟨hSS, ?_⟩
       refine b_e (i := 3) (by kernel_rfl) rfl ?_
       refine sv hF (v_load sc3 rfl (by rw [toNat_c]; exact (hW.rd hx hlt).c)) rfl ?_; clear hF a; intro a hF
       refine WL_nil ⟨hSS, ?_⟩
       refine b_v (i := 12) rfl (by kernel_rfl) hF (fun w2 hx => v_xorN rfl rfl (fits_i64 (by omega)) (fits_i64 (by omega))) rfl hSS ?_; clear hF a; intro a hF
       refine b_v (i := 13) rfl (by kernel_rfl) hF (fun w2 hx => v_ixS sl23 rfl rfl (by omega) (by omega)) rfl hSS ?_; clear hF a; intro a hF
       refine b_e (i := 14) (by kernel_rfl) rfl ?_
       have hR0 := hW.row _ hx
       have hge := hW.ge hx
       refine s_set (D := FDx) (B := B) hF on3 rfl (by rw [toNat_c, zints_length, trow_length]; omega) rfl rfl hR0 (by decide) hS.inv ?_; intro w' hm hI' ho'
       replace hf := hf.mb hm
       replace hO := hO.mb hm (hO.ne_type hR0 (by decide))
       replace hW := hW.set (g := hp.fld.clC i (j) (x + 1) f) hx hm (ho'.cast (by rw [toNat_c, Nat.zero_add, zints_set, trow_set (g := hp.fld.clC i (j) (x + 1) f)]; intro l hl; exact (by have e := hp.fld.clC_at (x := x) (l := l) (f := f) hji; rw [hp.fld.clC_self] at e; exact e))) (fun a ha hai l hl => (hp.fld.clC_ne hai))
       replace hbx := hbx.mb hm (hW.ne hx hKgr)
       replace hC := hC.mb hm (fun k e e2 => hW.ne hx hKgc (e2.trans e.symm))
       replace hS := hS.mb hm (fun k e => ⟨by cases e; exact ⟨hge.1, hW.lt _ hx⟩, hR0.isrow k e⟩)
       replace hR0 := ho'
       clear hm hI' ho'
       clear hR0 hge
       clear hSS
       have hSS : (fun (w2 : World) => w2.cell? ⟨gr, 0, none⟩ = some fv ∧ w2.cell? ⟨bs x, 0 + i, none⟩ = some (.int .i64 ((f x i : Nat) : Int))) _ := And.intro (hbx.at 0 rfl) (by have h := (hW.rd hx hi).c; rw [Fld.clC_self] at h; exact h)
       refine WL_nil ⟨hSS, ?_⟩
       refine b_done (by kernel_rfl) (hK _ _ ?_)
       clear hK K
       replace hF := hF.sub _ (c_ 1 rfl (c_ 2 rfl (c_ 5 rfl (c_ 6 rfl (c_ 16 rfl (c_ 17 rfl (c_ 18 rfl (c_ 24 rfl (c_ 25 rfl (c_ 26 rfl (n_)))))))))))
       refine W_reg rfl (fun K hK => ?_)
       refine sv hF (v_addI rfl rfl (by omega)) rfl ?_; clear hF a; intro a hF
       refine sv hF (v_move rfl) rfl ?_; clear hF a; intro a hF
       refine WL_nil (hK _ _ ?_)
       clear hK K
       exact ⟨q2 - 1, by omega, x + 1, hF.sub _ (c_ 1 rfl (c_ 2 rfl (c_ 5 rfl (c_ 6 rfl (c_ 16 rfl (c_ 17 rfl (c_ 18 rfl (c_ 24 rfl (c_ 25 rfl (c_ 26 rfl (n_))))))))))), hS, hf, hbx, hO, hW, hC, by omega, by omega⟩
     ·
      skip
      try simp only [dcl] at hc3
      have hji : i = j := by omega
      replace hW := hW.congr (g := hp.fld.clC i (j) (x + 1) f) (fun a _ b _ => by subst hji; exact hp.fld.clC_skip.symm)
      refine W_skip ?_
      refine W_reg rfl (fun K hK => ?_)
      refine sv hF (v_addI rfl rfl (by omega)) rfl ?_; clear hF a; intro a hF
      refine sv hF (v_move rfl) rfl ?_; clear hF a; intro a hF
      refine WL_nil (hK _ _ ?_)
      clear hK K
      replace hF := hF.sub _ (c_ 26 rfl (c_ 47 rfl (c_ 1 rfl (c_ 2 rfl (c_ 5 rfl (c_ 6 rfl (c_ 16 rfl (c_ 17 rfl (c_ 18 rfl (c_ 24 rfl (c_ 25 rfl (n_))))))))))))
      exact ⟨q2 - 1, by omega, x + 1, hF.sub _ (c_ 1 rfl (c_ 2 rfl (c_ 5 rfl (c_ 6 rfl (c_ 16 rfl (c_ 17 rfl (c_ 18 rfl (c_ 24 rfl (c_ 25 rfl (c_ 26 rfl (n_))))))))))), hS, hf, hbx, hO, hW, hC, by omega, by omega⟩
    ·
     skip
     try simp only [dcl] at hc2
     have hxe : x = n := by omega
     rw [hxe] at hW
     replace hW := hW.congr (fun a ha b _ => hp.fld.clC_next ha)
     refine W_exit rfl ?_
     refine W_reg rfl (fun K hK => ?_)
     refine sv hF (v_addI rfl rfl (by omega)) rfl ?_; clear hF a; intro a hF
     refine sv hF (v_move rfl) rfl ?_; clear hF a; intro a hF
     refine WL_nil (hK _ _ ?_)
     clear hK K
     replace hF := hF.sub _ (c_ 18 rfl (c_ 48 rfl (c_ 1 rfl (c_ 2 rfl (c_ 5 rfl (c_ 6 rfl (c_ 16 rfl (c_ 17 rfl (c_ 24 rfl (c_ 25 rfl (c_ 26 rfl (n_))))))))))))
     exact ⟨q - 1, by omega, j + 1, hF.sub _ (c_ 1 rfl (c_ 2 rfl (c_ 16 rfl (c_ 17 rfl (c_ 18 rfl (n_)))))), hS, hf, hbx, hO, hW, hC, by omega, by omega⟩
  ·
   skip
   try simp only [dcl] at hc1
   refine W_exit rfl ?_
   refine ⟨_, hF, ?_⟩
   obtain rfl : j = k := by omega
   exact ⟨rfl, hO, hW, hS⟩

end Go.Proofs.Ytkoiolamnnmokaa

/- The walk of package jvan: one step. -/
set_option linter.unusedVariables false
set_option linter.unusedSimpArgs false
namespace Go.Proofs.Ytkoiolamnnmokaa
open Go Go.Gam


namespace FxFJvc
theorem en24 : Ent Try.prog 24 := ent Try.func24 (by kernel_rfl) (by kernel_rfl)
theorem en25 : Ent Try.prog 25 := ent Try.func25 (by kernel_rfl) (by kernel_rfl)
theorem en37 : Ent Try.prog 37 := ent Try.func37 (by kernel_rfl) (by kernel_rfl)
theorem fa68_0 : FieldFact Try.prog 68 0 0 := ff_of (sz := 0) Try.underlying68 (by kernel_rfl)
theorem fa68_1 : FieldFact Try.prog 68 1 1 := ff_of (sz := 0) Try.underlying68 (by kernel_rfl)
theorem hmix : Try.prog.follows .mixedOrders = true := by kernel_rfl
theorem on3 : Gam.One Try.prog 3 := by unfold Gam.One; kernel_rfl
theorem rc68 : Rec2 Try.prog 68 (.pointer none) (.slice none 0 0) := rec2_of Try.underlying68 (by kernel_rfl) (by kernel_rfl) (by kernel_rfl)
theorem sc23 : Scalar Try.prog 23 := ⟨_, Try.underlying23, by simp, by simp⟩
theorem sc27 : Scalar Try.prog 27 := ⟨_, Try.underlying27, by simp, by simp⟩
theorem sc3 : Scalar Try.prog 3 := ⟨_, Try.underlying3, by simp, by simp⟩
theorem sc44 : Scalar Try.prog 44 := ⟨_, Try.underlying44, by simp, by simp⟩
theorem sl23 : Sl Try.prog 23 3 (.int .i64 0) 8 := sl_of Try.underlying23 rfl (by kernel_rfl)
theorem sl26 : Sl Try.prog 26 23 (.slice none 0 0) 24 := sl_of Try.underlying26 rfl (by kernel_rfl)
theorem sl27 : Sl Try.prog 27 23 (.slice none 0 0) 24 := sl_of Try.underlying27 rfl (by kernel_rfl)
end FxFJvc
open FxFJvc

set_option maxRecDepth 100000 in
set_option maxHeartbeats 1000000 in
theorem step_ok (B N KM wb p : Nat) (hp : Prm wb p) (fv : Value) (g cap n k : Nat) (bs rc : Nat → Nat) (f : Tb) (i q : Nat) (w : World) (hI : Inv FDx B w) (hf : Fo FDx B w fv (some (wb, p))) (hO : Gam.Own FDx B N w 23 (.slice (some ⟨g, 0, none⟩) n cap) (some g) (vls n k bs rc)) (hW : Wr FDx B N KM w n k bs rc (f)) (hKM : KM ≤ w.heap.size) (hNM : N ≤ KM) (hfb : hp.fld.Bd f) (hnk : n ≤ 20 ∧ k ≤ 20) (hi : i < k) (hin : i < n) (hq : Fld.piv (Fld.tr f) k i i (k - i) = some q) : Ret Try.prog 23 [.agg #[fv, .slice (some ⟨g, 0, none⟩) n cap], .int .i64 (i : Int)] w fun v w' => v = .tuple #[] ∧ Gam.Own FDx B N w' 23 (.slice (some ⟨g, 0, none⟩) n cap) (some g) (vls n k bs rc) ∧ Wr FDx B N KM w' n k bs rc (hp.fld.stC n k i f) ∧ StZ FDx B (fun x => N ≤ x ∧ x < KM) w w' := by
 refine enter0 72 [(0, .agg #[fv, .slice (some ⟨g, 0, none⟩) n cap]), (1, .int .i64 (i : Int))]  Try.func23 rfl rfl rfl rfl rfl ?_; intro a hF
 have hS := StZ.refl (Z := (fun x => N ≤ x ∧ x < KM)) hI
 have hfw := hp.fld_w
 have h16 : 2 ^ wb ≤ 65536 := by rcases hp.w with h | h <;> rw [h] <;> decide
 obtain ⟨hiq, hqk0, hfq0, hmin⟩ := Fld.piv_some hq
 have hqk : q < k := by omega
 have hfq : f i q ≠ 0 := hfq0
 have hfqb := hfb i q
 have hsb := hp.fld.inv_lt (f i q)
 rw [hfw] at hfqb hsb
 refine W_sr rfl (fun K hK => ?_)
 obtain ⟨gr, hgr⟩ : ∃ x, x = w.heap.size := ⟨_, rfl⟩
 have hKgr : KM ≤ gr := by omega
 refine s_box (D := FDx) (B := B) hF rfl (by decide) hS.inv rfl ?_; clear hF a; intro w' a hm hbx hsz hF
 replace hf := hf.mb hm
 replace hO := hO.mb hm (fun _ _ => by simp)
 replace hW := hW.mb0 hm
 replace hS := hS.mb0 hm
 clear hm
 rw [← hgr] at hbx hF
 refine WL_nil (hK _ _ ?_)
 clear hK K
 replace hF := hF.sub _ (c_ 2 rfl (c_ 1 rfl (n_)))
 refine W_seq ?_
 refine W_sr rfl (fun K hK => ?_)
 refine sv hF (v_fieldAddr fa68_1 rfl) rfl ?_; clear hF a; intro a hF
 refine sv hF (v_load sc27 rfl (hbx.at 1 rfl)) rfl ?_; clear hF a; intro a hF
 refine sv hF (v_move rfl) rfl ?_; clear hF a; intro a hF
 refine sv hF (v_ixS sl27 rfl rfl (by omega) (by omega)) rfl ?_; clear hF a; intro a hF
 have hkr := hO.kc (by decide) (vls_at hin)
 refine sv hF (v_load sc23 rfl (by rw [toNat_c]; exact hkr.c)) rfl ?_; clear hF a; intro a hF
 clear hkr
 refine sv hF (v_lenS rfl sl23 rfl) rfl ?_; clear hF a; intro a hF
 refine sv hF (v_move rfl) rfl ?_; clear hF a; intro a hF
 refine WL_nil (hK _ _ ?_)
 clear hK K
 replace hF := hF.sub _ (c_ 16 rfl (c_ 15 rfl (c_ 14 rfl (c_ 2 rfl (c_ 1 rfl (n_))))))
 refine W_block ?_
 refine W_loop (fun d a w1 => ∃ (j : Nat), Fr 72 [(1, .int .i64 (i : Int)), (2, .pointer (some ⟨gr, 0, none⟩)), (14, .slice (some ⟨bs i, 0, none⟩) k (rc i)), (15, .int .i64 (k : Int)), (16, .int .i64 (j : Int))] a ∧ (StZ FDx B (fun x => N ≤ x ∧ x < KM) w w1) ∧ (Fo FDx B w1 fv (some (wb, p))) ∧ (Blk w1 gr 68 [fv, .slice (some ⟨g, 0, none⟩) n cap]) ∧ (Gam.Own FDx B N w1 23 (.slice (some ⟨g, 0, none⟩) n cap) (some g) (vls n k bs rc)) ∧ (Wr FDx B N KM w1 n k bs rc (f)) ∧ (j ≤ q) ∧ (d + j = k)) (k) ?_ ?_
 ·
  skip
  exact ⟨0, hF.sub _ (c_ 1 rfl (c_ 2 rfl (c_ 14 rfl (c_ 15 rfl (c_ 16 rfl (n_)))))), hS, hf, hbx, hO, hW, by omega, by omega⟩
 ·
  skip
  clear hF
  clear hS hf hbx hO hW
  rintro d a w1 ⟨j, hF, hS, hf, hbx, hO, hW, hj, hd⟩
  refine W_sr rfl (fun K hK => ?_)
  refine sv hF ((v_lss rfl rfl).as (congrArg Value.bool (decide_eq_true (by omega)))) rfl ?_; clear hF a; intro a hF
  refine WL_nil (hK _ _ ?_)
  clear hK K
  refine W_seq ?_
  refine W_ifT hF rfl ?_
  refine W_skip ?_
  refine W_seq ?_
  refine W_block ?_
  have hjk : j < k := by omega
  refine W_sr rfl (fun K hK => ?_)
  refine sv hF (v_move rfl) rfl ?_; clear hF a; intro a hF
  refine sv hF (v_ixS sl23 rfl rfl (by omega) (by omega)) rfl ?_; clear hF a; intro a hF
  refine sv hF (v_load sc3 rfl (by rw [toNat_c]; exact (hW.rd hin hjk).c)) rfl ?_; clear hF a; intro a hF
  refine sv2 hF (v_assign rfl) (v_assign rfl) rfl rfl ?_; clear hF a; intro a hF
  refine WL_nil (hK _ _ ?_)
  clear hK K
  replace hF := hF.sub _ (c_ 5 rfl (c_ 4 rfl (c_ 1 rfl (c_ 2 rfl (c_ 14 rfl (c_ 15 rfl (c_ 16 rfl (n_))))))))
  refine W_seq ?_
  refine W_sr rfl (fun K hK => ?_)
  refine sv2 hF (v_move rfl) (v_move rfl) rfl rfl ?_; clear hF a; intro a hF
  refine sb hF (v_lss rfl rfl) rfl ?_ ?_
  ·
   clear hF a; intro hc1 a hF
   try simp only [dcl] at hc1
   refine sv hF (v_move rfl) rfl ?_; clear hF a; intro a hF
   refine svn hF rfl rfl rfl ?_; clear hF a; intro a hF
   refine svn hF rfl rfl rfl ?_; clear hF a; intro a hF
   refine sv hF (v_pickT rfl rfl) rfl ?_; clear hF a; intro a hF
   refine WL_nil (hK _ _ ?_)
   clear hK K
   replace hF := hF.sub _ (c_ 27 rfl (c_ 4 rfl (c_ 1 rfl (c_ 2 rfl (c_ 14 rfl (c_ 15 rfl (c_ 16 rfl (n_))))))))
   refine W_ifT hF rfl ?_
   refine W_exit rfl ?_
   refine W_reg rfl (fun K hK => ?_)
   refine sv hF (v_addI rfl rfl (by omega)) rfl ?_; clear hF a; intro a hF
   refine sv hF (v_move rfl) rfl ?_; clear hF a; intro a hF
   refine WL_nil (hK _ _ ?_)
   clear hK K
   replace hF := hF.sub _ (c_ 16 rfl (c_ 50 rfl (c_ 1 rfl (c_ 2 rfl (c_ 14 rfl (c_ 15 rfl (n_)))))))
   exact ⟨d - 1, by omega, j + 1, hF.sub _ (c_ 1 rfl (c_ 2 rfl (c_ 14 rfl (c_ 15 rfl (c_ 16 rfl (n_)))))), hS, hf, hbx, hO, hW, by omega, by omega⟩
  ·
   clear hF a; intro hc1 a hF
   try simp only [dcl] at hc1
   refine sv hF (v_move rfl) rfl ?_; clear hF a; intro a hF
   refine svg hF rfl ?_
   refine sv hF (v_move rfl) rfl ?_; clear hF a; intro a hF
   refine svg hF rfl ?_
   refine sv hF (v_eql rfl rfl) rfl ?_; clear hF a; intro a hF
   refine sv hF (v_pickF rfl rfl) rfl ?_; clear hF a; intro a hF
   refine WL_nil (hK _ _ ?_)
   clear hK K
   replace hF := hF.sub _ (c_ 27 rfl (c_ 4 rfl (c_ 1 rfl (c_ 2 rfl (c_ 14 rfl (c_ 15 rfl (c_ 16 rfl (n_))))))))
   refine W_if hF rfl (fun hc2 => ?_) (fun hc2 => ?_)
   ·
    skip
    try simp only [dcl] at hc2
    have hjq : j ≠ q := by rintro rfl; omega
    refine W_exit rfl ?_
    refine W_reg rfl (fun K hK => ?_)
    refine sv hF (v_addI rfl rfl (by omega)) rfl ?_; clear hF a; intro a hF
    refine sv hF (v_move rfl) rfl ?_; clear hF a; intro a hF
    refine WL_nil (hK _ _ ?_)
    clear hK K
    replace hF := hF.sub _ (c_ 16 rfl (c_ 50 rfl (c_ 1 rfl (c_ 2 rfl (c_ 14 rfl (c_ 15 rfl (n_)))))))
    exact ⟨d - 1, by omega, j + 1, hF.sub _ (c_ 1 rfl (c_ 2 rfl (c_ 14 rfl (c_ 15 rfl (c_ 16 rfl (n_)))))), hS, hf, hbx, hO, hW, by omega, by omega⟩
   ·
    skip
    try simp only [dcl] at hc2
    obtain rfl : q = j := by
     by_cases e : j < q
     ·
      exact absurd (hmin j (by omega) e) (by show f i j ≠ 0; omega)
     ·
      omega
    refine W_skip ?_
    refine W_seq ?_
    refine W_sr rfl (fun K hK => ?_)
    refine sv hF (v_fieldAddr fa68_1 rfl) rfl ?_; clear hF a; intro a hF
    refine sv hF (v_load sc27 rfl (hbx.at 1 rfl)) rfl ?_; clear hF a; intro a hF
    refine sv hF (v_lenS rfl sl27 rfl) rfl ?_; clear hF a; intro a hF
    refine sv hF (v_move rfl) rfl ?_; clear hF a; intro a hF
    refine WL_nil (hK _ _ ?_)
    clear hK K
    replace hF := hF.sub _ (c_ 31 rfl (c_ 30 rfl (c_ 29 rfl (c_ 4 rfl (c_ 1 rfl (c_ 2 rfl (c_ 14 rfl (c_ 15 rfl (c_ 16 rfl (n_))))))))))
    refine W_block ?_
    refine W_loop (fun d2 a w3 => ∃ (x : Nat), Fr 72 [(1, .int .i64 (i : Int)), (2, .pointer (some ⟨gr, 0, none⟩)), (4, .int .i64 (q : Int)), (29, .slice (some ⟨g, 0, none⟩) n cap), (30, .int .i64 (n : Int)), (31, .int .i64 (x : Int))] a ∧ (StZ FDx B (fun x => N ≤ x ∧ x < KM) w w3) ∧ (Fo FDx B w3 fv (some (wb, p))) ∧ (Blk w3 gr 68 [fv, .slice (some ⟨g, 0, none⟩) n cap]) ∧ (Gam.Own FDx B N w3 23 (.slice (some ⟨g, 0, none⟩) n cap) (some g) (vls n k bs rc)) ∧ (Wr FDx B N KM w3 n k bs rc (colS i q (x) f)) ∧ (x ≤ n) ∧ (d2 + x = n)) (n) ?_ ?_
    ·
     skip
     exact ⟨0, hF.sub _ (c_ 1 rfl (c_ 2 rfl (c_ 4 rfl (c_ 29 rfl (c_ 30 rfl (c_ 31 rfl (n_))))))), hS, hf, hbx, hO, hW.congr (fun a _ b _ => colS_zero.symm), by omega, by omega⟩
    ·
     skip
     clear hF
     clear hS hf hbx hO hW
     rintro d2 a w3 ⟨x, hF, hS, hf, hbx, hO, hW, hxn, hd2⟩
     refine W_sr rfl (fun K hK => ?_)
     refine sv hF (v_lss rfl rfl) rfl ?_; clear hF a; intro a hF
     refine WL_nil (hK _ _ ?_)
     clear hK K
     refine W_seq ?_
     refine W_if hF rfl (fun hc3 => ?_) (fun hc3 => ?_)
     ·
      skip
      try simp only [dcl] at hc3
      have hx : x < n := by omega
      refine W_skip ?_
      refine W_seq ?_
      refine W_block ?_
      refine W_sr rfl (fun K hK => ?_)
      refine sv hF (v_ixS sl27 rfl rfl (by omega) (by omega)) rfl ?_; clear hF a; intro a hF
      refine sv hF (v_load sc23 rfl (by rw [toNat_c]; exact (hO.kc (by decide) (vls_at hx)).c)) rfl ?_; clear hF a; intro a hF
      refine sv hF (v_assign rfl) rfl ?_; clear hF a; intro a hF
      refine WL_nil (hK _ _ ?_)
      clear hK K
      replace hF := hF.sub _ (c_ 7 rfl (c_ 1 rfl (c_ 2 rfl (c_ 4 rfl (c_ 29 rfl (c_ 30 rfl (c_ 31 rfl (n_))))))))
      refine W_dS (fun (w2 : World) => w2.cell? ⟨gr, 0, none⟩ = some fv) (m := 16) rfl hmix (fun K hK => ?_)
      have hS' := St.drew hS.inv
      replace hf := hf.st hS'
      replace hO := hO.st (by decide) hS'
      replace hW := hW.st hS'
      replace hbx := hbx.st (by decide) hS'
      replace hS := hS.trans hS'
      clear hS'
      have hSS : (fun (w2 : World) => w2.cell? ⟨gr, 0, none⟩ = some fv) _ := hbx.at 0 rfl
      refine b_v (i := 0) rfl (by kernel_rfl) hF (fun w2 hx => v_move rfl) rfl hSS ?_; clear hF a; intro a hF
      refine b_v (i := 1) rfl (by kernel_rfl) hF (fun w2 hx => v_move rfl) rfl hSS ?_; clear hF a; intro a hF
      refine b_v (i := 2) rfl (by kernel_rfl) hF (fun w2 hx => v_move rfl) rfl hSS ?_; clear hF a; intro a hF
      refine b_v (i := 3) rfl (by kernel_rfl) hF (fun w2 hx => v_move rfl) rfl hSS ?_; clear hF a; intro a hF
      refine b_v (i := 4) rfl (by kernel_rfl) hF (fun w2 hx => v_move rfl) rfl hSS ?_; clear hF a; intro a hF
      refine b_v (i := 5) rfl (by kernel_rfl) hF (fun w2 hx => v_move rfl) rfl hSS ?_; clear hF a; intro a hF
      refine b_v (i := 6) rfl (by kernel_rfl) hF (fun w2 hx => v_ixS sl23 rfl rfl (by omega) (by omega)) rfl hSS ?_; clear hF a; intro a hF
      refine b_v (i := 8) rfl (by kernel_rfl) hF (fun w2 hx => v_move rfl) rfl hSS ?_; clear hF a; intro a hF
      refine b_v (i := 9) rfl (by kernel_rfl) hF (fun w2 hx => v_move rfl) rfl hSS ?_; clear hF a; intro a hF
      refine b_v (i := 10) rfl (by kernel_rfl) hF (fun w2 hx => v_ixS sl23 rfl rfl (by omega) (by omega)) rfl hSS ?_; clear hF a; intro a hF
      refine b_e2 (i := 7) (i' := 11) (by kernel_rfl) rfl rfl ?_ ?_
      ·
       skip
       refine sv hF (v_load sc3 rfl (by rw [toNat_c]; have h := (hW.rd hx hqk).c; rw [colS_old] at h; exact h)) rfl ?_; clear hF a; intro a hF
       refine WL_nil ⟨hSS, ?_⟩
       refine b_e (i := 11) (by kernel_rfl) rfl ?_
       refine sv hF (v_load sc3 rfl (by rw [toNat_c]; have h := (hW.rd hx hi).c; rw [colS_old] at h; exact h)) rfl ?_; clear hF a; intro a hF
       refine WL_nil ⟨hSS, ?_⟩
       refine b_v (i := 12) rfl (by kernel_rfl) hF (fun w2 hx => v_ixS sl23 rfl rfl (by omega) (by omega)) rfl hSS ?_; clear hF a; intro a hF
       refine b_e (i := 13) (by kernel_rfl) rfl ?_
       have hR0 := hW.row _ hx
       have hge := hW.ge hx
       refine s_set (D := FDx) (B := B) hF on3 rfl (by rw [toNat_c, zints_length, trow_length]; omega) rfl rfl hR0 (by decide) hS.inv ?_; intro w' hm hI' ho'
       replace hf := hf.mb hm
       replace hO := hO.mb hm (hO.ne_type hR0 (by decide))
       replace hW := hW.set (g := colH i q x f) hx hm (ho'.cast (by rw [toNat_c, Nat.zero_add, zints_set, trow_set (g := colH i q x f)]; intro l hl; exact colH_at)) (fun a ha hai l hl => (colH_ne hai))
       replace hbx := hbx.mb hm (hW.ne hx hKgr)
       replace hS := hS.mb hm (fun k e => ⟨by cases e; exact ⟨hge.1, hW.lt _ hx⟩, hR0.isrow k e⟩)
       replace hR0 := ho'
       clear hm hI' ho'
       clear hR0 hge
       clear hSS
       have hSS : (fun (w2 : World) => w2.cell? ⟨gr, 0, none⟩ = some fv) _ := hbx.at 0 rfl
       refine WL_nil ⟨hSS, ?_⟩
       refine b_v (i := 14) rfl (by kernel_rfl) hF (fun w2 hx => v_ixS sl23 rfl rfl (by omega) (by omega)) rfl hSS ?_; clear hF a; intro a hF
       refine b_e (i := 15) (by kernel_rfl) rfl ?_
       have hR0 := hW.row _ hx
       have hge := hW.ge hx
       refine s_set (D := FDx) (B := B) hF on3 rfl (by rw [toNat_c, zints_length, trow_length]; omega) rfl rfl hR0 (by decide) hS.inv ?_; intro w' hm hI' ho'
       replace hf := hf.mb hm
       replace hO := hO.mb hm (hO.ne_type hR0 (by decide))
       replace hW := hW.set (g := colS i q (x + 1) f) hx hm (ho'.cast (by rw [toNat_c, Nat.zero_add, zints_set, trow_set (g := colS i q (x + 1) f)]; intro l hl; exact colS_at)) (fun a ha hai l hl => (colS_ne hai))
       replace hbx := hbx.mb hm (hW.ne hx hKgr)
       replace hS := hS.mb hm (fun k e => ⟨by cases e; exact ⟨hge.1, hW.lt _ hx⟩, hR0.isrow k e⟩)
       replace hR0 := ho'
       clear hm hI' ho'
       clear hR0 hge
       clear hSS
       have hSS : (fun (w2 : World) => w2.cell? ⟨gr, 0, none⟩ = some fv) _ := hbx.at 0 rfl
       refine WL_nil ⟨hSS, ?_⟩
       refine b_done (by kernel_rfl) (hK _ _ ?_)
       clear hK K
       replace hF := hF.sub _ (c_ 1 rfl (c_ 2 rfl (c_ 4 rfl (c_ 29 rfl (c_ 30 rfl (c_ 31 rfl (n_)))))))
       refine W_reg rfl (fun K hK => ?_)
       refine sv hF (v_addI rfl rfl (by omega)) rfl ?_; clear hF a; intro a hF
       refine sv hF (v_move rfl) rfl ?_; clear hF a; intro a hF
       refine WL_nil (hK _ _ ?_)
       clear hK K
       exact ⟨d2 - 1, by omega, x + 1, hF.sub _ (c_ 1 rfl (c_ 2 rfl (c_ 4 rfl (c_ 29 rfl (c_ 30 rfl (c_ 31 rfl (n_))))))), hS, hf, hbx, hO, hW, by omega, by omega⟩
      ·
       skip
       refine sv hF (v_load sc3 rfl (by rw [toNat_c]; have h := (hW.rd hx hi).c; rw [colS_old] at h; exact h)) rfl ?_; clear hF a; intro a hF
       refine WL_nil ⟨hSS, ?_⟩
       refine b_e (i := 7) (by kernel_rfl) rfl ?_
       refine sv hF (v_load sc3 rfl (by rw [toNat_c]; have h := (hW.rd hx hqk).c; rw [colS_old] at h; exact h)) rfl ?_; clear hF a; intro a hF
       refine WL_nil ⟨hSS, ?_⟩
       refine b_v (i := 12) rfl (by kernel_rfl) hF (fun w2 hx => v_ixS sl23 rfl rfl (by omega) (by omega)) rfl hSS ?_; clear hF a; intro a hF
       refine b_e (i := 13) (by kernel_rfl) rfl ?_
       have hR0 := hW.row _ hx
       have hge := hW.ge hx
       refine s_set (D := FDx) (B := B) hF on3 rfl (by rw [toNat_c, zints_length, trow_length]; omega) rfl rfl hR0 (by decide) hS.inv ?_; intro w' hm hI' ho'
       replace hf := hf.mb hm
       replace hO := hO.mb hm (hO.ne_type hR0 (by decide))
       replace hW := hW.set (g := colH i q x f) hx hm (ho'.cast (by rw [toNat_c, Nat.zero_add, zints_set, trow_set (g := colH i q x f)]; intro l hl; exact colH_at)) (fun a ha hai l hl => (colH_ne hai))
       replace hbx := hbx.mb hm (hW.ne hx hKgr)
       replace hS := hS.mb hm (fun k e => ⟨by cases e; exact ⟨hge.1, hW.lt _ hx⟩, hR0.isrow k e⟩)
       replace hR0 := ho'
       clear hm hI' ho'
       clear hR0 hge
       clear hSS
       have hSS : (fun (w2 : World) => w2.cell? ⟨gr, 0, none⟩ = some fv) _ := hbx.at 0 rfl
       refine WL_nil ⟨hSS, ?_⟩
       refine b_v (i := 14) rfl (by kernel_rfl) hF (fun w2 hx => v_ixS sl23 rfl rfl (by omega) (by omega)) rfl hSS ?_; clear hF a; intro a hF
       refine b_e (i := 15) (by kernel_rfl) rfl ?_
       have hR0 := hW.row _ hx
       have hge := hW.ge hx
       refine s_set (D := FDx) (B := B) hF on3 rfl (by rw [toNat_c, zints_length, trow_length]; omega) rfl rfl hR0 (by decide) hS.inv ?_; intro w' hm hI' ho'
       replace hf := hf.mb hm
       replace hO := hO.mb hm (hO.ne_type hR0 (by decide))
       replace hW := hW.set (g := colS i q (x + 1) f) hx hm (ho'.cast (by rw [toNat_c, Nat.zero_add, zints_set, trow_set (g := colS i q (x + 1) f)]; intro l hl; exact colS_at)) (fun a ha hai l hl => (colS_ne hai))
       replace hbx := hbx.mb hm (hW.ne hx hKgr)
       replace hS := hS.mb hm (fun k e => ⟨by cases e; exact ⟨hge.1, hW.lt _ hx⟩, hR0.isrow k e⟩)
       replace hR0 := ho'
       clear hm hI' ho'
       clear hR0 hge
       clear hSS
       have hSS : (fun (w2 : World) => w2.cell? ⟨gr, 0, none⟩ = some fv) _ := hbx.at 0 rfl
       refine WL_nil ⟨hSS, ?_⟩
       refine b_done (by kernel_rfl) (hK _ _ ?_)
       clear hK K
       replace hF := hF.sub _ (c_ 1 rfl (c_ 2 rfl (c_ 4 rfl (c_ 29 rfl (c_ 30 rfl (c_ 31 rfl (n_)))))))
       refine W_reg rfl (fun K hK => ?_)
       refine sv hF (v_addI rfl rfl (by omega)) rfl ?_; clear hF a; intro a hF
       refine sv hF (v_move rfl) rfl ?_; clear hF a; intro a hF
       refine WL_nil (hK _ _ ?_)
       clear hK K
       exact ⟨d2 - 1, by omega, x + 1, hF.sub _ (c_ 1 rfl (c_ 2 rfl (c_ 4 rfl (c_ 29 rfl (c_ 30 rfl (c_ 31 rfl (n_))))))), hS, hf, hbx, hO, hW, by omega, by omega⟩
     ·
      skip
      try simp only [dcl] at hc3
      have hxe : x = n := by omega
      rw [hxe] at hW
      clear hxe
      refine W_exit rfl ?_
      refine W_exit rfl ?_
      refine W_sd (m := 16) rfl hmix hS.inv (fun K hK w1 hS' hh => ?_)
      replace hf := hf.st hS'
      replace hO := hO.st (by decide) hS'
      replace hW := hW.st hS'
      replace hbx := hbx.st (by decide) hS'
      replace hS := hS.trans hS'
      clear hS'
      clear hh
      refine a_v (i := 0) rfl (by kernel_rfl) hF (fun w2 hx => v_fieldAddr fa68_0 rfl) rfl ?_; clear hF a; intro a hF
      refine a_v (i := 1) rfl (by kernel_rfl) hF (fun w2 hx => v_load sc44 rfl (hbx.ld (by decide) hx 0 rfl)) rfl ?_; clear hF a; intro a hF
      refine a_v (i := 2) rfl (by kernel_rfl) hF (fun w2 hx => v_fieldAddr fa68_1 rfl) rfl ?_; clear hF a; intro a hF
      refine a_v (i := 3) rfl (by kernel_rfl) hF (fun w2 hx => v_load sc27 rfl (hbx.ld (by decide) hx 1 rfl)) rfl ?_; clear hF a; intro a hF
      refine a_v (i := 4) rfl (by kernel_rfl) hF (fun w2 hx => v_move rfl) rfl ?_; clear hF a; intro a hF
      refine a_v (i := 5) rfl (by kernel_rfl) hF (fun w2 hx => v_ixS sl27 rfl rfl (by omega) (by omega)) rfl ?_; clear hF a; intro a hF
      refine a_v (i := 6) rfl (by kernel_rfl) hF (fun w2 hx => v_load sc23 rfl (by rw [toNat_c]; exact (hO.kc (by decide) (vls_at hin)).ld hx)) rfl ?_; clear hF a; intro a hF
      refine a_v (i := 7) rfl (by kernel_rfl) hF (fun w2 hx => v_move rfl) rfl ?_; clear hF a; intro a hF
      refine a_v (i := 8) rfl (by kernel_rfl) hF (fun w2 hx => v_ixS sl23 rfl rfl (by omega) (by omega)) rfl ?_; clear hF a; intro a hF
      have hrk := hW.rd hin hi
      rw [show colS i q n f i i = f i q by unfold colS Fld.sw; rw [if_pos hin, if_pos rfl]] at hrk
      refine a_v (i := 9) rfl (by kernel_rfl) hF (fun w2 hx => v_load sc3 rfl (by rw [toNat_c]; exact hrk.ld hx)) rfl ?_; clear hF a; intro a hF
      refine a_e (i := 10) rfl (by kernel_rfl) ?_
      refine sc hF rfl rfl rfl en24 rfl (Inv_gf B (some (wb, p)) fv ((f i q : Nat) : Int) _ hS.inv hf) ?_; clear hF a; intro v w' a hv hF
      obtain ⟨rfl, hS'⟩ := hv
      refine WL_nil ⟨hS'.ext, ?_⟩
      replace hf := hf.st hS'
      replace hO := hO.st (by decide) hS'
      replace hW := hW.st hS'
      replace hbx := hbx.st (by decide) hS'
      replace hS := hS.trans hS'
      clear hS'
      clear hrk
      rw [ginv_fld hp hfqb hfq] at hF
      refine a_v (i := 11) rfl (by kernel_rfl) hF (fun w2 hx => v_move rfl) rfl ?_; clear hF a; intro a hF
      refine a_v (i := 12) rfl (by kernel_rfl) hF (fun w2 hx => v_ext rfl rfl) rfl ?_; clear hF a; intro a hF
      refine a_v (i := 13) rfl (by kernel_rfl) hF (fun w2 hx => v_ext rfl rfl) rfl ?_; clear hF a; intro a hF
      refine a_v (i := 14) rfl (by kernel_rfl) hF (fun w2 hx => v_assign rfl) rfl ?_; clear hF a; intro a hF
      refine a_v (i := 15) rfl (by kernel_rfl) hF (fun w2 hx => v_assign rfl) rfl ?_; clear hF a; intro a hF
      refine a_done (by kernel_rfl) (hK _ _ ?_)
      clear hK K
      replace hF := hF.sub _ (c_ 8 rfl (c_ 64 rfl (c_ 63 rfl (c_ 51 rfl (c_ 62 rfl (c_ 61 rfl (c_ 60 rfl (c_ 59 rfl (c_ 58 rfl (c_ 57 rfl (c_ 56 rfl (c_ 55 rfl (c_ 54 rfl (c_ 53 rfl (c_ 52 rfl (c_ 1 rfl (c_ 2 rfl (c_ 4 rfl (c_ 29 rfl (c_ 30 rfl (c_ 31 rfl (n_))))))))))))))))))))))
      refine W_sr rfl (fun K hK => ?_)
      refine sv hF (v_loadR rc68 rfl hbx) rfl ?_; clear hF a; intro a hF
      refine sv2 hF (v_move rfl) (v_move rfl) rfl rfl ?_; clear hF a; intro a hF
      refine sc hF rfl rfl rfl en25 rfl (scale_ok B N KM wb p hp fv g cap n k bs rc (colS i q (n) f) 0 i (hp.fld.inv (f i q)) _ hS.inv hf hO hW (Nat.le_trans hKM hS.ext.size) hNM (Fld.colS_bd hp.fld hfb) hnk (by omega) hi hsb) ?_; clear hF a; intro v w' a hv hF
      obtain ⟨-, hO', hW', hz⟩ := hv
      replace hf := hf.stz hz
      replace hbx := hbx.stz (by decide) hz (fun h => Nat.not_lt.2 hKgr h.2)
      replace hS := hS.transZ hz
      replace hO := hO'
      replace hW := hW'
      clear hO' hW' hz
      refine WL_nil (hK _ _ ?_)
      clear hK K
      replace hF := hF.sub _ (c_ 67 rfl (c_ 66 rfl (c_ 65 rfl (c_ 8 rfl (c_ 64 rfl (c_ 63 rfl (c_ 51 rfl (c_ 62 rfl (c_ 61 rfl (c_ 60 rfl (c_ 59 rfl (c_ 58 rfl (c_ 57 rfl (c_ 56 rfl (c_ 55 rfl (c_ 54 rfl (c_ 53 rfl (c_ 52 rfl (c_ 1 rfl (c_ 2 rfl (c_ 4 rfl (c_ 29 rfl (c_ 30 rfl (c_ 31 rfl (n_)))))))))))))))))))))))))
      refine W_reg rfl (fun K hK => ?_)
      refine sv hF (v_loadR rc68 rfl hbx) rfl ?_; clear hF a; intro a hF
      refine sv hF (v_move rfl) rfl ?_; clear hF a; intro a hF
      refine sc hF rfl rfl rfl en37 rfl (jclear_ok B N KM wb p hp fv g cap n k bs rc (hp.fld.scC 0 i (hp.fld.inv (f i q)) n (colS i q (n) f)) i _ hS.inv hf hO hW (Nat.le_trans hKM hS.ext.size) hNM (hp.fld.scC_bd (Fld.colS_bd hp.fld hfb)) hnk hi hin) ?_; clear hF a; intro v w' a hv hF
      obtain ⟨-, hO', hW', hz⟩ := hv
      replace hf := hf.stz hz
      replace hbx := hbx.stz (by decide) hz (fun h => Nat.not_lt.2 hKgr h.2)
      replace hS := hS.transZ hz
      replace hO := hO'
      replace hW := hW'
      clear hO' hW' hz
      refine WL_nil (hK _ _ ?_)
      clear hK K
      replace hF := hF.sub _ (c_ 70 rfl (c_ 69 rfl (c_ 67 rfl (c_ 66 rfl (c_ 65 rfl (c_ 8 rfl (c_ 64 rfl (c_ 63 rfl (c_ 51 rfl (c_ 62 rfl (c_ 61 rfl (c_ 60 rfl (c_ 59 rfl (c_ 58 rfl (c_ 57 rfl (c_ 56 rfl (c_ 55 rfl (c_ 54 rfl (c_ 53 rfl (c_ 52 rfl (c_ 1 rfl (c_ 2 rfl (c_ 4 rfl (c_ 29 rfl (c_ 30 rfl (c_ 31 rfl (n_)))))))))))))))))))))))))))
      refine ⟨_, hF, ?_⟩
      exact ⟨rfl, hO, hW.congr (fun r hr l hl => hp.fld.stC_is hq hin r hr l hl), hS⟩

end Go.Proofs.Ytkoiolamnnmokaa
