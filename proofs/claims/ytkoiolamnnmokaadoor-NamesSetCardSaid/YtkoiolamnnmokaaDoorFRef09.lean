/- The walks of gambrelref09: the table of profiles. -/
import Derived.Test.YtkoiolamnnmokaaDoorFProf1
set_option linter.unusedVariables false
set_option linter.unusedSimpArgs false
namespace Go.Proofs.YtkoiolamnnmokaaDoor
open Go Go.Gam


namespace FxFRef09
theorem en15 : Ent Tryd.prog 15 := ent Tryd.func15 (by kernel_rfl) (by kernel_rfl)
theorem ar32 : ArrOf Tryd.prog 32 3 := ar_of Tryd.underlying32 (by kernel_rfl)
theorem fa35_0 : FieldFact Tryd.prog 35 0 0 := ff_of (sz := 0) Tryd.underlying35 (by kernel_rfl)
theorem fa35_1 : FieldFact Tryd.prog 35 1 1 := ff_of (sz := 0) Tryd.underlying35 (by kernel_rfl)
theorem fa35_2 : FieldFact Tryd.prog 35 2 2 := ff_of (sz := 0) Tryd.underlying35 (by kernel_rfl)
theorem fa42_4 : FieldFact Tryd.prog 42 4 4 := ff_of (sz := 0) Tryd.underlying42 (by kernel_rfl)
theorem on3 : Gam.One Tryd.prog 3 := by unfold Gam.One; kernel_rfl
theorem sc3 : Scalar Tryd.prog 3 := ⟨_, Tryd.underlying3, by simp, by simp⟩
theorem sc5 : Scalar Tryd.prog 5 := ⟨_, Tryd.underlying5, by simp, by simp⟩
end FxFRef09
open FxFRef09

set_option maxRecDepth 100000 in
set_option maxHeartbeats 1000000 in
theorem rPOf_ok (B : Nat) (p : Int) (w : World) (hI : Inv FDx B w) : Ret Tryd.prog 15 [.int .i64 p] w fun v w' => v = .tuple #[.agg (prOf p).toArray, .bool (decide (1 ≤ p ∧ p ≤ 6))] ∧ St FDx B w w' := by
  refine enterCT 24 [(0, .int .i64 p)] 2 42 3 Tryd.func15 rfl rfl rfl rfl rfl ?_; intro a hF
  have hS := St.refl hI
  refine W_sr rfl (fun K hK => ?_)
  refine s_allocN (D := FDx) (B := B) (z := .agg prz.toArray) hF (by kernel_rfl) (by decide) hS.inv rfl ?_; clear hF a; intro gR w' a hm hI' hR hF
  replace hS := hS.mb0 hm
  clear hm hI'
  refine sv hF (v_assign rfl) rfl ?_; clear hF a; intro a hF
  refine WL_nil (hK _ _ ?_)
  clear hK K
  refine W_seq ?_
  refine W_sr rfl (fun K hK => ?_)
  refine sv hF (v_move rfl) rfl ?_; clear hF a; intro a hF
  refine WL_nil (hK _ _ ?_)
  clear hK K
  replace hF := hF.sub _ (c_ 4 rfl (c_ 3 rfl (c_ 2 rfl (n_))))
  refine W_block ?_
  refine W_sr rfl (fun K hK => ?_)
  refine sv hF (v_eql rfl rfl) rfl ?_; clear hF a; intro a hF
  refine sv hF (v_assign rfl) rfl ?_; clear hF a; intro a hF
  refine WL_nil (hK _ _ ?_)
  clear hK K
  replace hF := hF.sub _ (c_ 5 rfl (c_ 4 rfl (c_ 3 rfl (c_ 2 rfl (n_)))))
  refine W_if hF rfl (fun hc1 => ?_) (fun hc1 => ?_)
  · skip
    try simp only [decide_eq_true_eq, decide_eq_false_iff_not, Bool.not_eq_true', Bool.not_eq_false', Bool.not_true, Bool.not_false] at hc1
    refine W_sr rfl (fun K hK => ?_)
    refine sv hF (v_build (cs := (prN 0).toArray) rfl (by kernel_rfl)) rfl ?_; clear hF a; intro a hF
    refine s_storeN (D := FDx) (B := B) hF (by kernel_rfl) rfl rfl (rfl) (by rfl) hR hS.inv ?_; intro w' hm hI' hrc'
    replace hS := hS.mb hm (fun k h => by cases h; exact hR.low)
    replace hR := hrc'
    clear hm hI' hrc'
    refine sv hF (v_assign rfl) rfl ?_; clear hF a; intro a hF
    refine WL_nil (hK _ _ ?_)
    clear hK K
    replace hF := hF.sub _ (c_ 3 rfl (c_ 2 rfl (n_)))
    refine W_ret ?_
    refine ⟨_, _, _, _, hF, rfl, (ld_rec Tryd.underlying42 rfl (by kernel_rfl) hR), rfl, ?_⟩
    obtain rfl : p = 1 := by assumption
    exact ⟨rfl, hS⟩
  · skip
    try simp only [decide_eq_true_eq, decide_eq_false_iff_not, Bool.not_eq_true', Bool.not_eq_false', Bool.not_true, Bool.not_false] at hc1
    refine W_sr rfl (fun K hK => ?_)
    refine sv hF (v_eql rfl rfl) rfl ?_; clear hF a; intro a hF
    refine sv hF (v_assign rfl) rfl ?_; clear hF a; intro a hF
    refine WL_nil (hK _ _ ?_)
    clear hK K
    replace hF := hF.sub _ (c_ 8 rfl (c_ 4 rfl (c_ 3 rfl (c_ 2 rfl (n_)))))
    refine W_if hF rfl (fun hc2 => ?_) (fun hc2 => ?_)
    · skip
      try simp only [decide_eq_true_eq, decide_eq_false_iff_not, Bool.not_eq_true', Bool.not_eq_false', Bool.not_true, Bool.not_false] at hc2
      refine W_sr rfl (fun K hK => ?_)
      refine sv hF (v_build (cs := (prN 1).toArray) rfl (by kernel_rfl)) rfl ?_; clear hF a; intro a hF
      refine s_storeN (D := FDx) (B := B) hF (by kernel_rfl) rfl rfl (rfl) (by rfl) hR hS.inv ?_; intro w' hm hI' hrc'
      replace hS := hS.mb hm (fun k h => by cases h; exact hR.low)
      replace hR := hrc'
      clear hm hI' hrc'
      refine sv hF (v_assign rfl) rfl ?_; clear hF a; intro a hF
      refine WL_nil (hK _ _ ?_)
      clear hK K
      replace hF := hF.sub _ (c_ 3 rfl (c_ 2 rfl (n_)))
      refine W_ret ?_
      refine ⟨_, _, _, _, hF, rfl, (ld_rec Tryd.underlying42 rfl (by kernel_rfl) hR), rfl, ?_⟩
      obtain rfl : p = 2 := by assumption
      exact ⟨rfl, hS⟩
    · skip
      try simp only [decide_eq_true_eq, decide_eq_false_iff_not, Bool.not_eq_true', Bool.not_eq_false', Bool.not_true, Bool.not_false] at hc2
      refine W_sr rfl (fun K hK => ?_)
      refine sv hF (v_eql rfl rfl) rfl ?_; clear hF a; intro a hF
      refine sv hF (v_assign rfl) rfl ?_; clear hF a; intro a hF
      refine WL_nil (hK _ _ ?_)
      clear hK K
      replace hF := hF.sub _ (c_ 11 rfl (c_ 4 rfl (c_ 3 rfl (c_ 2 rfl (n_)))))
      refine W_if hF rfl (fun hc3 => ?_) (fun hc3 => ?_)
      · skip
        try simp only [decide_eq_true_eq, decide_eq_false_iff_not, Bool.not_eq_true', Bool.not_eq_false', Bool.not_true, Bool.not_false] at hc3
        refine W_sr rfl (fun K hK => ?_)
        refine sv hF (v_build (cs := (prN 2).toArray) rfl (by kernel_rfl)) rfl ?_; clear hF a; intro a hF
        refine s_storeN (D := FDx) (B := B) hF (by kernel_rfl) rfl rfl (rfl) (by rfl) hR hS.inv ?_; intro w' hm hI' hrc'
        replace hS := hS.mb hm (fun k h => by cases h; exact hR.low)
        replace hR := hrc'
        clear hm hI' hrc'
        refine sv hF (v_assign rfl) rfl ?_; clear hF a; intro a hF
        refine WL_nil (hK _ _ ?_)
        clear hK K
        replace hF := hF.sub _ (c_ 3 rfl (c_ 2 rfl (n_)))
        refine W_ret ?_
        refine ⟨_, _, _, _, hF, rfl, (ld_rec Tryd.underlying42 rfl (by kernel_rfl) hR), rfl, ?_⟩
        obtain rfl : p = 3 := by assumption
        exact ⟨rfl, hS⟩
      · skip
        try simp only [decide_eq_true_eq, decide_eq_false_iff_not, Bool.not_eq_true', Bool.not_eq_false', Bool.not_true, Bool.not_false] at hc3
        refine W_sr rfl (fun K hK => ?_)
        refine sv hF (v_eql rfl rfl) rfl ?_; clear hF a; intro a hF
        refine sv hF (v_assign rfl) rfl ?_; clear hF a; intro a hF
        refine WL_nil (hK _ _ ?_)
        clear hK K
        replace hF := hF.sub _ (c_ 14 rfl (c_ 4 rfl (c_ 3 rfl (c_ 2 rfl (n_)))))
        refine W_if hF rfl (fun hc4 => ?_) (fun hc4 => ?_)
        · skip
          try simp only [decide_eq_true_eq, decide_eq_false_iff_not, Bool.not_eq_true', Bool.not_eq_false', Bool.not_true, Bool.not_false] at hc4
          refine W_sr rfl (fun K hK => ?_)
          refine sv hF (v_build (cs := (prN 3).toArray) rfl (by kernel_rfl)) rfl ?_; clear hF a; intro a hF
          refine s_storeN (D := FDx) (B := B) hF (by kernel_rfl) rfl rfl (rfl) (by rfl) hR hS.inv ?_; intro w' hm hI' hrc'
          replace hS := hS.mb hm (fun k h => by cases h; exact hR.low)
          replace hR := hrc'
          clear hm hI' hrc'
          refine sv hF (v_assign rfl) rfl ?_; clear hF a; intro a hF
          refine WL_nil (hK _ _ ?_)
          clear hK K
          replace hF := hF.sub _ (c_ 3 rfl (c_ 2 rfl (n_)))
          refine W_ret ?_
          refine ⟨_, _, _, _, hF, rfl, (ld_rec Tryd.underlying42 rfl (by kernel_rfl) hR), rfl, ?_⟩
          obtain rfl : p = 4 := by assumption
          exact ⟨rfl, hS⟩
        · skip
          try simp only [decide_eq_true_eq, decide_eq_false_iff_not, Bool.not_eq_true', Bool.not_eq_false', Bool.not_true, Bool.not_false] at hc4
          refine W_sr rfl (fun K hK => ?_)
          refine sv hF (v_eql rfl rfl) rfl ?_; clear hF a; intro a hF
          refine sv hF (v_assign rfl) rfl ?_; clear hF a; intro a hF
          refine WL_nil (hK _ _ ?_)
          clear hK K
          replace hF := hF.sub _ (c_ 17 rfl (c_ 4 rfl (c_ 3 rfl (c_ 2 rfl (n_)))))
          refine W_if hF rfl (fun hc5 => ?_) (fun hc5 => ?_)
          · skip
            try simp only [decide_eq_true_eq, decide_eq_false_iff_not, Bool.not_eq_true', Bool.not_eq_false', Bool.not_true, Bool.not_false] at hc5
            refine W_sr rfl (fun K hK => ?_)
            refine sv hF (v_build (cs := (prN 4).toArray) rfl (by kernel_rfl)) rfl ?_; clear hF a; intro a hF
            refine s_storeN (D := FDx) (B := B) hF (by kernel_rfl) rfl rfl (rfl) (by rfl) hR hS.inv ?_; intro w' hm hI' hrc'
            replace hS := hS.mb hm (fun k h => by cases h; exact hR.low)
            replace hR := hrc'
            clear hm hI' hrc'
            refine sv hF (v_assign rfl) rfl ?_; clear hF a; intro a hF
            refine WL_nil (hK _ _ ?_)
            clear hK K
            replace hF := hF.sub _ (c_ 3 rfl (c_ 2 rfl (n_)))
            refine W_ret ?_
            refine ⟨_, _, _, _, hF, rfl, (ld_rec Tryd.underlying42 rfl (by kernel_rfl) hR), rfl, ?_⟩
            obtain rfl : p = 5 := by assumption
            exact ⟨rfl, hS⟩
          · skip
            try simp only [decide_eq_true_eq, decide_eq_false_iff_not, Bool.not_eq_true', Bool.not_eq_false', Bool.not_true, Bool.not_false] at hc5
            refine W_sr rfl (fun K hK => ?_)
            refine sv hF (v_eql rfl rfl) rfl ?_; clear hF a; intro a hF
            refine sv hF (v_assign rfl) rfl ?_; clear hF a; intro a hF
            refine WL_nil (hK _ _ ?_)
            clear hK K
            replace hF := hF.sub _ (c_ 20 rfl (c_ 3 rfl (c_ 2 rfl (n_))))
            refine W_if hF rfl (fun hc6 => ?_) (fun hc6 => ?_)
            · skip
              try simp only [decide_eq_true_eq, decide_eq_false_iff_not, Bool.not_eq_true', Bool.not_eq_false', Bool.not_true, Bool.not_false] at hc6
              refine W_sr rfl (fun K hK => ?_)
              refine sv hF (v_build (cs := (prN 5).toArray) rfl (by kernel_rfl)) rfl ?_; clear hF a; intro a hF
              refine s_storeN (D := FDx) (B := B) hF (by kernel_rfl) rfl rfl (rfl) (by rfl) hR hS.inv ?_; intro w' hm hI' hrc'
              replace hS := hS.mb hm (fun k h => by cases h; exact hR.low)
              replace hR := hrc'
              clear hm hI' hrc'
              refine sv hF (v_assign rfl) rfl ?_; clear hF a; intro a hF
              refine WL_nil (hK _ _ ?_)
              clear hK K
              replace hF := hF.sub _ (c_ 3 rfl (c_ 2 rfl (n_)))
              refine W_ret ?_
              refine ⟨_, _, _, _, hF, rfl, (ld_rec Tryd.underlying42 rfl (by kernel_rfl) hR), rfl, ?_⟩
              obtain rfl : p = 6 := by assumption
              exact ⟨rfl, hS⟩
            · skip
              try simp only [decide_eq_true_eq, decide_eq_false_iff_not, Bool.not_eq_true', Bool.not_eq_false', Bool.not_true, Bool.not_false] at hc6
              refine W_skip ?_
              refine W_sr rfl (fun K hK => ?_)
              refine sv hF (v_build (cs := (prz).toArray) rfl (by kernel_rfl)) rfl ?_; clear hF a; intro a hF
              refine s_storeN (D := FDx) (B := B) hF (by kernel_rfl) rfl rfl (rfl) (by rfl) hR hS.inv ?_; intro w' hm hI' hrc'
              replace hS := hS.mb hm (fun k h => by cases h; exact hR.low)
              replace hR := hrc'
              clear hm hI' hrc'
              refine sv hF (v_assign rfl) rfl ?_; clear hF a; intro a hF
              refine WL_nil (hK _ _ ?_)
              clear hK K
              replace hF := hF.sub _ (c_ 3 rfl (c_ 23 rfl (c_ 2 rfl (n_))))
              refine W_ret ?_
              refine ⟨_, _, _, _, hF, rfl, (ld_rec Tryd.underlying42 rfl (by kernel_rfl) hR), rfl, ?_⟩
              exact ⟨by rw [prOf_no (by omega), decide_eq_false (by omega)], hS⟩

set_option maxRecDepth 100000 in
set_option maxHeartbeats 1000000 in
theorem rPMay_in (B : Nat) (p k m : Int) (w : World) (hI : Inv FDx B w) (hpp : 1 ≤ p ∧ p ≤ 6) : Ret Tryd.prog 34 [.agg #[.int .i64 p, .int .i64 k, .int .i64 m]] w fun v w' => v = .bool (mayP p k m) ∧ St FDx B w w' := by
  refine enter 34 [(0, .agg #[.int .i64 p, .int .i64 k, .int .i64 m])] 2 Tryd.func34 rfl rfl rfl rfl rfl ?_; intro a hF
  have hS := St.refl hI
  refine W_sr rfl (fun K hK => ?_)
  refine s_box (D := FDx) (B := B) hF rfl (by decide) hS.inv rfl ?_; clear hF a; intro w' a hm hbx hsz hF
  replace hS := hS.mb0 hm
  clear hm
  refine sv hF (v_assign rfl) rfl ?_; clear hF a; intro a hF
  refine WL_nil (hK _ _ ?_)
  clear hK K
  replace hF := hF.sub _ (c_ 2 rfl (c_ 1 rfl (n_)))
  refine W_sr rfl (fun K hK => ?_)
  refine sv hF (v_fieldAddr fa35_0 rfl) rfl ?_; clear hF a; intro a hF
  refine sv hF (v_load sc3 rfl (hbx.at 0 rfl)) rfl ?_; clear hF a; intro a hF
  refine sc hF rfl rfl rfl en15 rfl (rPOf_ok B p _ hS.inv) ?_; clear hF a; intro v w' a hv hF
  obtain ⟨rfl, hS'⟩ := hv
  replace hbx := hbx.st (by decide) hS'
  replace hS := hS.trans hS'
  clear hS'
  refine sv hF (v_move rfl) rfl ?_; clear hF a; intro a hF
  refine sv hF (v_ext rfl rfl) rfl ?_; clear hF a; intro a hF
  refine sv hF ((v_ext rfl rfl).as (congrArg Value.bool (decide_eq_true (hpp)))) rfl ?_; clear hF a; intro a hF
  have hs0 := hS.ext.size
  refine s_allocN (D := FDx) (B := B) (z := .agg prz.toArray) hF (by kernel_rfl) (by decide) hS.inv rfl ?_; clear hF a; intro gR w' a hm hI' hR hF
  replace hbx := hbx.mb hm (by simp)
  replace hS := hS.mb0 hm
  clear hm hI'
  replace hR := hR.le hs0
  clear hs0
  refine s_storeN (D := FDx) (B := B) hF (by rw [List.size_toArray, prOf_len]; kernel_rfl) rfl rfl (prOf_one p) (by rw [List.size_toArray, prOf_len]; rfl) hR hS.inv ?_; intro w' hm hI' hrc'
  replace hbx := hbx.mb hm (by intro e; cases e; exact absurd hR.blk (by intro e2; have := hbx.symm.trans e2; cases this))
  replace hS := hS.mb hm (fun k h => by cases h; exact hR.low)
  replace hR := hrc'
  clear hm hI' hrc'
  refine sv hF (v_assign rfl) rfl ?_; clear hF a; intro a hF
  refine WL_nil (hK _ _ ?_)
  clear hK K
  replace hF := hF.sub _ (c_ 4 rfl (c_ 3 rfl (c_ 2 rfl (c_ 1 rfl (n_)))))
  refine W_sr rfl (fun K hK => ?_)
  refine sv hF (v_move rfl) rfl ?_; clear hF a; intro a hF
  refine sv hF (v_move rfl) rfl ?_; clear hF a; intro a hF
  refine svg hF rfl ?_
  refine sv hF (v_fieldAddr fa35_1 rfl) rfl ?_; clear hF a; intro a hF
  refine svg hF rfl ?_
  refine sv hF (v_load sc3 rfl (hbx.at 1 rfl)) rfl ?_; clear hF a; intro a hF
  refine svg hF rfl ?_
  refine sb hF (v_geq rfl rfl) rfl ?_ ?_
  · clear hF a; intro hc1 a hF
    try simp only [decide_eq_true_eq, decide_eq_false_iff_not, Bool.not_eq_true', Bool.not_eq_false', Bool.not_true, Bool.not_false] at hc1
    refine sv hF (v_pickT rfl rfl) rfl ?_; clear hF a; intro a hF
    refine sv hF (v_move rfl) rfl ?_; clear hF a; intro a hF
    refine svg hF rfl ?_
    refine sv hF (v_fieldAddr fa35_1 rfl) rfl ?_; clear hF a; intro a hF
    refine svg hF rfl ?_
    refine sv hF (v_load sc3 rfl (hbx.at 1 rfl)) rfl ?_; clear hF a; intro a hF
    refine svg hF rfl ?_
    refine sb hF (v_leq rfl rfl) rfl ?_ ?_
    · clear hF a; intro hc2 a hF
      try simp only [decide_eq_true_eq, decide_eq_false_iff_not, Bool.not_eq_true', Bool.not_eq_false', Bool.not_true, Bool.not_false] at hc2
      refine sv hF (v_pickT rfl rfl) rfl ?_; clear hF a; intro a hF
      refine sv hF (v_move rfl) rfl ?_; clear hF a; intro a hF
      refine svg hF rfl ?_
      refine sv hF (v_fieldAddr fa35_2 rfl) rfl ?_; clear hF a; intro a hF
      refine svg hF rfl ?_
      refine sv hF (v_load sc3 rfl (hbx.at 2 rfl)) rfl ?_; clear hF a; intro a hF
      refine svg hF rfl ?_
      refine sb hF (v_geq rfl rfl) rfl ?_ ?_
      · clear hF a; intro hc3 a hF
        try simp only [decide_eq_true_eq, decide_eq_false_iff_not, Bool.not_eq_true', Bool.not_eq_false', Bool.not_true, Bool.not_false] at hc3
        refine sv hF (v_pickT rfl rfl) rfl ?_; clear hF a; intro a hF
        refine sv hF (v_move rfl) rfl ?_; clear hF a; intro a hF
        refine svg hF rfl ?_
        refine sv hF (v_fieldAddr fa35_2 rfl) rfl ?_; clear hF a; intro a hF
        refine svg hF rfl ?_
        refine sv hF (v_load sc3 rfl (hbx.at 2 rfl)) rfl ?_; clear hF a; intro a hF
        refine svg hF rfl ?_
        refine sv hF (v_fieldAddr fa42_4 rfl) rfl ?_; clear hF a; intro a hF
        refine svg hF rfl ?_
        refine sv hF (v_load sc3 rfl ((hR.kc 4 (prOf_max hpp.1 hpp.2)).c)) rfl ?_; clear hF a; intro a hF
        refine svg hF rfl ?_
        refine sv hF (v_leq rfl rfl) rfl ?_; clear hF a; intro a hF
        refine sv hF (v_pickT rfl rfl) rfl ?_; clear hF a; intro a hF
        refine sv hF (v_assign rfl) rfl ?_; clear hF a; intro a hF
        refine WL_nil (hK _ _ ?_)
        clear hK K
        replace hF := hF.sub _ (c_ 2 rfl (n_))
        refine W_ret ?_
        refine ⟨_, _, hF, rfl, ?_⟩
        exact ⟨by unfold mayP; congr 1; first | (symm; rw [decide_eq_false_iff_not]; omega) | (rw [decide_eq_decide]; omega), hS⟩
      · clear hF a; intro hc3 a hF
        try simp only [decide_eq_true_eq, decide_eq_false_iff_not, Bool.not_eq_true', Bool.not_eq_false', Bool.not_true, Bool.not_false] at hc3
        refine sv hF (v_pickT rfl rfl) rfl ?_; clear hF a; intro a hF
        refine sv hF (v_move rfl) rfl ?_; clear hF a; intro a hF
        refine svn hF rfl rfl rfl ?_; clear hF a; intro a hF
        refine svn hF rfl rfl rfl ?_; clear hF a; intro a hF
        refine svn hF rfl rfl rfl ?_; clear hF a; intro a hF
        refine svn hF rfl rfl rfl ?_; clear hF a; intro a hF
        refine svn hF rfl rfl rfl ?_; clear hF a; intro a hF
        refine sv hF (v_pickF rfl rfl) rfl ?_; clear hF a; intro a hF
        refine sv hF (v_assign rfl) rfl ?_; clear hF a; intro a hF
        refine WL_nil (hK _ _ ?_)
        clear hK K
        replace hF := hF.sub _ (c_ 2 rfl (n_))
        refine W_ret ?_
        refine ⟨_, _, hF, rfl, ?_⟩
        exact ⟨by unfold mayP; congr 1; first | (symm; rw [decide_eq_false_iff_not]; omega) | (rw [decide_eq_decide]; omega), hS⟩
    · clear hF a; intro hc2 a hF
      try simp only [decide_eq_true_eq, decide_eq_false_iff_not, Bool.not_eq_true', Bool.not_eq_false', Bool.not_true, Bool.not_false] at hc2
      refine sv hF (v_pickT rfl rfl) rfl ?_; clear hF a; intro a hF
      refine sv hF (v_move rfl) rfl ?_; clear hF a; intro a hF
      refine svn hF rfl rfl rfl ?_; clear hF a; intro a hF
      refine svn hF rfl rfl rfl ?_; clear hF a; intro a hF
      refine svn hF rfl rfl rfl ?_; clear hF a; intro a hF
      refine sv hF (v_pickF rfl rfl) rfl ?_; clear hF a; intro a hF
      refine sv hF (v_move rfl) rfl ?_; clear hF a; intro a hF
      refine svn hF rfl rfl rfl ?_; clear hF a; intro a hF
      refine svn hF rfl rfl rfl ?_; clear hF a; intro a hF
      refine svn hF rfl rfl rfl ?_; clear hF a; intro a hF
      refine svn hF rfl rfl rfl ?_; clear hF a; intro a hF
      refine svn hF rfl rfl rfl ?_; clear hF a; intro a hF
      refine sv hF (v_pickF rfl rfl) rfl ?_; clear hF a; intro a hF
      refine sv hF (v_assign rfl) rfl ?_; clear hF a; intro a hF
      refine WL_nil (hK _ _ ?_)
      clear hK K
      replace hF := hF.sub _ (c_ 2 rfl (n_))
      refine W_ret ?_
      refine ⟨_, _, hF, rfl, ?_⟩
      exact ⟨by unfold mayP; congr 1; first | (symm; rw [decide_eq_false_iff_not]; omega) | (rw [decide_eq_decide]; omega), hS⟩
  · clear hF a; intro hc1 a hF
    try simp only [decide_eq_true_eq, decide_eq_false_iff_not, Bool.not_eq_true', Bool.not_eq_false', Bool.not_true, Bool.not_false] at hc1
    refine sv hF (v_pickT rfl rfl) rfl ?_; clear hF a; intro a hF
    refine sv hF (v_move rfl) rfl ?_; clear hF a; intro a hF
    refine svn hF rfl rfl rfl ?_; clear hF a; intro a hF
    refine svn hF rfl rfl rfl ?_; clear hF a; intro a hF
    refine svn hF rfl rfl rfl ?_; clear hF a; intro a hF
    refine sv hF (v_pickF rfl rfl) rfl ?_; clear hF a; intro a hF
    refine sv hF (v_move rfl) rfl ?_; clear hF a; intro a hF
    refine svn hF rfl rfl rfl ?_; clear hF a; intro a hF
    refine svn hF rfl rfl rfl ?_; clear hF a; intro a hF
    refine svn hF rfl rfl rfl ?_; clear hF a; intro a hF
    refine sv hF (v_pickF rfl rfl) rfl ?_; clear hF a; intro a hF
    refine sv hF (v_move rfl) rfl ?_; clear hF a; intro a hF
    refine svn hF rfl rfl rfl ?_; clear hF a; intro a hF
    refine svn hF rfl rfl rfl ?_; clear hF a; intro a hF
    refine svn hF rfl rfl rfl ?_; clear hF a; intro a hF
    refine svn hF rfl rfl rfl ?_; clear hF a; intro a hF
    refine svn hF rfl rfl rfl ?_; clear hF a; intro a hF
    refine sv hF (v_pickF rfl rfl) rfl ?_; clear hF a; intro a hF
    refine sv hF (v_assign rfl) rfl ?_; clear hF a; intro a hF
    refine WL_nil (hK _ _ ?_)
    clear hK K
    replace hF := hF.sub _ (c_ 2 rfl (n_))
    refine W_ret ?_
    refine ⟨_, _, hF, rfl, ?_⟩
    exact ⟨by unfold mayP; congr 1; first | (symm; rw [decide_eq_false_iff_not]; omega) | (rw [decide_eq_decide]; omega), hS⟩

set_option maxRecDepth 100000 in
set_option maxHeartbeats 1000000 in
theorem rPMay_out (B : Nat) (p k m : Int) (w : World) (hI : Inv FDx B w) (hpp : ¬ (1 ≤ p ∧ p ≤ 6)) : Ret Tryd.prog 34 [.agg #[.int .i64 p, .int .i64 k, .int .i64 m]] w fun v w' => v = .bool (mayP p k m) ∧ St FDx B w w' := by
  refine enter 34 [(0, .agg #[.int .i64 p, .int .i64 k, .int .i64 m])] 2 Tryd.func34 rfl rfl rfl rfl rfl ?_; intro a hF
  have hS := St.refl hI
  refine W_sr rfl (fun K hK => ?_)
  refine s_box (D := FDx) (B := B) hF rfl (by decide) hS.inv rfl ?_; clear hF a; intro w' a hm hbx hsz hF
  replace hS := hS.mb0 hm
  clear hm
  refine sv hF (v_assign rfl) rfl ?_; clear hF a; intro a hF
  refine WL_nil (hK _ _ ?_)
  clear hK K
  replace hF := hF.sub _ (c_ 2 rfl (c_ 1 rfl (n_)))
  refine W_sr rfl (fun K hK => ?_)
  refine sv hF (v_fieldAddr fa35_0 rfl) rfl ?_; clear hF a; intro a hF
  refine sv hF (v_load sc3 rfl (hbx.at 0 rfl)) rfl ?_; clear hF a; intro a hF
  refine sc hF rfl rfl rfl en15 rfl (rPOf_ok B p _ hS.inv) ?_; clear hF a; intro v w' a hv hF
  obtain ⟨rfl, hS'⟩ := hv
  replace hbx := hbx.st (by decide) hS'
  replace hS := hS.trans hS'
  clear hS'
  refine sv hF (v_move rfl) rfl ?_; clear hF a; intro a hF
  refine sv hF (v_ext rfl rfl) rfl ?_; clear hF a; intro a hF
  refine sv hF ((v_ext rfl rfl).as (congrArg Value.bool (decide_eq_false hpp))) rfl ?_; clear hF a; intro a hF
  have hs0 := hS.ext.size
  refine s_allocN (D := FDx) (B := B) (z := .agg prz.toArray) hF (by kernel_rfl) (by decide) hS.inv rfl ?_; clear hF a; intro gR w' a hm hI' hR hF
  replace hbx := hbx.mb hm (by simp)
  replace hS := hS.mb0 hm
  clear hm hI'
  replace hR := hR.le hs0
  clear hs0
  refine s_storeN (D := FDx) (B := B) hF (by rw [List.size_toArray, prOf_len]; kernel_rfl) rfl rfl (prOf_one p) (by rw [List.size_toArray, prOf_len]; rfl) hR hS.inv ?_; intro w' hm hI' hrc'
  replace hbx := hbx.mb hm (by intro e; cases e; exact absurd hR.blk (by intro e2; have := hbx.symm.trans e2; cases this))
  replace hS := hS.mb hm (fun k h => by cases h; exact hR.low)
  replace hR := hrc'
  clear hm hI' hrc'
  refine sv hF (v_assign rfl) rfl ?_; clear hF a; intro a hF
  refine WL_nil (hK _ _ ?_)
  clear hK K
  replace hF := hF.sub _ (c_ 4 rfl (c_ 3 rfl (c_ 2 rfl (c_ 1 rfl (n_)))))
  refine W_sr rfl (fun K hK => ?_)
  refine sv hF (v_move rfl) rfl ?_; clear hF a; intro a hF
  refine sv hF (v_move rfl) rfl ?_; clear hF a; intro a hF
  refine svn hF rfl rfl rfl ?_; clear hF a; intro a hF
  refine svn hF rfl rfl rfl ?_; clear hF a; intro a hF
  refine svn hF rfl rfl rfl ?_; clear hF a; intro a hF
  refine sv hF (v_pickF rfl rfl) rfl ?_; clear hF a; intro a hF
  refine sv hF (v_move rfl) rfl ?_; clear hF a; intro a hF
  refine svn hF rfl rfl rfl ?_; clear hF a; intro a hF
  refine svn hF rfl rfl rfl ?_; clear hF a; intro a hF
  refine svn hF rfl rfl rfl ?_; clear hF a; intro a hF
  refine sv hF (v_pickF rfl rfl) rfl ?_; clear hF a; intro a hF
  refine sv hF (v_move rfl) rfl ?_; clear hF a; intro a hF
  refine svn hF rfl rfl rfl ?_; clear hF a; intro a hF
  refine svn hF rfl rfl rfl ?_; clear hF a; intro a hF
  refine svn hF rfl rfl rfl ?_; clear hF a; intro a hF
  refine sv hF (v_pickF rfl rfl) rfl ?_; clear hF a; intro a hF
  refine sv hF (v_move rfl) rfl ?_; clear hF a; intro a hF
  refine svn hF rfl rfl rfl ?_; clear hF a; intro a hF
  refine svn hF rfl rfl rfl ?_; clear hF a; intro a hF
  refine svn hF rfl rfl rfl ?_; clear hF a; intro a hF
  refine svn hF rfl rfl rfl ?_; clear hF a; intro a hF
  refine svn hF rfl rfl rfl ?_; clear hF a; intro a hF
  refine sv hF (v_pickF rfl rfl) rfl ?_; clear hF a; intro a hF
  refine sv hF (v_assign rfl) rfl ?_; clear hF a; intro a hF
  refine WL_nil (hK _ _ ?_)
  clear hK K
  replace hF := hF.sub _ (c_ 2 rfl (n_))
  refine W_ret ?_
  refine ⟨_, _, hF, rfl, ?_⟩
  exact ⟨by unfold mayP; congr 1; symm; rw [decide_eq_false_iff_not]; omega, hS⟩

theorem rPMay_ok (B : Nat) (p k m : Int) (w : World) (hI : Inv FDx B w) : Ret Tryd.prog 34 [.agg #[.int .i64 p, .int .i64 k, .int .i64 m]] w fun v w' => v = .bool (mayP p k m) ∧ St FDx B w w' := by
  by_cases h : 1 ≤ p ∧ p ≤ 6
  · exact rPMay_in B p k m w hI h
  · exact rPMay_out B p k m w hI h

set_option maxRecDepth 100000 in
set_option maxHeartbeats 1000000 in
theorem Some_ok (B n0 n1 n2 : Nat) (w : World) (hI : Inv FDx B w) (h0 : n0 < 256) (h1 : n1 < 256) (h2 : n2 < 256) : Ret Tryd.prog 13 [.agg #[.int .u8 (n0 : Int), .int .u8 (n1 : Int), .int .u8 (n2 : Int)]] w fun v w' => v = .agg #[.int .i64 ((1 + n0 % 6 : Nat) : Int), .int .i64 ((1 + n1 % 8 : Nat) : Int), .int .i64 ((1 + n2 % (maxM ((1 + n0 % 6 : Nat) : Int)).toNat : Nat) : Int)] ∧ St FDx B w w' := by
  refine enterC 32 [(0, .agg #[.int .u8 (n0 : Int), .int .u8 (n1 : Int), .int .u8 (n2 : Int)])] 2 35 Tryd.func13 rfl rfl rfl rfl rfl ?_; intro a hF
  have hS := St.refl hI
  refine W_sr rfl (fun K hK => ?_)
  refine s_box (D := FDx) (B := B) hF rfl (by decide) hS.inv rfl ?_; clear hF a; intro w' a hm hbx hsz hF
  replace hS := hS.mb0 hm
  clear hm
  have hs0 := hS.ext.size
  have tb := heap_lt hbx
  refine s_allocN (D := FDx) (B := B) (z := .agg #[.int .i64 0, .int .i64 0, .int .i64 0]) hF (by kernel_rfl) (by decide) hS.inv rfl ?_; clear hF a; intro gx2 w' a hm hI' hx2 hF
  replace hbx := hbx.mb hm (by simp)
  replace hS := hS.mb0 hm
  clear hm hI'
  have hgx2 := hx2.low
  replace hx2 := hx2.le hs0
  clear hs0
  refine WL_nil (hK _ _ ?_)
  clear hK K
  replace hF := hF.sub _ (c_ 2 rfl (c_ 1 rfl (n_)))
  refine W_sr rfl (fun K hK => ?_)
  refine sv hF (v_ixA ar32 rfl rfl (by omega) (by omega)) rfl ?_; clear hF a; intro a hF
  refine sv hF (v_load sc5 rfl (hbx.at 0 rfl)) rfl ?_; clear hF a; intro a hF
  refine sv hF (v_cv Tryd.underlying5 Tryd.underlying3 rfl (wrap_i64 _ (by omega))) rfl ?_; clear hF a; intro a hF
  refine sv hF ((v_remI rfl rfl (by omega) (by omega)).as (show Value.int .i64 ((n0 : Int) % 6) = .int .i64 ((n0 % 6 : Nat) : Int) by simp)) rfl ?_; clear hF a; intro a hF
  refine sv hF ((v_addI rfl rfl (by omega)).as (show Value.int .i64 (1 + ((n0 % 6 : Nat) : Int)) = .int .i64 ((1 + n0 % 6 : Nat) : Int) by simp)) rfl ?_; clear hF a; intro a hF
  refine sv hF (v_ixA ar32 rfl rfl (by omega) (by omega)) rfl ?_; clear hF a; intro a hF
  refine sv hF (v_load sc5 rfl (hbx.at 1 rfl)) rfl ?_; clear hF a; intro a hF
  refine sv hF (v_cv Tryd.underlying5 Tryd.underlying3 rfl (wrap_i64 _ (by omega))) rfl ?_; clear hF a; intro a hF
  refine sv hF ((v_remI rfl rfl (by omega) (by omega)).as (show Value.int .i64 ((n1 : Int) % 8) = .int .i64 ((n1 % 8 : Nat) : Int) by simp)) rfl ?_; clear hF a; intro a hF
  refine sv hF ((v_addI rfl rfl (by omega)).as (show Value.int .i64 (1 + ((n1 % 8 : Nat) : Int)) = .int .i64 ((1 + n1 % 8 : Nat) : Int) by simp)) rfl ?_; clear hF a; intro a hF
  refine sv hF (v_build (cs := #[.int .i64 ((1 + n0 % 6 : Nat) : Int), .int .i64 ((1 + n1 % 8 : Nat) : Int), .int .i64 0]) rfl (by kernel_rfl)) rfl ?_; clear hF a; intro a hF
  have hs0 := hS.ext.size
  have tx2 := heap_lt hx2.blk
  have tb2 := heap_lt hbx
  refine s_allocN (D := FDx) (B := B) (z := .agg #[.int .i64 0, .int .i64 0, .int .i64 0]) hF (by kernel_rfl) (by decide) hS.inv rfl ?_; clear hF a; intro gx w' a hm hI' hx hF
  replace hbx := hbx.mb hm (by simp)
  replace hx2 := hx2.mb hm (by simp)
  replace hS := hS.mb0 hm
  clear hm hI'
  have hgx := hx.low
  replace hx := hx.le hs0
  clear hs0
  refine s_storeN (D := FDx) (B := B) hF (by kernel_rfl) rfl rfl (rfl) (by rfl) hx hS.inv ?_; intro w' hm hI' hrc'
  replace hbx := hbx.mb hm (by simp; omega)
  replace hx2 := hx2.mb hm (by simp; omega)
  replace hS := hS.mb hm (fun k h => by cases h; exact hx.low)
  replace hx := hrc'
  clear hm hI' hrc'
  refine WL_nil (hK _ _ ?_)
  clear hK K
  replace hF := hF.sub _ (c_ 3 rfl (c_ 2 rfl (c_ 1 rfl (n_))))
  refine W_sr rfl (fun K hK => ?_)
  refine sv hF (v_fieldAddr fa35_0 rfl) rfl ?_; clear hF a; intro a hF
  refine sv hF (v_load sc3 rfl (hx.blk.at 0 rfl)) rfl ?_; clear hF a; intro a hF
  refine sc hF rfl rfl rfl en15 rfl (rPOf_ok B ((1 + n0 % 6 : Nat) : Int) _ hS.inv) ?_; clear hF a; intro v w' a hv hF
  obtain ⟨rfl, hS'⟩ := hv
  replace hbx := hbx.st (by decide) hS'
  replace hx2 := hx2.st hS'
  replace hx := hx.st hS'
  replace hS := hS.trans hS'
  clear hS'
  refine sv hF (v_move rfl) rfl ?_; clear hF a; intro a hF
  refine sv hF (v_ext rfl rfl) rfl ?_; clear hF a; intro a hF
  refine sv hF (v_ext rfl rfl) rfl ?_; clear hF a; intro a hF
  have hs0 := hS.ext.size
  have tx3 := heap_lt hx2.blk
  have tb3 := heap_lt hbx
  have tx4 := heap_lt hx.blk
  refine s_allocN (D := FDx) (B := B) (z := .agg prz.toArray) hF (by kernel_rfl) (by decide) hS.inv rfl ?_; clear hF a; intro gR w' a hm hI' hR hF
  replace hbx := hbx.mb hm (by simp)
  replace hx2 := hx2.mb hm (by simp)
  replace hx := hx.mb hm (by simp)
  replace hS := hS.mb0 hm
  clear hm hI'
  have hgR := hR.low
  replace hR := hR.le hs0
  clear hs0
  refine s_storeN (D := FDx) (B := B) hF (by rw [List.size_toArray, prOf_len]; kernel_rfl) rfl rfl (prOf_one ((1 + n0 % 6 : Nat) : Int)) (by rw [List.size_toArray, prOf_len]; rfl) hR hS.inv ?_; intro w' hm hI' hrc'
  replace hbx := hbx.mb hm (by simp; omega)
  replace hx2 := hx2.mb hm (by simp; omega)
  replace hx := hx.mb hm (by simp; omega)
  replace hS := hS.mb hm (fun k h => by cases h; exact hR.low)
  replace hR := hrc'
  clear hm hI' hrc'
  refine sv hF (v_assign rfl) rfl ?_; clear hF a; intro a hF
  refine WL_nil (hK _ _ ?_)
  clear hK K
  replace hF := hF.sub _ (c_ 4 rfl (c_ 3 rfl (c_ 2 rfl (c_ 1 rfl (n_)))))
  have hmx : ∃ mx : Nat, maxM ((1 + n0 % 6 : Nat) : Int) = (mx : Int) ∧ 3 ≤ mx ∧ mx ≤ 4 := by
    unfold maxM; split
    · exact ⟨3, rfl, by omega⟩
    · exact ⟨4, rfl, by omega⟩
  obtain ⟨mx, hmx, hmx2⟩ := hmx
  refine W_sr rfl (fun K hK => ?_)
  refine sv hF (v_ixA ar32 rfl rfl (by omega) (by omega)) rfl ?_; clear hF a; intro a hF
  refine sv hF (v_load sc5 rfl (hbx.at 2 rfl)) rfl ?_; clear hF a; intro a hF
  refine sv hF (v_cv Tryd.underlying5 Tryd.underlying3 rfl (wrap_i64 _ (by omega))) rfl ?_; clear hF a; intro a hF
  refine sv hF (v_fieldAddr fa42_4 rfl) rfl ?_; clear hF a; intro a hF
  refine sv hF (v_load sc3 rfl (by have h := (hR.kc 4 (prOf_max (by omega) (by omega))).c; rw [hmx] at h; exact h)) rfl ?_; clear hF a; intro a hF
  refine sv hF ((v_remI rfl rfl (by omega) (by omega)).as (show Value.int .i64 ((n2 : Int) % (mx : Int)) = .int .i64 ((n2 % mx : Nat) : Int) by simp)) rfl ?_; clear hF a; intro a hF
  have hmod : n2 % mx < mx := Nat.mod_lt _ (by omega)
  refine sv hF ((v_addI rfl rfl (by omega)).as (show Value.int .i64 (1 + ((n2 % mx : Nat) : Int)) = .int .i64 ((1 + n2 % mx : Nat) : Int) by simp)) rfl ?_; clear hF a; intro a hF
  refine sv hF (v_fieldAddr fa35_2 rfl) rfl ?_; clear hF a; intro a hF
  refine s_storeF (D := FDx) (B := B) hF on3 rfl rfl (rfl) (i := 2) (by simp) hx hS.inv ?_; intro w' hm hI' hrc'
  replace hbx := hbx.mb hm (by simp; omega)
  replace hx2 := hx2.mb hm (by simp; omega)
  replace hR := hR.mb hm (by simp; omega)
  replace hS := hS.mb hm (fun k h => by cases h; exact hx.low)
  replace hx := hrc'
  clear hm hI' hrc'
  refine WL_nil (hK _ _ ?_)
  clear hK K
  replace hF := hF.sub _ (c_ 3 rfl (c_ 2 rfl (n_)))
  refine W_sr rfl (fun K hK => ?_)
  refine sv hF (v_loadN Tryd.underlying35 rfl (by kernel_rfl) rfl hx.blk) rfl ?_; clear hF a; intro a hF
  refine s_storeN (D := FDx) (B := B) hF (by kernel_rfl) rfl rfl (rfl) (by rfl) hx2 hS.inv ?_; intro w' hm hI' hrc'
  replace hbx := hbx.mb hm (by simp; omega)
  replace hx := hx.mb hm (by simp; omega)
  replace hR := hR.mb hm (by simp; omega)
  replace hS := hS.mb hm (fun k h => by cases h; exact hx2.low)
  replace hx2 := hrc'
  clear hm hI' hrc'
  refine WL_nil (hK _ _ ?_)
  clear hK K
  replace hF := hF.sub _ (c_ 2 rfl (n_))
  refine W_ret ?_
  refine ⟨_, _, _, hF, rfl, (ld_rec Tryd.underlying35 rfl (by kernel_rfl) hx2), ?_⟩
  rw [hmx, Int.toNat_natCast]
  exact ⟨rfl, hS⟩

end Go.Proofs.YtkoiolamnnmokaaDoor
