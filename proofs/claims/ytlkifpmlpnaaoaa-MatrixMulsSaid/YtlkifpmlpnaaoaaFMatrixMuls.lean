/- The statement MatrixMuls, walked: it returns true. -/
import Derived.Test.YtlkifpmlpnaaoaaFAw04
set_option linter.unusedVariables false
set_option linter.unusedSimpArgs false
namespace Go.Proofs.Ytlkifpmlpnaaoaa
open Go Go.Gam


namespace FxFMatrixMuls
theorem en22 : Ent Try.prog 22 := ent Try.func22 (by kernel_rfl) (by kernel_rfl)
theorem en28 : Ent Try.prog 28 := ent Try.func28 (by kernel_rfl) (by kernel_rfl)
theorem en29 : Ent Try.prog 29 := ent Try.func29 (by kernel_rfl) (by kernel_rfl)
theorem en30 : Ent Try.prog 30 := ent Try.func30 (by kernel_rfl) (by kernel_rfl)
theorem en31 : Ent Try.prog 31 := ent Try.func31 (by kernel_rfl) (by kernel_rfl)
theorem en32 : Ent Try.prog 32 := ent Try.func32 (by kernel_rfl) (by kernel_rfl)
theorem en33 : Ent Try.prog 33 := ent Try.func33 (by kernel_rfl) (by kernel_rfl)
theorem en41 : Ent Try.prog 41 := ent Try.func41 (by kernel_rfl) (by kernel_rfl)
theorem en42 : Ent Try.prog 42 := ent Try.func42 (by kernel_rfl) (by kernel_rfl)
theorem en43 : Ent Try.prog 43 := ent Try.func43 (by kernel_rfl) (by kernel_rfl)
theorem en44 : Ent Try.prog 44 := ent Try.func44 (by kernel_rfl) (by kernel_rfl)
theorem en45 : Ent Try.prog 45 := ent Try.func45 (by kernel_rfl) (by kernel_rfl)
theorem ar71 : ArrOf Try.prog 71 2 := ar_of Try.underlying71 (by kernel_rfl)
theorem sc51 : Scalar Try.prog 51 := ⟨_, Try.underlying51, by simp, by simp⟩
theorem sl23 : Sl Try.prog 23 3 (.int .i64 0) 8 := sl_of Try.underlying23 rfl (by kernel_rfl)
theorem sl51 : Sl Try.prog 51 23 (.slice none 0 0) 24 := sl_of Try.underlying51 rfl (by kernel_rfl)
end FxFMatrixMuls
open FxFMatrixMuls

set_option maxRecDepth 100000 in
set_option maxHeartbeats 1000000 in
theorem MatrixMuls_ok (B M : Nat) (lg : Bool) (pma : Option Addr) (cma : Nat) (ma : Mtx) (pmb : Option Addr) (cmb : Nat) (mb : Mtx) (pv : Option Addr) (cv : Nat) (v : List Int) (w : World) (hI : Inv FDx B w) (hM : M ≤ w.heap.size) (hAma : Mat FDx B M w pma cma ma) (hlma : ma.length ≤ maxLen) (hbma : ∀ r ∈ ma, r.length ≤ maxLen) (hAmb : Mat FDx B M w pmb cmb mb) (hlmb : mb.length ≤ maxLen) (hbmb : ∀ r ∈ mb, r.length ≤ maxLen) (hvr : Row FDx B M w (.slice pv v.length cv) (zints v)) (hvb : ∀ z ∈ v, (Lit.int .i64 z).wf = true) (hvl : v.length ≤ maxLen) : Ret Try.prog 10 [.bool lg, .agg #[.slice pma ma.length cma, .slice pmb mb.length cmb], .slice pv v.length cv] w fun v w' => v = .bool true ∧ St FDx B w w' := by
  refine enter 108 [(0, .bool lg), (1, .agg #[.slice pma ma.length cma, .slice pmb mb.length cmb]), (2, .slice pv v.length cv)] 6 Try.func10 rfl rfl rfl rfl rfl ?_; intro a hF
  have hS := St.refl hI
  replace hAma := hAma.mono hM
  replace hAmb := hAmb.mono hM
  replace hvr := hvr.mono hM
  simp only [maxLen] at hvl
  refine W_sr rfl (fun K hK => ?_)
  refine s_box (D := FDx) (B := B) hF rfl (by decide) hS.inv rfl ?_; clear hF a; intro w' a hm hbx hsz hF
  replace hAma := (hAma.mb hm (fun _ h => by cases h)).mono hm.size
  replace hAmb := (hAmb.mb hm (fun _ h => by cases h)).mono hm.size
  replace hvr := (hvr.mb hm (fun _ h => by cases h)).mono hm.size
  replace hS := hS.mb0 hm
  clear hm
  refine sv hF (v_assign rfl) rfl ?_; clear hF a; intro a hF
  refine WL_nil (hK _ _ ?_)
  clear hK K
  replace hF := hF.sub _ (c_ 6 rfl (c_ 4 rfl (c_ 0 rfl (c_ 2 rfl (n_)))))
  refine W_sr rfl (fun K hK => ?_)
  refine sc hF rfl rfl rfl en28 rfl (aw04_ok B _ hS.inv) ?_; clear hF a; intro v w' a hv hF
  obtain ⟨rfl, hS'⟩ := hv
  replace hAma := (hAma.st hS').mono hS'.ext.size
  replace hAmb := (hAmb.st hS').mono hS'.ext.size
  replace hvr := (hvr.st hS').mono hS'.ext.size
  replace hbx := hbx.st (by decide) hS'
  replace hS := hS.trans hS'
  clear hS'
  refine sv hF (v_assign rfl) rfl ?_; clear hF a; intro a hF
  refine WL_nil (hK _ _ ?_)
  clear hK K
  replace hF := hF.sub _ (c_ 7 rfl (c_ 6 rfl (c_ 4 rfl (c_ 0 rfl (c_ 2 rfl (n_))))))
  refine W_seq ?_
  refine W_sr rfl (fun K hK => ?_)
  refine sv hF (v_ixA ar71 rfl rfl (by omega) (by omega)) rfl ?_; clear hF a; intro a hF
  refine sv hF (v_load sc51 rfl (hbx.at 0 rfl)) rfl ?_; clear hF a; intro a hF
  refine sc hF rfl rfl rfl en29 rfl (Few04_ok B _ _ _ ma _ hAma hlma hbma) ?_; clear hF a; intro v w' a hv hF
  obtain ⟨rfl, hw⟩ := hv
  obtain rfl := hw.symm
  have hS' := St.refl hS.inv
  replace hAma := (hAma.st hS').mono hS'.ext.size
  replace hAmb := (hAmb.st hS').mono hS'.ext.size
  replace hvr := (hvr.st hS').mono hS'.ext.size
  replace hbx := hbx.st (by decide) hS'
  replace hS := hS.trans hS'
  clear hS'
  refine sb hF (v_not rfl) rfl ?_ ?_
  · clear hF a; intro hc1 a hF
    try simp only [decide_eq_true_eq, decide_eq_false_iff_not, Bool.not_eq_true', Bool.not_eq_false', Bool.not_true, Bool.not_false] at hc1
    refine sv hF (v_move rfl) rfl ?_; clear hF a; intro a hF
    refine svn hF rfl rfl rfl ?_; clear hF a; intro a hF
    refine svn hF rfl rfl rfl ?_; clear hF a; intro a hF
    refine svn hF rfl rfl rfl ?_; clear hF a; intro a hF
    refine svn hF rfl rfl rfl ?_; clear hF a; intro a hF
    refine sv hF (v_pickT rfl rfl) rfl ?_; clear hF a; intro a hF
    refine sv hF (v_move rfl) rfl ?_; clear hF a; intro a hF
    refine svn hF rfl rfl rfl ?_; clear hF a; intro a hF
    refine svn hF rfl rfl rfl ?_; clear hF a; intro a hF
    refine svn hF rfl rfl rfl ?_; clear hF a; intro a hF
    refine sv hF (v_pickT rfl rfl) rfl ?_; clear hF a; intro a hF
    refine WL_nil (hK _ _ ?_)
    clear hK K
    replace hF := hF.sub _ (c_ 34 rfl (c_ 7 rfl (c_ 6 rfl (c_ 4 rfl (c_ 0 rfl (c_ 2 rfl (n_)))))))
    refine W_ifT hF rfl ?_
    refine W_sr rfl (fun K hK => ?_)
    refine sv hF (v_move rfl) rfl ?_; clear hF a; intro a hF
    refine sv hF (v_assign rfl) rfl ?_; clear hF a; intro a hF
    refine WL_nil (hK _ _ ?_)
    clear hK K
    replace hF := hF.sub _ (c_ 6 rfl (c_ 7 rfl (c_ 4 rfl (c_ 0 rfl (c_ 2 rfl (n_))))))
    refine W_ret ?_
    refine ⟨_, _, hF, rfl, ?_⟩
    exact ⟨rfl, hS⟩
  · clear hF a; intro hc1 a hF
    try simp only [decide_eq_true_eq, decide_eq_false_iff_not, Bool.not_eq_true', Bool.not_eq_false', Bool.not_true, Bool.not_false] at hc1
    refine sv hF (v_move rfl) rfl ?_; clear hF a; intro a hF
    refine svg hF rfl ?_
    refine sv hF (v_ixA ar71 rfl rfl (by omega) (by omega)) rfl ?_; clear hF a; intro a hF
    refine svg hF rfl ?_
    refine sv hF (v_load sc51 rfl (hbx.at 1 rfl)) rfl ?_; clear hF a; intro a hF
    refine svg hF rfl ?_
    refine sc hF rfl rfl rfl en29 rfl (Few04_ok B _ _ _ mb _ hAmb hlmb hbmb) ?_; clear hF a; intro v w' a hv hF
    obtain ⟨rfl, hw⟩ := hv
    obtain rfl := hw.symm
    have hS' := St.refl hS.inv
    replace hAma := (hAma.st hS').mono hS'.ext.size
    replace hAmb := (hAmb.st hS').mono hS'.ext.size
    replace hvr := (hvr.st hS').mono hS'.ext.size
    replace hbx := hbx.st (by decide) hS'
    replace hS := hS.trans hS'
    clear hS'
    refine svg hF rfl ?_
    refine sb hF (v_not rfl) rfl ?_ ?_
    · clear hF a; intro hc2 a hF
      try simp only [decide_eq_true_eq, decide_eq_false_iff_not, Bool.not_eq_true', Bool.not_eq_false', Bool.not_true, Bool.not_false] at hc2
      refine sv hF (v_pickF rfl rfl) rfl ?_; clear hF a; intro a hF
      refine sv hF (v_move rfl) rfl ?_; clear hF a; intro a hF
      refine svn hF rfl rfl rfl ?_; clear hF a; intro a hF
      refine svn hF rfl rfl rfl ?_; clear hF a; intro a hF
      refine svn hF rfl rfl rfl ?_; clear hF a; intro a hF
      refine sv hF (v_pickT rfl rfl) rfl ?_; clear hF a; intro a hF
      refine WL_nil (hK _ _ ?_)
      clear hK K
      replace hF := hF.sub _ (c_ 34 rfl (c_ 7 rfl (c_ 6 rfl (c_ 4 rfl (c_ 0 rfl (c_ 2 rfl (n_)))))))
      refine W_ifT hF rfl ?_
      refine W_sr rfl (fun K hK => ?_)
      refine sv hF (v_move rfl) rfl ?_; clear hF a; intro a hF
      refine sv hF (v_assign rfl) rfl ?_; clear hF a; intro a hF
      refine WL_nil (hK _ _ ?_)
      clear hK K
      replace hF := hF.sub _ (c_ 6 rfl (c_ 7 rfl (c_ 4 rfl (c_ 0 rfl (c_ 2 rfl (n_))))))
      refine W_ret ?_
      refine ⟨_, _, hF, rfl, ?_⟩
      exact ⟨rfl, hS⟩
    · clear hF a; intro hc2 a hF
      try simp only [decide_eq_true_eq, decide_eq_false_iff_not, Bool.not_eq_true', Bool.not_eq_false', Bool.not_true, Bool.not_false] at hc2
      refine sv hF (v_pickF rfl rfl) rfl ?_; clear hF a; intro a hF
      refine sv hF (v_move rfl) rfl ?_; clear hF a; intro a hF
      refine svg hF rfl ?_
      refine sv hF (v_move rfl) rfl ?_; clear hF a; intro a hF
      refine svg hF rfl ?_
      refine sv hF (v_lenS rfl sl23 rfl) rfl ?_; clear hF a; intro a hF
      refine svg hF rfl ?_
      refine sv hF (v_gtr rfl rfl) rfl ?_; clear hF a; intro a hF
      refine sv hF (v_pickF rfl rfl) rfl ?_; clear hF a; intro a hF
      refine WL_nil (hK _ _ ?_)
      clear hK K
      replace hF := hF.sub _ (c_ 34 rfl (c_ 7 rfl (c_ 6 rfl (c_ 4 rfl (c_ 0 rfl (c_ 2 rfl (n_)))))))
      refine W_if hF rfl (fun hc3 => ?_) (fun hc3 => ?_)
      · skip
        try simp only [decide_eq_true_eq, decide_eq_false_iff_not, Bool.not_eq_true', Bool.not_eq_false', Bool.not_true, Bool.not_false] at hc3
        refine W_sr rfl (fun K hK => ?_)
        refine sv hF (v_move rfl) rfl ?_; clear hF a; intro a hF
        refine sv hF (v_assign rfl) rfl ?_; clear hF a; intro a hF
        refine WL_nil (hK _ _ ?_)
        clear hK K
        replace hF := hF.sub _ (c_ 6 rfl (c_ 7 rfl (c_ 4 rfl (c_ 0 rfl (c_ 2 rfl (n_))))))
        refine W_ret ?_
        refine ⟨_, _, hF, rfl, ?_⟩
        exact ⟨rfl, hS⟩
      · skip
        try simp only [decide_eq_true_eq, decide_eq_false_iff_not, Bool.not_eq_true', Bool.not_eq_false', Bool.not_true, Bool.not_false] at hc3
        refine W_skip ?_
        have hfma : fewM ma = true := by assumption
        have hfmb : fewM mb = true := by assumption
        refine W_sr rfl (fun K hK => ?_)
        refine sv hF (v_move rfl) rfl ?_; clear hF a; intro a hF
        refine sc hF rfl rfl rfl en30 rfl (field4_ok B lg _ hS.inv) ?_; clear hF a; intro v w' a hv hF
        obtain ⟨fv, rfl, hf, hS'⟩ := hv
        obtain ⟨⟨wb, p⟩, hq⟩ : ∃ q, fq lg = q := ⟨_, rfl⟩
        have hq1 : (fq lg).1 = wb := by rw [hq]
        have hq2 : (fq lg).2 = p := by rw [hq]
        rw [hq] at hf
        rw [hq1, hq2] at hF
        clear hq1 hq2
        have hp : Prm wb p := hf.1
        replace hAma := (hAma.st hS').mono hS'.ext.size
        replace hAmb := (hAmb.st hS').mono hS'.ext.size
        replace hvr := (hvr.st hS').mono hS'.ext.size
        replace hbx := hbx.st (by decide) hS'
        replace hS := hS.trans hS'
        clear hS'
        refine sv hF (v_move rfl) rfl ?_; clear hF a; intro a hF
        refine sv hF (v_ext rfl rfl) rfl ?_; clear hF a; intro a hF
        refine sv hF (v_ext rfl rfl) rfl ?_; clear hF a; intro a hF
        refine sv hF (v_ext rfl rfl) rfl ?_; clear hF a; intro a hF
        refine sv hF (v_assign rfl) rfl ?_; clear hF a; intro a hF
        refine sv hF (v_assign rfl) rfl ?_; clear hF a; intro a hF
        refine sv hF (v_assign rfl) rfl ?_; clear hF a; intro a hF
        refine WL_nil (hK _ _ ?_)
        clear hK K
        replace hF := hF.sub _ (c_ 10 rfl (c_ 9 rfl (c_ 8 rfl (c_ 7 rfl (c_ 6 rfl (c_ 4 rfl (c_ 2 rfl (n_))))))))
        refine W_sr rfl (fun K hK => ?_)
        refine sv hF (v_move rfl) rfl ?_; clear hF a; intro a hF
        refine sv hF (v_ixA ar71 rfl rfl (by omega) (by omega)) rfl ?_; clear hF a; intro a hF
        refine sv hF (v_load sc51 rfl (hbx.at 0 rfl)) rfl ?_; clear hF a; intro a hF
        refine sv hF (v_ixA ar71 rfl rfl (by omega) (by omega)) rfl ?_; clear hF a; intro a hF
        refine sv hF (v_load sc51 rfl (hbx.at 1 rfl)) rfl ?_; clear hF a; intro a hF
        refine sc hF rfl rfl rfl en31 rfl (MulM_ok B _ (some (wb, p)) fv _ _ ma _ _ mb _ hS.inv (Nat.le_refl _) hf hAma (And.intro hlma hbma).1 (And.intro hlma hbma).2 hAmb (And.intro hlmb hbmb).1 (And.intro hlmb hbmb).2) ?_; clear hF a; intro v w' a hv hF
        obtain ⟨obX, uX, rfl, hoX, hS'⟩ := hv
        obtain ⟨sX, cX, rfl, hX⟩ := hoX.mat (by decide) (Nat.zero_le _)
        clear hoX
        replace hAma := (hAma.st hS').mono hS'.ext.size
        replace hAmb := (hAmb.st hS').mono hS'.ext.size
        replace hvr := (hvr.st hS').mono hS'.ext.size
        replace hbx := hbx.st (by decide) hS'
        replace hf := hf.st hS'
        replace hS := hS.trans hS'
        clear hS'
        refine sv hF (v_move rfl) rfl ?_; clear hF a; intro a hF
        refine sv hF (v_ext rfl rfl) rfl ?_; clear hF a; intro a hF
        refine sv hF (v_ext rfl rfl) rfl ?_; clear hF a; intro a hF
        refine sv hF (v_assign rfl) rfl ?_; clear hF a; intro a hF
        refine sv hF (v_assign rfl) rfl ?_; clear hF a; intro a hF
        refine WL_nil (hK _ _ ?_)
        clear hK K
        replace hF := hF.sub _ (c_ 12 rfl (c_ 11 rfl (c_ 10 rfl (c_ 9 rfl (c_ 8 rfl (c_ 7 rfl (c_ 6 rfl (c_ 4 rfl (c_ 2 rfl (n_))))))))))
        refine W_sr rfl (fun K hK => ?_)
        refine sv hF (v_move rfl) rfl ?_; clear hF a; intro a hF
        refine sv hF (v_move rfl) rfl ?_; clear hF a; intro a hF
        refine sv hF (v_ixA ar71 rfl rfl (by omega) (by omega)) rfl ?_; clear hF a; intro a hF
        refine sv hF (v_load sc51 rfl (hbx.at 0 rfl)) rfl ?_; clear hF a; intro a hF
        refine sv hF (v_ixA ar71 rfl rfl (by omega) (by omega)) rfl ?_; clear hF a; intro a hF
        refine sv hF (v_load sc51 rfl (hbx.at 1 rfl)) rfl ?_; clear hF a; intro a hF
        refine sc hF rfl rfl rfl en41 rfl (rMulM_ok B _ wb p hp _ _ ma _ _ mb _ hS.inv (Nat.le_refl _) hAma ((len1k (few20 hfma))).1 ((len1k (few20 hfma))).2 hAmb ((len1k (few20 hfmb))).1 ((len1k (few20 hfmb))).2) ?_; clear hF a; intro v w' a hv hF
        obtain ⟨obY, uY, rfl, hoY, hS'⟩ := hv
        obtain ⟨sY, cY, rfl, hY⟩ := hoY.mat (by decide) (Nat.zero_le _)
        clear hoY
        replace hAma := (hAma.st hS').mono hS'.ext.size
        replace hAmb := (hAmb.st hS').mono hS'.ext.size
        replace hvr := (hvr.st hS').mono hS'.ext.size
        replace hbx := hbx.st (by decide) hS'
        replace hf := hf.st hS'
        replace hX := (hX.st hS').mono hS'.ext.size
        replace hS := hS.trans hS'
        clear hS'
        refine sv hF (v_move rfl) rfl ?_; clear hF a; intro a hF
        refine sv hF (v_ext rfl rfl) rfl ?_; clear hF a; intro a hF
        refine sv hF (v_ext rfl rfl) rfl ?_; clear hF a; intro a hF
        refine sv hF (v_assign rfl) rfl ?_; clear hF a; intro a hF
        refine sv hF (v_assign rfl) rfl ?_; clear hF a; intro a hF
        refine WL_nil (hK _ _ ?_)
        clear hK K
        replace hF := hF.sub _ (c_ 14 rfl (c_ 13 rfl (c_ 12 rfl (c_ 11 rfl (c_ 10 rfl (c_ 9 rfl (c_ 8 rfl (c_ 7 rfl (c_ 6 rfl (c_ 4 rfl (c_ 2 rfl (n_))))))))))))
        refine W_sr rfl (fun K hK => ?_)
        refine sv hF (v_move rfl) rfl ?_; clear hF a; intro a hF
        refine sv hF (v_ixA ar71 rfl rfl (by omega) (by omega)) rfl ?_; clear hF a; intro a hF
        refine sv hF (v_load sc51 rfl (hbx.at 0 rfl)) rfl ?_; clear hF a; intro a hF
        refine sv hF (v_move rfl) rfl ?_; clear hF a; intro a hF
        refine sc hF rfl rfl rfl en42 rfl (Apply_ok B _ (some (wb, p)) fv _ _ ma _ _ v _ hS.inv (Nat.le_refl _) hf hAma (len1k (few20 hfma)).1 (len1k (few20 hfma)).2 hvr (by omega)) ?_; clear hF a; intro v w' a hv hF
        obtain ⟨sG, obG, rfl, hOG, hS'⟩ := hv
        obtain ⟨aG, cG, rfl⟩ := hOG.shape
        have hG := hOG.row (by decide)
        rw [zints_length] at hG hF
        clear hOG
        replace hAma := (hAma.st hS').mono hS'.ext.size
        replace hAmb := (hAmb.st hS').mono hS'.ext.size
        replace hvr := (hvr.st hS').mono hS'.ext.size
        replace hbx := hbx.st (by decide) hS'
        replace hf := hf.st hS'
        replace hX := (hX.st hS').mono hS'.ext.size
        replace hY := (hY.st hS').mono hS'.ext.size
        replace hS := hS.trans hS'
        clear hS'
        refine sv hF (v_move rfl) rfl ?_; clear hF a; intro a hF
        refine sv hF (v_ext rfl rfl) rfl ?_; clear hF a; intro a hF
        refine sv hF (v_ext rfl rfl) rfl ?_; clear hF a; intro a hF
        refine sv hF (v_assign rfl) rfl ?_; clear hF a; intro a hF
        refine sv hF (v_assign rfl) rfl ?_; clear hF a; intro a hF
        refine WL_nil (hK _ _ ?_)
        clear hK K
        replace hF := hF.sub _ (c_ 16 rfl (c_ 15 rfl (c_ 14 rfl (c_ 13 rfl (c_ 12 rfl (c_ 11 rfl (c_ 10 rfl (c_ 9 rfl (c_ 7 rfl (c_ 6 rfl (c_ 4 rfl (c_ 2 rfl (n_)))))))))))))
        refine W_sr rfl (fun K hK => ?_)
        refine sv hF (v_move rfl) rfl ?_; clear hF a; intro a hF
        refine sv hF (v_move rfl) rfl ?_; clear hF a; intro a hF
        refine sv hF (v_ixA ar71 rfl rfl (by omega) (by omega)) rfl ?_; clear hF a; intro a hF
        refine sv hF (v_load sc51 rfl (hbx.at 0 rfl)) rfl ?_; clear hF a; intro a hF
        refine sv hF (v_move rfl) rfl ?_; clear hF a; intro a hF
        refine sc hF rfl rfl rfl en43 rfl (rApply_ok B _ wb p hp _ _ ma _ _ v _ hS.inv (Nat.le_refl _) hAma (len1k (few20 hfma)).1 (len1k (few20 hfma)).2 hvr (by omega)) ?_; clear hF a; intro v w' a hv hF
        obtain ⟨sR, obR, rfl, hOR, hS'⟩ := hv
        obtain ⟨aR, cR, rfl⟩ := hOR.shape
        have hR := hOR.row (by decide)
        rw [zints_length] at hR hF
        clear hOR
        replace hAma := (hAma.st hS').mono hS'.ext.size
        replace hAmb := (hAmb.st hS').mono hS'.ext.size
        replace hvr := (hvr.st hS').mono hS'.ext.size
        replace hbx := hbx.st (by decide) hS'
        replace hf := hf.st hS'
        replace hX := (hX.st hS').mono hS'.ext.size
        replace hY := (hY.st hS').mono hS'.ext.size
        replace hG := (hG.st hS').mono hS'.ext.size
        replace hS := hS.trans hS'
        clear hS'
        refine sv hF (v_move rfl) rfl ?_; clear hF a; intro a hF
        refine sv hF (v_ext rfl rfl) rfl ?_; clear hF a; intro a hF
        refine sv hF (v_ext rfl rfl) rfl ?_; clear hF a; intro a hF
        refine sv hF (v_assign rfl) rfl ?_; clear hF a; intro a hF
        refine sv hF (v_assign rfl) rfl ?_; clear hF a; intro a hF
        refine WL_nil (hK _ _ ?_)
        clear hK K
        replace hF := hF.sub _ (c_ 18 rfl (c_ 17 rfl (c_ 16 rfl (c_ 15 rfl (c_ 14 rfl (c_ 13 rfl (c_ 12 rfl (c_ 11 rfl (c_ 7 rfl (c_ 6 rfl (c_ 2 rfl (n_))))))))))))
        refine W_sr rfl (fun K hK => ?_)
        refine sv hF (v_move rfl) rfl ?_; clear hF a; intro a hF
        refine sv hF (v_move rfl) rfl ?_; clear hF a; intro a hF
        refine svg hF rfl ?_
        refine sv hF (v_move rfl) rfl ?_; clear hF a; intro a hF
        refine svg hF rfl ?_
        refine sv hF (v_move rfl) rfl ?_; clear hF a; intro a hF
        refine svg hF rfl ?_
        refine sc hF rfl rfl rfl en44 rfl (was4_ok (mulM (some (wb, p)) ma mb) _ _ rfl) ?_; clear hF a; intro v w' a hv hF
        obtain ⟨rfl, hw⟩ := hv
        obtain rfl := hw.symm
        have hS' := St.refl hS.inv
        replace hAma := (hAma.st hS').mono hS'.ext.size
        replace hAmb := (hAmb.st hS').mono hS'.ext.size
        replace hvr := (hvr.st hS').mono hS'.ext.size
        replace hbx := hbx.st (by decide) hS'
        replace hf := hf.st hS'
        replace hX := (hX.st hS').mono hS'.ext.size
        replace hY := (hY.st hS').mono hS'.ext.size
        replace hG := (hG.st hS').mono hS'.ext.size
        replace hR := (hR.st hS').mono hS'.ext.size
        replace hS := hS.trans hS'
        clear hS'
        refine sv hF (v_pickT rfl rfl) rfl ?_; clear hF a; intro a hF
        refine sv hF (v_move rfl) rfl ?_; clear hF a; intro a hF
        refine svg hF rfl ?_
        refine sv hF (v_move rfl) rfl ?_; clear hF a; intro a hF
        refine svg hF rfl ?_
        refine sv hF (v_move rfl) rfl ?_; clear hF a; intro a hF
        refine svg hF rfl ?_
        refine sc hF rfl rfl rfl en33 rfl (Same4_t B _ _ _ _ _ _ _ _ hS.inv hX hY (len1k (mulM_lens (some (wb, p)) ma mb)).1 (len1k (mulM_lens (some (wb, p)) ma mb)).2 rfl) ?_; clear hF a; intro v w' a hv hF
        obtain ⟨rfl, hS'⟩ := hv
        replace hAma := (hAma.st hS').mono hS'.ext.size
        replace hAmb := (hAmb.st hS').mono hS'.ext.size
        replace hvr := (hvr.st hS').mono hS'.ext.size
        replace hbx := hbx.st (by decide) hS'
        replace hf := hf.st hS'
        replace hX := (hX.st hS').mono hS'.ext.size
        replace hY := (hY.st hS').mono hS'.ext.size
        replace hG := (hG.st hS').mono hS'.ext.size
        replace hR := (hR.st hS').mono hS'.ext.size
        replace hS := hS.trans hS'
        clear hS'
        refine sv hF (v_pickT rfl rfl) rfl ?_; clear hF a; intro a hF
        refine sv hF (v_move rfl) rfl ?_; clear hF a; intro a hF
        refine svg hF rfl ?_
        refine sv hF (v_move rfl) rfl ?_; clear hF a; intro a hF
        refine svg hF rfl ?_
        refine sv hF (v_move rfl) rfl ?_; clear hF a; intro a hF
        refine svg hF rfl ?_
        refine sc hF rfl rfl rfl en44 rfl (was4_ok (applyM (some (wb, p)) ma v) _ _ rfl) ?_; clear hF a; intro v w' a hv hF
        obtain ⟨rfl, hw⟩ := hv
        obtain rfl := hw.symm
        have hS' := St.refl hS.inv
        replace hAma := (hAma.st hS').mono hS'.ext.size
        replace hAmb := (hAmb.st hS').mono hS'.ext.size
        replace hvr := (hvr.st hS').mono hS'.ext.size
        replace hbx := hbx.st (by decide) hS'
        replace hf := hf.st hS'
        replace hX := (hX.st hS').mono hS'.ext.size
        replace hY := (hY.st hS').mono hS'.ext.size
        replace hG := (hG.st hS').mono hS'.ext.size
        replace hR := (hR.st hS').mono hS'.ext.size
        replace hS := hS.trans hS'
        clear hS'
        refine sv hF (v_pickT rfl rfl) rfl ?_; clear hF a; intro a hF
        refine sv hF (v_move rfl) rfl ?_; clear hF a; intro a hF
        refine svg hF rfl ?_
        refine sv hF (v_move rfl) rfl ?_; clear hF a; intro a hF
        refine svg hF rfl ?_
        refine sv hF (v_move rfl) rfl ?_; clear hF a; intro a hF
        refine svg hF rfl ?_
        refine sc hF rfl rfl rfl en22 rfl (Ints4_t B _ _ _ _ _ _ _ _ hS.inv hG hR (by have h := (mulM_one' (o := (some (wb, p))) (a := ma) (l := v)).1; have h2 := (few20 hfma).1; rw [applyM_getD]; simp; omega) rfl) ?_; clear hF a; intro v w' a hv hF
        obtain ⟨rfl, hS'⟩ := hv
        replace hAma := (hAma.st hS').mono hS'.ext.size
        replace hAmb := (hAmb.st hS').mono hS'.ext.size
        replace hvr := (hvr.st hS').mono hS'.ext.size
        replace hbx := hbx.st (by decide) hS'
        replace hf := hf.st hS'
        replace hX := (hX.st hS').mono hS'.ext.size
        replace hY := (hY.st hS').mono hS'.ext.size
        replace hG := (hG.st hS').mono hS'.ext.size
        replace hR := (hR.st hS').mono hS'.ext.size
        replace hS := hS.trans hS'
        clear hS'
        refine sv hF (v_pickT rfl rfl) rfl ?_; clear hF a; intro a hF
        refine sv hF (v_move rfl) rfl ?_; clear hF a; intro a hF
        refine svg hF rfl ?_
        refine sv hF (v_move rfl) rfl ?_; clear hF a; intro a hF
        refine svg hF rfl ?_
        refine sv hF (v_lenS rfl sl23 rfl) rfl ?_; clear hF a; intro a hF
        refine svg hF rfl ?_
        refine sc hF rfl rfl rfl en32 rfl (Identity_ok B (v.length : Int) _ hS.inv (by omega)) ?_; clear hF a; intro v w' a hv hF
        obtain ⟨obI_, hoI_, hS'⟩ := hv
        obtain ⟨sI_, cI_, rfl, hI_⟩ := hoI_.mat (by decide) (Nat.zero_le _)
        clear hoI_
        replace hAma := (hAma.st hS').mono hS'.ext.size
        replace hAmb := (hAmb.st hS').mono hS'.ext.size
        replace hvr := (hvr.st hS').mono hS'.ext.size
        replace hbx := hbx.st (by decide) hS'
        replace hf := hf.st hS'
        replace hX := (hX.st hS').mono hS'.ext.size
        replace hY := (hY.st hS').mono hS'.ext.size
        replace hG := (hG.st hS').mono hS'.ext.size
        replace hR := (hR.st hS').mono hS'.ext.size
        replace hS := hS.trans hS'
        clear hS'
        refine svg hF rfl ?_
        refine sv hF (v_move rfl) rfl ?_; clear hF a; intro a hF
        refine svg hF rfl ?_
        refine sv hF (v_lenS rfl sl23 rfl) rfl ?_; clear hF a; intro a hF
        refine svg hF rfl ?_
        refine sc hF rfl rfl rfl en45 rfl (rIdentity_ok B (v.length : Int) _ hS.inv (by omega)) ?_; clear hF a; intro v w' a hv hF
        obtain ⟨obJ, hoJ, hS'⟩ := hv
        obtain ⟨sJ, cJ, rfl, hJ⟩ := hoJ.mat (by decide) (Nat.zero_le _)
        clear hoJ
        replace hAma := (hAma.st hS').mono hS'.ext.size
        replace hAmb := (hAmb.st hS').mono hS'.ext.size
        replace hvr := (hvr.st hS').mono hS'.ext.size
        replace hbx := hbx.st (by decide) hS'
        replace hf := hf.st hS'
        replace hX := (hX.st hS').mono hS'.ext.size
        replace hY := (hY.st hS').mono hS'.ext.size
        replace hG := (hG.st hS').mono hS'.ext.size
        replace hR := (hR.st hS').mono hS'.ext.size
        replace hI_ := (hI_.st hS').mono hS'.ext.size
        replace hS := hS.trans hS'
        clear hS'
        refine svg hF rfl ?_
        refine sc hF rfl rfl rfl en33 rfl (Same4_t B _ _ _ _ _ _ _ _ hS.inv hI_ hJ (len1k (idM_lens _)).1 (len1k (idM_lens _)).2 rfl) ?_; clear hF a; intro v w' a hv hF
        obtain ⟨rfl, hS'⟩ := hv
        replace hAma := (hAma.st hS').mono hS'.ext.size
        replace hAmb := (hAmb.st hS').mono hS'.ext.size
        replace hvr := (hvr.st hS').mono hS'.ext.size
        replace hbx := hbx.st (by decide) hS'
        replace hf := hf.st hS'
        replace hX := (hX.st hS').mono hS'.ext.size
        replace hY := (hY.st hS').mono hS'.ext.size
        replace hG := (hG.st hS').mono hS'.ext.size
        replace hR := (hR.st hS').mono hS'.ext.size
        replace hI_ := (hI_.st hS').mono hS'.ext.size
        replace hJ := (hJ.st hS').mono hS'.ext.size
        replace hS := hS.trans hS'
        clear hS'
        refine sv hF (v_pickT rfl rfl) rfl ?_; clear hF a; intro a hF
        refine sv hF (v_assign rfl) rfl ?_; clear hF a; intro a hF
        refine WL_nil (hK _ _ ?_)
        clear hK K
        replace hF := hF.sub _ (c_ 6 rfl (n_))
        refine W_ret ?_
        refine ⟨_, _, hF, rfl, ?_⟩
        exact ⟨rfl, hS⟩

end Go.Proofs.Ytlkifpmlpnaaoaa
