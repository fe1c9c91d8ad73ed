/- The statement MatrixTells, walked: it returns true. -/
import Derived.Test.YtlkifpmlpnaaoaaFAw04
set_option linter.unusedVariables false
set_option linter.unusedSimpArgs false
namespace Go.Proofs.Ytlkifpmlpnaaoaa
open Go Go.Gam


namespace FxFMatrixTells
theorem en28 : Ent Try.prog 28 := ent Try.func28 (by kernel_rfl) (by kernel_rfl)
theorem en29 : Ent Try.prog 29 := ent Try.func29 (by kernel_rfl) (by kernel_rfl)
theorem en30 : Ent Try.prog 30 := ent Try.func30 (by kernel_rfl) (by kernel_rfl)
theorem en33 : Ent Try.prog 33 := ent Try.func33 (by kernel_rfl) (by kernel_rfl)
theorem en44 : Ent Try.prog 44 := ent Try.func44 (by kernel_rfl) (by kernel_rfl)
theorem en46 : Ent Try.prog 46 := ent Try.func46 (by kernel_rfl) (by kernel_rfl)
theorem en47 : Ent Try.prog 47 := ent Try.func47 (by kernel_rfl) (by kernel_rfl)
theorem en48 : Ent Try.prog 48 := ent Try.func48 (by kernel_rfl) (by kernel_rfl)
theorem en49 : Ent Try.prog 49 := ent Try.func49 (by kernel_rfl) (by kernel_rfl)
theorem en50 : Ent Try.prog 50 := ent Try.func50 (by kernel_rfl) (by kernel_rfl)
theorem en51 : Ent Try.prog 51 := ent Try.func51 (by kernel_rfl) (by kernel_rfl)
theorem ar71 : ArrOf Try.prog 71 2 := ar_of Try.underlying71 (by kernel_rfl)
theorem hmix : Try.prog.follows .mixedOrders = true := by kernel_rfl
theorem sc51 : Scalar Try.prog 51 := ⟨_, Try.underlying51, by simp, by simp⟩
theorem sl23 : Sl Try.prog 23 3 (.int .i64 0) 8 := sl_of Try.underlying23 rfl (by kernel_rfl)
theorem sl51 : Sl Try.prog 51 23 (.slice none 0 0) 24 := sl_of Try.underlying51 rfl (by kernel_rfl)
end FxFMatrixTells
open FxFMatrixTells

set_option maxRecDepth 100000 in
set_option maxHeartbeats 1000000 in
theorem MatrixTells_ok (B M : Nat) (lg : Bool) (pma : Option Addr) (cma : Nat) (ma : Mtx) (pmb : Option Addr) (cmb : Nat) (mb : Mtx) (pv : Option Addr) (cv : Nat) (v : List Int) (w : World) (hI : Inv FDx B w) (hM : M ≤ w.heap.size) (hAma : Mat FDx B M w pma cma ma) (hlma : ma.length ≤ maxLen) (hbma : ∀ r ∈ ma, r.length ≤ maxLen) (hAmb : Mat FDx B M w pmb cmb mb) (hlmb : mb.length ≤ maxLen) (hbmb : ∀ r ∈ mb, r.length ≤ maxLen) (hvr : Row FDx B M w (.slice pv v.length cv) (zints v)) (hvb : ∀ z ∈ v, (Lit.int .i64 z).wf = true) (hvl : v.length ≤ maxLen) : Ret Try.prog 12 [.bool lg, .agg #[.slice pma ma.length cma, .slice pmb mb.length cmb], .slice pv v.length cv] w fun v w' => v = .bool true ∧ St FDx B w w' := by
  refine enter 108 [(0, .bool lg), (1, .agg #[.slice pma ma.length cma, .slice pmb mb.length cmb]), (2, .slice pv v.length cv)] 6 Try.func12 rfl rfl rfl rfl rfl ?_; intro a hF
  have hS := St.refl hI
  replace hAma := hAma.mono hM
  replace hAmb := hAmb.mono hM
  replace hvr := hvr.mono hM
  simp only [maxLen] at hvl
  refine W_sr rfl (fun K hK => ?_)
  refine s_box (D := FDx) (B := B) hF rfl (by decide) hS.inv rfl ?_; clear hF a; intro w' a hm hbx hsz hF
  replace hAma := (hAma.mb hm (fun _ h => by cases h)).mono hm.size
  replace hAmb := (hAmb.mb hm (fun _ h => by cases h)).mono hm.size
  replace hvr := (hvr.mb hm (fun _ h => by cases h)).mono hm.size
  replace hS := hS.mb0 hm
  clear hm
  refine sv hF (v_assign rfl) rfl ?_; clear hF a; intro a hF
  refine WL_nil (hK _ _ ?_)
  clear hK K
  replace hF := hF.sub _ (c_ 6 rfl (c_ 4 rfl (c_ 0 rfl (c_ 2 rfl (n_)))))
  refine W_sr rfl (fun K hK => ?_)
  refine sc hF rfl rfl rfl en28 rfl (aw04_ok B _ hS.inv) ?_; clear hF a; intro v w' a hv hF
  obtain ⟨rfl, hS'⟩ := hv
  replace hAma := (hAma.st hS').mono hS'.ext.size
  replace hAmb := (hAmb.st hS').mono hS'.ext.size
  replace hvr := (hvr.st hS').mono hS'.ext.size
  replace hbx := hbx.st (by decide) hS'
  replace hS := hS.trans hS'
  clear hS'
  refine sv hF (v_assign rfl) rfl ?_; clear hF a; intro a hF
  refine WL_nil (hK _ _ ?_)
  clear hK K
  replace hF := hF.sub _ (c_ 7 rfl (c_ 6 rfl (c_ 4 rfl (c_ 0 rfl (c_ 2 rfl (n_))))))
  refine W_seq ?_
  refine W_sr rfl (fun K hK => ?_)
  refine sv hF (v_ixA ar71 rfl rfl (by omega) (by omega)) rfl ?_; clear hF a; intro a hF
  refine sv hF (v_load sc51 rfl (hbx.at 0 rfl)) rfl ?_; clear hF a; intro a hF
  refine sc hF rfl rfl rfl en29 rfl (Few04_ok B _ _ _ ma _ hAma hlma hbma) ?_; clear hF a; intro v w' a hv hF
  obtain ⟨rfl, hw⟩ := hv
  obtain rfl := hw.symm
  have hS' := St.refl hS.inv
  replace hAma := (hAma.st hS').mono hS'.ext.size
  replace hAmb := (hAmb.st hS').mono hS'.ext.size
  replace hvr := (hvr.st hS').mono hS'.ext.size
  replace hbx := hbx.st (by decide) hS'
  replace hS := hS.trans hS'
  clear hS'
  refine sb hF (v_not rfl) rfl ?_ ?_
  · clear hF a; intro hc1 a hF
    try simp only [decide_eq_true_eq, decide_eq_false_iff_not, Bool.not_eq_true', Bool.not_eq_false', Bool.not_true, Bool.not_false] at hc1
    refine sv hF (v_move rfl) rfl ?_; clear hF a; intro a hF
    refine svn hF rfl rfl rfl ?_; clear hF a; intro a hF
    refine svn hF rfl rfl rfl ?_; clear hF a; intro a hF
    refine svn hF rfl rfl rfl ?_; clear hF a; intro a hF
    refine svn hF rfl rfl rfl ?_; clear hF a; intro a hF
    refine sv hF (v_pickT rfl rfl) rfl ?_; clear hF a; intro a hF
    refine sv hF (v_move rfl) rfl ?_; clear hF a; intro a hF
    refine svn hF rfl rfl rfl ?_; clear hF a; intro a hF
    refine svn hF rfl rfl rfl ?_; clear hF a; intro a hF
    refine svn hF rfl rfl rfl ?_; clear hF a; intro a hF
    refine sv hF (v_pickT rfl rfl) rfl ?_; clear hF a; intro a hF
    refine WL_nil (hK _ _ ?_)
    clear hK K
    replace hF := hF.sub _ (c_ 34 rfl (c_ 7 rfl (c_ 6 rfl (c_ 4 rfl (c_ 0 rfl (c_ 2 rfl (n_)))))))
    refine W_ifT hF rfl ?_
    refine W_sr rfl (fun K hK => ?_)
    refine sv hF (v_move rfl) rfl ?_; clear hF a; intro a hF
    refine sv hF (v_assign rfl) rfl ?_; clear hF a; intro a hF
    refine WL_nil (hK _ _ ?_)
    clear hK K
    replace hF := hF.sub _ (c_ 6 rfl (c_ 7 rfl (c_ 4 rfl (c_ 0 rfl (c_ 2 rfl (n_))))))
    refine W_ret ?_
    refine ⟨_, _, hF, rfl, ?_⟩
    exact ⟨rfl, hS⟩
  · clear hF a; intro hc1 a hF
    try simp only [decide_eq_true_eq, decide_eq_false_iff_not, Bool.not_eq_true', Bool.not_eq_false', Bool.not_true, Bool.not_false] at hc1
    refine sv hF (v_move rfl) rfl ?_; clear hF a; intro a hF
    refine svg hF rfl ?_
    refine sv hF (v_ixA ar71 rfl rfl (by omega) (by omega)) rfl ?_; clear hF a; intro a hF
    refine svg hF rfl ?_
    refine sv hF (v_load sc51 rfl (hbx.at 1 rfl)) rfl ?_; clear hF a; intro a hF
    refine svg hF rfl ?_
    refine sc hF rfl rfl rfl en29 rfl (Few04_ok B _ _ _ mb _ hAmb hlmb hbmb) ?_; clear hF a; intro v w' a hv hF
    obtain ⟨rfl, hw⟩ := hv
    obtain rfl := hw.symm
    have hS' := St.refl hS.inv
    replace hAma := (hAma.st hS').mono hS'.ext.size
    replace hAmb := (hAmb.st hS').mono hS'.ext.size
    replace hvr := (hvr.st hS').mono hS'.ext.size
    replace hbx := hbx.st (by decide) hS'
    replace hS := hS.trans hS'
    clear hS'
    refine svg hF rfl ?_
    refine sb hF (v_not rfl) rfl ?_ ?_
    · clear hF a; intro hc2 a hF
      try simp only [decide_eq_true_eq, decide_eq_false_iff_not, Bool.not_eq_true', Bool.not_eq_false', Bool.not_true, Bool.not_false] at hc2
      refine sv hF (v_pickF rfl rfl) rfl ?_; clear hF a; intro a hF
      refine sv hF (v_move rfl) rfl ?_; clear hF a; intro a hF
      refine svn hF rfl rfl rfl ?_; clear hF a; intro a hF
      refine svn hF rfl rfl rfl ?_; clear hF a; intro a hF
      refine svn hF rfl rfl rfl ?_; clear hF a; intro a hF
      refine sv hF (v_pickT rfl rfl) rfl ?_; clear hF a; intro a hF
      refine WL_nil (hK _ _ ?_)
      clear hK K
      replace hF := hF.sub _ (c_ 34 rfl (c_ 7 rfl (c_ 6 rfl (c_ 4 rfl (c_ 0 rfl (c_ 2 rfl (n_)))))))
      refine W_ifT hF rfl ?_
      refine W_sr rfl (fun K hK => ?_)
      refine sv hF (v_move rfl) rfl ?_; clear hF a; intro a hF
      refine sv hF (v_assign rfl) rfl ?_; clear hF a; intro a hF
      refine WL_nil (hK _ _ ?_)
      clear hK K
      replace hF := hF.sub _ (c_ 6 rfl (c_ 7 rfl (c_ 4 rfl (c_ 0 rfl (c_ 2 rfl (n_))))))
      refine W_ret ?_
      refine ⟨_, _, hF, rfl, ?_⟩
      exact ⟨rfl, hS⟩
    · clear hF a; intro hc2 a hF
      try simp only [decide_eq_true_eq, decide_eq_false_iff_not, Bool.not_eq_true', Bool.not_eq_false', Bool.not_true, Bool.not_false] at hc2
      refine sv hF (v_pickF rfl rfl) rfl ?_; clear hF a; intro a hF
      refine sv hF (v_move rfl) rfl ?_; clear hF a; intro a hF
      refine svg hF rfl ?_
      refine sv hF (v_move rfl) rfl ?_; clear hF a; intro a hF
      refine svg hF rfl ?_
      refine sv hF (v_lenS rfl sl23 rfl) rfl ?_; clear hF a; intro a hF
      refine svg hF rfl ?_
      refine sv hF (v_gtr rfl rfl) rfl ?_; clear hF a; intro a hF
      refine sv hF (v_pickF rfl rfl) rfl ?_; clear hF a; intro a hF
      refine WL_nil (hK _ _ ?_)
      clear hK K
      replace hF := hF.sub _ (c_ 34 rfl (c_ 7 rfl (c_ 6 rfl (c_ 4 rfl (c_ 0 rfl (c_ 2 rfl (n_)))))))
      refine W_if hF rfl (fun hc3 => ?_) (fun hc3 => ?_)
      · skip
        try simp only [decide_eq_true_eq, decide_eq_false_iff_not, Bool.not_eq_true', Bool.not_eq_false', Bool.not_true, Bool.not_false] at hc3
        refine W_sr rfl (fun K hK => ?_)
        refine sv hF (v_move rfl) rfl ?_; clear hF a; intro a hF
        refine sv hF (v_assign rfl) rfl ?_; clear hF a; intro a hF
        refine WL_nil (hK _ _ ?_)
        clear hK K
        replace hF := hF.sub _ (c_ 6 rfl (c_ 7 rfl (c_ 4 rfl (c_ 0 rfl (c_ 2 rfl (n_))))))
        refine W_ret ?_
        refine ⟨_, _, hF, rfl, ?_⟩
        exact ⟨rfl, hS⟩
      · skip
        try simp only [decide_eq_true_eq, decide_eq_false_iff_not, Bool.not_eq_true', Bool.not_eq_false', Bool.not_true, Bool.not_false] at hc3
        refine W_skip ?_
        have hfma : fewM ma = true := by assumption
        have hfmb : fewM mb = true := by assumption
        refine W_sr rfl (fun K hK => ?_)
        refine sv hF (v_move rfl) rfl ?_; clear hF a; intro a hF
        refine sc hF rfl rfl rfl en30 rfl (field4_ok B lg _ hS.inv) ?_; clear hF a; intro v w' a hv hF
        obtain ⟨fv, rfl, hf, hS'⟩ := hv
        obtain ⟨⟨wb, p⟩, hq⟩ : ∃ q, fq lg = q := ⟨_, rfl⟩
        have hq1 : (fq lg).1 = wb := by rw [hq]
        have hq2 : (fq lg).2 = p := by rw [hq]
        rw [hq] at hf
        rw [hq1, hq2] at hF
        clear hq1 hq2
        have hp : Prm wb p := hf.1
        replace hAma := (hAma.st hS').mono hS'.ext.size
        replace hAmb := (hAmb.st hS').mono hS'.ext.size
        replace hvr := (hvr.st hS').mono hS'.ext.size
        replace hbx := hbx.st (by decide) hS'
        replace hS := hS.trans hS'
        clear hS'
        refine sv hF (v_move rfl) rfl ?_; clear hF a; intro a hF
        refine sv hF (v_ext rfl rfl) rfl ?_; clear hF a; intro a hF
        refine sv hF (v_ext rfl rfl) rfl ?_; clear hF a; intro a hF
        refine sv hF (v_ext rfl rfl) rfl ?_; clear hF a; intro a hF
        refine sv hF (v_assign rfl) rfl ?_; clear hF a; intro a hF
        refine sv hF (v_assign rfl) rfl ?_; clear hF a; intro a hF
        refine sv hF (v_assign rfl) rfl ?_; clear hF a; intro a hF
        refine WL_nil (hK _ _ ?_)
        clear hK K
        replace hF := hF.sub _ (c_ 9 rfl (c_ 8 rfl (c_ 7 rfl (c_ 6 rfl (c_ 4 rfl (c_ 2 rfl (n_)))))))
        refine W_sr rfl (fun K hK => ?_)
        refine sv hF (v_move rfl) rfl ?_; clear hF a; intro a hF
        refine sv hF (v_ixA ar71 rfl rfl (by omega) (by omega)) rfl ?_; clear hF a; intro a hF
        refine sv hF (v_load sc51 rfl (hbx.at 0 rfl)) rfl ?_; clear hF a; intro a hF
        refine sv hF (v_move rfl) rfl ?_; clear hF a; intro a hF
        refine sc hF rfl rfl rfl en46 rfl (Pick_ok B _ (some (wb, p)) fv _ _ ma _ _ v _ hS.inv (Nat.le_refl _) hf hAma (And.intro hlma hbma).1 (And.intro hlma hbma).2 hvr (Nat.le_trans (show v.length ≤ 1000 by omega) (by decide))) ?_; clear hF a; intro v w' a hv hF
        obtain ⟨obX, uX, rfl, hoX, hS'⟩ := hv
        obtain ⟨sX, cX, rfl, hX⟩ := hoX.mat (by decide) (Nat.zero_le _)
        clear hoX
        replace hAma := (hAma.st hS').mono hS'.ext.size
        replace hAmb := (hAmb.st hS').mono hS'.ext.size
        replace hvr := (hvr.st hS').mono hS'.ext.size
        replace hbx := hbx.st (by decide) hS'
        replace hf := hf.st hS'
        replace hS := hS.trans hS'
        clear hS'
        refine sv hF (v_move rfl) rfl ?_; clear hF a; intro a hF
        refine sv hF (v_ext rfl rfl) rfl ?_; clear hF a; intro a hF
        refine sv hF (v_ext rfl rfl) rfl ?_; clear hF a; intro a hF
        refine sv hF (v_assign rfl) rfl ?_; clear hF a; intro a hF
        refine sv hF (v_assign rfl) rfl ?_; clear hF a; intro a hF
        refine WL_nil (hK _ _ ?_)
        clear hK K
        replace hF := hF.sub _ (c_ 12 rfl (c_ 11 rfl (c_ 9 rfl (c_ 8 rfl (c_ 7 rfl (c_ 6 rfl (c_ 4 rfl (c_ 2 rfl (n_)))))))))
        refine W_sr rfl (fun K hK => ?_)
        refine sv hF (v_move rfl) rfl ?_; clear hF a; intro a hF
        refine sv hF (v_ixA ar71 rfl rfl (by omega) (by omega)) rfl ?_; clear hF a; intro a hF
        refine sv hF (v_load sc51 rfl (hbx.at 0 rfl)) rfl ?_; clear hF a; intro a hF
        refine sv hF (v_move rfl) rfl ?_; clear hF a; intro a hF
        refine sc hF rfl rfl rfl en47 rfl (rPick_ok B _ wb p hp _ _ ma _ _ v _ hS.inv (Nat.le_refl _) hAma (len1k (few20 hfma)).1 (len1k (few20 hfma)).2 hvr (by omega)) ?_; clear hF a; intro v w' a hv hF
        obtain ⟨obY, uY, rfl, hoY, hS'⟩ := hv
        obtain ⟨sY, cY, rfl, hY⟩ := hoY.mat (by decide) hS'.ext.size
        clear hoY
        replace hAma := (hAma.st hS').mono hS'.ext.size
        replace hAmb := (hAmb.st hS').mono hS'.ext.size
        replace hvr := (hvr.st hS').mono hS'.ext.size
        replace hbx := hbx.st (by decide) hS'
        replace hf := hf.st hS'
        replace hX := (hX.st hS').mono hS'.ext.size
        replace hS := hS.trans hS'
        clear hS'
        refine sv hF (v_move rfl) rfl ?_; clear hF a; intro a hF
        refine sv hF (v_ext rfl rfl) rfl ?_; clear hF a; intro a hF
        refine sv hF (v_ext rfl rfl) rfl ?_; clear hF a; intro a hF
        refine sv hF (v_assign rfl) rfl ?_; clear hF a; intro a hF
        refine sv hF (v_assign rfl) rfl ?_; clear hF a; intro a hF
        refine WL_nil (hK _ _ ?_)
        clear hK K
        replace hF := hF.sub _ (c_ 14 rfl (c_ 13 rfl (c_ 12 rfl (c_ 11 rfl (c_ 9 rfl (c_ 8 rfl (c_ 7 rfl (c_ 6 rfl (c_ 4 rfl (n_))))))))))
        refine W_sr rfl (fun K hK => ?_)
        refine sv hF (v_move rfl) rfl ?_; clear hF a; intro a hF
        refine sv hF (v_ixA ar71 rfl rfl (by omega) (by omega)) rfl ?_; clear hF a; intro a hF
        refine sv hF (v_load sc51 rfl (hbx.at 0 rfl)) rfl ?_; clear hF a; intro a hF
        refine sv hF (v_ixA ar71 rfl rfl (by omega) (by omega)) rfl ?_; clear hF a; intro a hF
        refine sv hF (v_load sc51 rfl (hbx.at 1 rfl)) rfl ?_; clear hF a; intro a hF
        refine sc hF rfl rfl rfl en48 rfl (Join_ok B _ (some (wb, p)) fv _ _ ma _ _ mb _ hS.inv (Nat.le_refl _) hf hAma (And.intro hlma hbma).1 (And.intro hlma hbma).2 hAmb (And.intro hlmb hbmb).1 (And.intro hlmb hbmb).2) ?_; clear hF a; intro v w' a hv hF
        obtain ⟨obZ, uZ, rfl, hoZ, hS'⟩ := hv
        obtain ⟨sZ, cZ, rfl, hZ⟩ := hoZ.mat (by decide) (Nat.zero_le _)
        clear hoZ
        replace hAma := (hAma.st hS').mono hS'.ext.size
        replace hAmb := (hAmb.st hS').mono hS'.ext.size
        replace hvr := (hvr.st hS').mono hS'.ext.size
        replace hbx := hbx.st (by decide) hS'
        replace hf := hf.st hS'
        replace hX := (hX.st hS').mono hS'.ext.size
        replace hY := (hY.st hS').mono hS'.ext.size
        replace hS := hS.trans hS'
        clear hS'
        refine sv hF (v_move rfl) rfl ?_; clear hF a; intro a hF
        refine sv hF (v_ext rfl rfl) rfl ?_; clear hF a; intro a hF
        refine sv hF (v_ext rfl rfl) rfl ?_; clear hF a; intro a hF
        refine sv hF (v_assign rfl) rfl ?_; clear hF a; intro a hF
        refine sv hF (v_assign rfl) rfl ?_; clear hF a; intro a hF
        refine WL_nil (hK _ _ ?_)
        clear hK K
        replace hF := hF.sub _ (c_ 16 rfl (c_ 15 rfl (c_ 14 rfl (c_ 13 rfl (c_ 12 rfl (c_ 11 rfl (c_ 9 rfl (c_ 8 rfl (c_ 7 rfl (c_ 6 rfl (c_ 4 rfl (n_))))))))))))
        refine W_sr rfl (fun K hK => ?_)
        refine sv hF (v_move rfl) rfl ?_; clear hF a; intro a hF
        refine sv hF (v_ixA ar71 rfl rfl (by omega) (by omega)) rfl ?_; clear hF a; intro a hF
        refine sv hF (v_load sc51 rfl (hbx.at 0 rfl)) rfl ?_; clear hF a; intro a hF
        refine sv hF (v_ixA ar71 rfl rfl (by omega) (by omega)) rfl ?_; clear hF a; intro a hF
        refine sv hF (v_load sc51 rfl (hbx.at 1 rfl)) rfl ?_; clear hF a; intro a hF
        refine sc hF rfl rfl rfl en49 rfl (rJoin_ok B _ wb p hp _ _ ma _ _ mb _ hS.inv (Nat.le_refl _) hAma (len1k (few20 hfma)).1 (len1k (few20 hfma)).2 hAmb (len1k (few20 hfmb)).1 (len1k (few20 hfmb)).2) ?_; clear hF a; intro v w' a hv hF
        obtain ⟨obU, uU, rfl, hoU, hS'⟩ := hv
        obtain ⟨sU, cU, rfl, hU⟩ := hoU.mat (by decide) hS'.ext.size
        clear hoU
        replace hAma := (hAma.st hS').mono hS'.ext.size
        replace hAmb := (hAmb.st hS').mono hS'.ext.size
        replace hvr := (hvr.st hS').mono hS'.ext.size
        replace hbx := hbx.st (by decide) hS'
        replace hf := hf.st hS'
        replace hX := (hX.st hS').mono hS'.ext.size
        replace hY := (hY.st hS').mono hS'.ext.size
        replace hZ := (hZ.st hS').mono hS'.ext.size
        replace hS := hS.trans hS'
        clear hS'
        refine sv hF (v_move rfl) rfl ?_; clear hF a; intro a hF
        refine sv hF (v_ext rfl rfl) rfl ?_; clear hF a; intro a hF
        refine sv hF (v_ext rfl rfl) rfl ?_; clear hF a; intro a hF
        refine sv hF (v_assign rfl) rfl ?_; clear hF a; intro a hF
        refine sv hF (v_assign rfl) rfl ?_; clear hF a; intro a hF
        refine WL_nil (hK _ _ ?_)
        clear hK K
        replace hF := hF.sub _ (c_ 18 rfl (c_ 17 rfl (c_ 16 rfl (c_ 15 rfl (c_ 14 rfl (c_ 13 rfl (c_ 12 rfl (c_ 11 rfl (c_ 9 rfl (c_ 8 rfl (c_ 7 rfl (c_ 6 rfl (c_ 4 rfl (n_))))))))))))))
        refine W_sd (m := 33) rfl hmix hS.inv (fun K hK w1 hS' hh => ?_)
        replace hAma := (hAma.st hS').mono hS'.ext.size
        replace hAmb := (hAmb.st hS').mono hS'.ext.size
        replace hvr := (hvr.st hS').mono hS'.ext.size
        replace hbx := hbx.st (by decide) hS'
        replace hf := hf.st hS'
        replace hX := (hX.st hS').mono hS'.ext.size
        replace hY := (hY.st hS').mono hS'.ext.size
        replace hZ := (hZ.st hS').mono hS'.ext.size
        replace hU := (hU.st hS').mono hS'.ext.size
        replace hS := hS.trans hS'
        clear hS'
        clear hh
        refine a_v (i := 0) rfl (by kernel_rfl) hF (fun w2 hx => v_move rfl) rfl ?_; clear hF a; intro a hF
        refine a_v (i := 1) rfl (by kernel_rfl) hF (fun w2 hx => v_move rfl) rfl ?_; clear hF a; intro a hF
        refine a_vg (i := 2) rfl (by kernel_rfl) hF rfl (fun w2 hx => v_move rfl) rfl ?_; clear hF a; intro a hF
        refine a_vg (i := 3) rfl (by kernel_rfl) hF rfl (fun w2 hx => v_ixA ar71 rfl rfl (by omega) (by omega)) rfl ?_; clear hF a; intro a hF
        refine a_vg (i := 4) rfl (by kernel_rfl) hF rfl (fun w2 hx => v_load sc51 rfl (hbx.ld (by decide) hx 0 rfl)) rfl ?_; clear hF a; intro a hF
        refine a_vg (i := 6) rfl (by kernel_rfl) hF rfl (fun w2 hx => v_move rfl) rfl ?_; clear hF a; intro a hF
        refine a_vg (i := 7) rfl (by kernel_rfl) hF rfl (fun w2 hx => v_ixA ar71 rfl rfl (by omega) (by omega)) rfl ?_; clear hF a; intro a hF
        refine a_vg (i := 8) rfl (by kernel_rfl) hF rfl (fun w2 hx => v_load sc51 rfl (hbx.ld (by decide) hx 0 rfl)) rfl ?_; clear hF a; intro a hF
        refine a_e (i := 5) rfl (by kernel_rfl) ?_
        refine svg hF rfl ?_
        refine sc hF rfl rfl rfl en50 rfl (May_ok B _ (some (wb, p)) fv _ _ ma _ hS.inv hf hAma hlma hbma) ?_; clear hF a; intro v w' a hv hF
        obtain ⟨rfl, hS'⟩ := hv
        refine WL_nil ⟨hS'.ext, ?_⟩
        replace hAma := (hAma.st hS').mono hS'.ext.size
        replace hAmb := (hAmb.st hS').mono hS'.ext.size
        replace hvr := (hvr.st hS').mono hS'.ext.size
        replace hbx := hbx.st (by decide) hS'
        replace hf := hf.st hS'
        replace hX := (hX.st hS').mono hS'.ext.size
        replace hY := (hY.st hS').mono hS'.ext.size
        replace hZ := (hZ.st hS').mono hS'.ext.size
        replace hU := (hU.st hS').mono hS'.ext.size
        replace hS := hS.trans hS'
        clear hS'
        refine a_e (i := 9) rfl (by kernel_rfl) ?_
        refine svg hF rfl ?_
        refine sc hF rfl rfl rfl en51 rfl (rMay_ok B _ wb p hp _ _ ma _ hS.inv hAma hlma hbma) ?_; clear hF a; intro v w' a hv hF
        obtain ⟨rfl, hS'⟩ := hv
        refine WL_nil ⟨hS'.ext, ?_⟩
        replace hAma := (hAma.st hS').mono hS'.ext.size
        replace hAmb := (hAmb.st hS').mono hS'.ext.size
        replace hvr := (hvr.st hS').mono hS'.ext.size
        replace hbx := hbx.st (by decide) hS'
        replace hf := hf.st hS'
        replace hX := (hX.st hS').mono hS'.ext.size
        replace hY := (hY.st hS').mono hS'.ext.size
        replace hZ := (hZ.st hS').mono hS'.ext.size
        replace hU := (hU.st hS').mono hS'.ext.size
        replace hS := hS.trans hS'
        clear hS'
        refine a_vg (i := 10) rfl (by kernel_rfl) hF rfl (fun w2 hx => (v_eqlB Try.underlying4 rfl rfl).as (congrArg Value.bool (decide_eq_true (rfl)))) rfl ?_; clear hF a; intro a hF
        refine a_v (i := 11) rfl (by kernel_rfl) hF (fun w2 hx => v_pickT rfl rfl) rfl ?_; clear hF a; intro a hF
        refine a_v (i := 12) rfl (by kernel_rfl) hF (fun w2 hx => v_move rfl) rfl ?_; clear hF a; intro a hF
        refine a_vg (i := 13) rfl (by kernel_rfl) hF rfl (fun w2 hx => v_move rfl) rfl ?_; clear hF a; intro a hF
        refine a_vg (i := 14) rfl (by kernel_rfl) hF rfl (fun w2 hx => v_move rfl) rfl ?_; clear hF a; intro a hF
        refine a_e (i := 15) rfl (by kernel_rfl) ?_
        refine svg hF rfl ?_
        refine sc hF rfl rfl rfl en44 rfl (was4_ok (pickM (some (wb, p)) ma v) _ _ rfl) ?_; clear hF a; intro v w' a hv hF
        obtain ⟨rfl, hw⟩ := hv
        obtain rfl := hw.symm
        have hS' := St.refl hS.inv
        refine WL_nil ⟨hS'.ext, ?_⟩
        replace hAma := (hAma.st hS').mono hS'.ext.size
        replace hAmb := (hAmb.st hS').mono hS'.ext.size
        replace hvr := (hvr.st hS').mono hS'.ext.size
        replace hbx := hbx.st (by decide) hS'
        replace hf := hf.st hS'
        replace hX := (hX.st hS').mono hS'.ext.size
        replace hY := (hY.st hS').mono hS'.ext.size
        replace hZ := (hZ.st hS').mono hS'.ext.size
        replace hU := (hU.st hS').mono hS'.ext.size
        replace hS := hS.trans hS'
        clear hS'
        refine a_v (i := 16) rfl (by kernel_rfl) hF (fun w2 hx => v_pickT rfl rfl) rfl ?_; clear hF a; intro a hF
        refine a_v (i := 17) rfl (by kernel_rfl) hF (fun w2 hx => v_move rfl) rfl ?_; clear hF a; intro a hF
        refine a_vg (i := 18) rfl (by kernel_rfl) hF rfl (fun w2 hx => v_move rfl) rfl ?_; clear hF a; intro a hF
        refine a_vg (i := 19) rfl (by kernel_rfl) hF rfl (fun w2 hx => v_move rfl) rfl ?_; clear hF a; intro a hF
        refine a_e (i := 20) rfl (by kernel_rfl) ?_
        refine svg hF rfl ?_
        refine sc hF rfl rfl rfl en33 rfl (Same4_t B _ _ _ _ _ _ _ _ hS.inv hX hY (len1k (pickM_lens (some (wb, p)) ma v)).1 (len1k (pickM_lens (some (wb, p)) ma v)).2 rfl) ?_; clear hF a; intro v w' a hv hF
        obtain ⟨rfl, hS'⟩ := hv
        refine WL_nil ⟨hS'.ext, ?_⟩
        replace hAma := (hAma.st hS').mono hS'.ext.size
        replace hAmb := (hAmb.st hS').mono hS'.ext.size
        replace hvr := (hvr.st hS').mono hS'.ext.size
        replace hbx := hbx.st (by decide) hS'
        replace hf := hf.st hS'
        replace hX := (hX.st hS').mono hS'.ext.size
        replace hY := (hY.st hS').mono hS'.ext.size
        replace hZ := (hZ.st hS').mono hS'.ext.size
        replace hU := (hU.st hS').mono hS'.ext.size
        replace hS := hS.trans hS'
        clear hS'
        refine a_v (i := 21) rfl (by kernel_rfl) hF (fun w2 hx => v_pickT rfl rfl) rfl ?_; clear hF a; intro a hF
        refine a_v (i := 22) rfl (by kernel_rfl) hF (fun w2 hx => v_move rfl) rfl ?_; clear hF a; intro a hF
        refine a_vg (i := 23) rfl (by kernel_rfl) hF rfl (fun w2 hx => v_move rfl) rfl ?_; clear hF a; intro a hF
        refine a_vg (i := 24) rfl (by kernel_rfl) hF rfl (fun w2 hx => v_move rfl) rfl ?_; clear hF a; intro a hF
        refine a_e (i := 25) rfl (by kernel_rfl) ?_
        refine svg hF rfl ?_
        refine sc hF rfl rfl rfl en44 rfl (was4_ok (joinM (some (wb, p)) ma mb) _ _ rfl) ?_; clear hF a; intro v w' a hv hF
        obtain ⟨rfl, hw⟩ := hv
        obtain rfl := hw.symm
        have hS' := St.refl hS.inv
        refine WL_nil ⟨hS'.ext, ?_⟩
        replace hAma := (hAma.st hS').mono hS'.ext.size
        replace hAmb := (hAmb.st hS').mono hS'.ext.size
        replace hvr := (hvr.st hS').mono hS'.ext.size
        replace hbx := hbx.st (by decide) hS'
        replace hf := hf.st hS'
        replace hX := (hX.st hS').mono hS'.ext.size
        replace hY := (hY.st hS').mono hS'.ext.size
        replace hZ := (hZ.st hS').mono hS'.ext.size
        replace hU := (hU.st hS').mono hS'.ext.size
        replace hS := hS.trans hS'
        clear hS'
        refine a_v (i := 26) rfl (by kernel_rfl) hF (fun w2 hx => v_pickT rfl rfl) rfl ?_; clear hF a; intro a hF
        refine a_v (i := 27) rfl (by kernel_rfl) hF (fun w2 hx => v_move rfl) rfl ?_; clear hF a; intro a hF
        refine a_vg (i := 28) rfl (by kernel_rfl) hF rfl (fun w2 hx => v_move rfl) rfl ?_; clear hF a; intro a hF
        refine a_vg (i := 29) rfl (by kernel_rfl) hF rfl (fun w2 hx => v_move rfl) rfl ?_; clear hF a; intro a hF
        refine a_e (i := 30) rfl (by kernel_rfl) ?_
        refine svg hF rfl ?_
        refine sc hF rfl rfl rfl en33 rfl (Same4_t B _ _ _ _ _ _ _ _ hS.inv hZ hU (len1k (joinM_lens (some (wb, p)) ma mb)).1 (len1k (joinM_lens (some (wb, p)) ma mb)).2 rfl) ?_; clear hF a; intro v w' a hv hF
        obtain ⟨rfl, hS'⟩ := hv
        refine WL_nil ⟨hS'.ext, ?_⟩
        replace hAma := (hAma.st hS').mono hS'.ext.size
        replace hAmb := (hAmb.st hS').mono hS'.ext.size
        replace hvr := (hvr.st hS').mono hS'.ext.size
        replace hbx := hbx.st (by decide) hS'
        replace hf := hf.st hS'
        replace hX := (hX.st hS').mono hS'.ext.size
        replace hY := (hY.st hS').mono hS'.ext.size
        replace hZ := (hZ.st hS').mono hS'.ext.size
        replace hU := (hU.st hS').mono hS'.ext.size
        replace hS := hS.trans hS'
        clear hS'
        refine a_v (i := 31) rfl (by kernel_rfl) hF (fun w2 hx => v_pickT rfl rfl) rfl ?_; clear hF a; intro a hF
        refine a_v (i := 32) rfl (by kernel_rfl) hF (fun w2 hx => v_assign rfl) rfl ?_; clear hF a; intro a hF
        refine a_done (by kernel_rfl) (hK _ _ ?_)
        clear hK K
        replace hF := hF.sub _ (c_ 6 rfl (n_))
        refine W_ret ?_
        refine ⟨_, _, hF, rfl, ?_⟩
        exact ⟨rfl, hS⟩

end Go.Proofs.Ytlkifpmlpnaaoaa
