/- The statement MatrixRows, walked: it returns true. -/
import Derived.Test.YtlkifpmlpnaaoaaFAw04
set_option linter.unusedVariables false
set_option linter.unusedSimpArgs false
namespace Go.Proofs.Ytlkifpmlpnaaoaa
open Go Go.Gam


namespace FxFMatrixRows
theorem en28 : Ent Try.prog 28 := ent Try.func28 (by kernel_rfl) (by kernel_rfl)
theorem en29 : Ent Try.prog 29 := ent Try.func29 (by kernel_rfl) (by kernel_rfl)
theorem en30 : Ent Try.prog 30 := ent Try.func30 (by kernel_rfl) (by kernel_rfl)
theorem en31 : Ent Try.prog 31 := ent Try.func31 (by kernel_rfl) (by kernel_rfl)
theorem en33 : Ent Try.prog 33 := ent Try.func33 (by kernel_rfl) (by kernel_rfl)
theorem en46 : Ent Try.prog 46 := ent Try.func46 (by kernel_rfl) (by kernel_rfl)
theorem en48 : Ent Try.prog 48 := ent Try.func48 (by kernel_rfl) (by kernel_rfl)
theorem sc5 : Scalar Try.prog 5 := ⟨_, Try.underlying5, by simp, by simp⟩
theorem sl22 : Sl Try.prog 22 5 (.int .u8 0) 1 := sl_of Try.underlying22 rfl (by kernel_rfl)
theorem sl23 : Sl Try.prog 23 3 (.int .i64 0) 8 := sl_of Try.underlying23 rfl (by kernel_rfl)
theorem sl51 : Sl Try.prog 51 23 (.slice none 0 0) 24 := sl_of Try.underlying51 rfl (by kernel_rfl)
end FxFMatrixRows
open FxFMatrixRows

set_option maxRecDepth 100000 in
set_option maxHeartbeats 1000000 in
theorem MatrixRows_ok (B M : Nat) (pma : Option Addr) (cma : Nat) (ma : Mtx) (pmb : Option Addr) (cmb : Nat) (mb : Mtx) (pv : Option Addr) (cv : Nat) (v : List Nat) (w : World) (hI : Inv FDx B w) (hM : M ≤ w.heap.size) (hAma : Mat FDx B M w pma cma ma) (hlma : ma.length ≤ maxLen) (hbma : ∀ r ∈ ma, r.length ≤ maxLen) (hAmb : Mat FDx B M w pmb cmb mb) (hlmb : mb.length ≤ maxLen) (hbmb : ∀ r ∈ mb, r.length ≤ maxLen) (hvr : Row FDx B M w (.slice pv v.length cv) (byt v)) (hv8 : ∀ x ∈ v, x < 256) (hvl : v.length ≤ maxLen) : Ret Try.prog 13 [.slice pma ma.length cma, .slice pmb mb.length cmb, .slice pv v.length cv] w fun v w' => v = .bool true ∧ St FDx B w w' := by
  refine enter 161 [(0, .slice pma ma.length cma), (1, .slice pmb mb.length cmb), (2, .slice pv v.length cv)] 6 Try.func13 rfl rfl rfl rfl rfl ?_; intro a hF
  have hS := St.refl hI
  simp only [maxLen] at hvl
  refine W_sr rfl (fun K hK => ?_)
  refine sv hF (v_assign rfl) rfl ?_; clear hF a; intro a hF
  refine WL_nil (hK _ _ ?_)
  clear hK K
  refine W_sr rfl (fun K hK => ?_)
  refine sc hF rfl rfl rfl en28 rfl (aw04_ok B _ hS.inv) ?_; clear hF a; intro v w' a hv hF
  obtain ⟨rfl, hS'⟩ := hv
  replace hAma := hAma.st hS'
  replace hAmb := hAmb.st hS'
  replace hvr := hvr.st hS'
  replace hS := hS.trans hS'
  clear hS'
  refine sv hF (v_assign rfl) rfl ?_; clear hF a; intro a hF
  refine WL_nil (hK _ _ ?_)
  clear hK K
  replace hF := hF.sub _ (c_ 7 rfl (c_ 6 rfl (c_ 0 rfl (c_ 1 rfl (c_ 2 rfl (n_))))))
  refine W_seq ?_
  refine W_sr rfl (fun K hK => ?_)
  refine sv hF (v_move rfl) rfl ?_; clear hF a; intro a hF
  refine sc hF rfl rfl rfl en29 rfl (Few04_ok B _ _ _ ma _ hAma hlma hbma) ?_; clear hF a; intro v w' a hv hF
  obtain ⟨rfl, hw⟩ := hv
  obtain rfl := hw.symm
  have hS' := St.refl hS.inv
  replace hAma := hAma.st hS'
  replace hAmb := hAmb.st hS'
  replace hvr := hvr.st hS'
  replace hS := hS.trans hS'
  clear hS'
  refine sb hF (v_not rfl) rfl ?_ ?_
  · clear hF a; intro hc1 a hF
    try simp only [decide_eq_true_eq, decide_eq_false_iff_not, Bool.not_eq_true', Bool.not_eq_false', Bool.not_true, Bool.not_false] at hc1
    refine sv hF (v_move rfl) rfl ?_; clear hF a; intro a hF
    refine svn hF rfl rfl rfl ?_; clear hF a; intro a hF
    refine svn hF rfl rfl rfl ?_; clear hF a; intro a hF
    refine svn hF rfl rfl rfl ?_; clear hF a; intro a hF
    refine sv hF (v_pickT rfl rfl) rfl ?_; clear hF a; intro a hF
    refine sv hF (v_move rfl) rfl ?_; clear hF a; intro a hF
    refine svn hF rfl rfl rfl ?_; clear hF a; intro a hF
    refine svn hF rfl rfl rfl ?_; clear hF a; intro a hF
    refine svn hF rfl rfl rfl ?_; clear hF a; intro a hF
    refine sv hF (v_pickT rfl rfl) rfl ?_; clear hF a; intro a hF
    refine sv hF (v_move rfl) rfl ?_; clear hF a; intro a hF
    refine svn hF rfl rfl rfl ?_; clear hF a; intro a hF
    refine svn hF rfl rfl rfl ?_; clear hF a; intro a hF
    refine svn hF rfl rfl rfl ?_; clear hF a; intro a hF
    refine sv hF (v_pickT rfl rfl) rfl ?_; clear hF a; intro a hF
    refine sv hF (v_move rfl) rfl ?_; clear hF a; intro a hF
    refine svn hF rfl rfl rfl ?_; clear hF a; intro a hF
    refine svn hF rfl rfl rfl ?_; clear hF a; intro a hF
    refine svn hF rfl rfl rfl ?_; clear hF a; intro a hF
    refine sv hF (v_pickT rfl rfl) rfl ?_; clear hF a; intro a hF
    refine WL_nil (hK _ _ ?_)
    clear hK K
    replace hF := hF.sub _ (c_ 50 rfl (c_ 7 rfl (c_ 6 rfl (c_ 0 rfl (c_ 1 rfl (c_ 2 rfl (n_)))))))
    refine W_ifT hF rfl ?_
    refine W_sr rfl (fun K hK => ?_)
    refine sv hF (v_move rfl) rfl ?_; clear hF a; intro a hF
    refine sv hF (v_assign rfl) rfl ?_; clear hF a; intro a hF
    refine WL_nil (hK _ _ ?_)
    clear hK K
    replace hF := hF.sub _ (c_ 6 rfl (c_ 7 rfl (c_ 0 rfl (c_ 1 rfl (c_ 2 rfl (n_))))))
    refine W_ret ?_
    refine ⟨_, _, hF, rfl, ?_⟩
    exact ⟨rfl, hS⟩
  · clear hF a; intro hc1 a hF
    try simp only [decide_eq_true_eq, decide_eq_false_iff_not, Bool.not_eq_true', Bool.not_eq_false', Bool.not_true, Bool.not_false] at hc1
    refine sv hF (v_move rfl) rfl ?_; clear hF a; intro a hF
    refine svg hF rfl ?_
    refine sv hF (v_move rfl) rfl ?_; clear hF a; intro a hF
    refine svg hF rfl ?_
    refine sc hF rfl rfl rfl en29 rfl (Few04_ok B _ _ _ mb _ hAmb hlmb hbmb) ?_; clear hF a; intro v w' a hv hF
    obtain ⟨rfl, hw⟩ := hv
    obtain rfl := hw.symm
    have hS' := St.refl hS.inv
    replace hAma := hAma.st hS'
    replace hAmb := hAmb.st hS'
    replace hvr := hvr.st hS'
    replace hS := hS.trans hS'
    clear hS'
    refine svg hF rfl ?_
    refine sb hF (v_not rfl) rfl ?_ ?_
    · clear hF a; intro hc2 a hF
      try simp only [decide_eq_true_eq, decide_eq_false_iff_not, Bool.not_eq_true', Bool.not_eq_false', Bool.not_true, Bool.not_false] at hc2
      refine sv hF (v_pickF rfl rfl) rfl ?_; clear hF a; intro a hF
      refine sv hF (v_move rfl) rfl ?_; clear hF a; intro a hF
      refine svn hF rfl rfl rfl ?_; clear hF a; intro a hF
      refine svn hF rfl rfl rfl ?_; clear hF a; intro a hF
      refine svn hF rfl rfl rfl ?_; clear hF a; intro a hF
      refine sv hF (v_pickT rfl rfl) rfl ?_; clear hF a; intro a hF
      refine sv hF (v_move rfl) rfl ?_; clear hF a; intro a hF
      refine svn hF rfl rfl rfl ?_; clear hF a; intro a hF
      refine svn hF rfl rfl rfl ?_; clear hF a; intro a hF
      refine svn hF rfl rfl rfl ?_; clear hF a; intro a hF
      refine sv hF (v_pickT rfl rfl) rfl ?_; clear hF a; intro a hF
      refine sv hF (v_move rfl) rfl ?_; clear hF a; intro a hF
      refine svn hF rfl rfl rfl ?_; clear hF a; intro a hF
      refine svn hF rfl rfl rfl ?_; clear hF a; intro a hF
      refine svn hF rfl rfl rfl ?_; clear hF a; intro a hF
      refine sv hF (v_pickT rfl rfl) rfl ?_; clear hF a; intro a hF
      refine WL_nil (hK _ _ ?_)
      clear hK K
      replace hF := hF.sub _ (c_ 50 rfl (c_ 7 rfl (c_ 6 rfl (c_ 0 rfl (c_ 1 rfl (c_ 2 rfl (n_)))))))
      refine W_ifT hF rfl ?_
      refine W_sr rfl (fun K hK => ?_)
      refine sv hF (v_move rfl) rfl ?_; clear hF a; intro a hF
      refine sv hF (v_assign rfl) rfl ?_; clear hF a; intro a hF
      refine WL_nil (hK _ _ ?_)
      clear hK K
      replace hF := hF.sub _ (c_ 6 rfl (c_ 7 rfl (c_ 0 rfl (c_ 1 rfl (c_ 2 rfl (n_))))))
      refine W_ret ?_
      refine ⟨_, _, hF, rfl, ?_⟩
      exact ⟨rfl, hS⟩
    · clear hF a; intro hc2 a hF
      try simp only [decide_eq_true_eq, decide_eq_false_iff_not, Bool.not_eq_true', Bool.not_eq_false', Bool.not_true, Bool.not_false] at hc2
      refine sv hF (v_pickF rfl rfl) rfl ?_; clear hF a; intro a hF
      refine sv hF (v_move rfl) rfl ?_; clear hF a; intro a hF
      refine svg hF rfl ?_
      refine sv hF (v_move rfl) rfl ?_; clear hF a; intro a hF
      refine svg hF rfl ?_
      refine sv hF (v_lenS rfl sl22 rfl) rfl ?_; clear hF a; intro a hF
      refine svg hF rfl ?_
      refine sb hF (v_eql rfl rfl) rfl ?_ ?_
      · clear hF a; intro hc3 a hF
        try simp only [decide_eq_true_eq, decide_eq_false_iff_not, Bool.not_eq_true', Bool.not_eq_false', Bool.not_true, Bool.not_false] at hc3
        refine sv hF (v_pickF rfl rfl) rfl ?_; clear hF a; intro a hF
        refine sv hF (v_move rfl) rfl ?_; clear hF a; intro a hF
        refine svn hF rfl rfl rfl ?_; clear hF a; intro a hF
        refine svn hF rfl rfl rfl ?_; clear hF a; intro a hF
        refine svn hF rfl rfl rfl ?_; clear hF a; intro a hF
        refine sv hF (v_pickT rfl rfl) rfl ?_; clear hF a; intro a hF
        refine sv hF (v_move rfl) rfl ?_; clear hF a; intro a hF
        refine svn hF rfl rfl rfl ?_; clear hF a; intro a hF
        refine svn hF rfl rfl rfl ?_; clear hF a; intro a hF
        refine svn hF rfl rfl rfl ?_; clear hF a; intro a hF
        refine sv hF (v_pickT rfl rfl) rfl ?_; clear hF a; intro a hF
        refine WL_nil (hK _ _ ?_)
        clear hK K
        replace hF := hF.sub _ (c_ 50 rfl (c_ 7 rfl (c_ 6 rfl (c_ 0 rfl (c_ 1 rfl (c_ 2 rfl (n_)))))))
        refine W_ifT hF rfl ?_
        refine W_sr rfl (fun K hK => ?_)
        refine sv hF (v_move rfl) rfl ?_; clear hF a; intro a hF
        refine sv hF (v_assign rfl) rfl ?_; clear hF a; intro a hF
        refine WL_nil (hK _ _ ?_)
        clear hK K
        replace hF := hF.sub _ (c_ 6 rfl (c_ 7 rfl (c_ 0 rfl (c_ 1 rfl (c_ 2 rfl (n_))))))
        refine W_ret ?_
        refine ⟨_, _, hF, rfl, ?_⟩
        exact ⟨rfl, hS⟩
      · clear hF a; intro hc3 a hF
        try simp only [decide_eq_true_eq, decide_eq_false_iff_not, Bool.not_eq_true', Bool.not_eq_false', Bool.not_true, Bool.not_false] at hc3
        refine sv hF (v_pickF rfl rfl) rfl ?_; clear hF a; intro a hF
        refine sv hF (v_move rfl) rfl ?_; clear hF a; intro a hF
        refine svg hF rfl ?_
        refine sv hF (v_move rfl) rfl ?_; clear hF a; intro a hF
        refine svg hF rfl ?_
        refine sv hF (v_lenS rfl sl22 rfl) rfl ?_; clear hF a; intro a hF
        refine svg hF rfl ?_
        refine sb hF (v_gtr rfl rfl) rfl ?_ ?_
        · clear hF a; intro hc4 a hF
          try simp only [decide_eq_true_eq, decide_eq_false_iff_not, Bool.not_eq_true', Bool.not_eq_false', Bool.not_true, Bool.not_false] at hc4
          refine sv hF (v_pickF rfl rfl) rfl ?_; clear hF a; intro a hF
          refine sv hF (v_move rfl) rfl ?_; clear hF a; intro a hF
          refine svn hF rfl rfl rfl ?_; clear hF a; intro a hF
          refine svn hF rfl rfl rfl ?_; clear hF a; intro a hF
          refine svn hF rfl rfl rfl ?_; clear hF a; intro a hF
          refine sv hF (v_pickT rfl rfl) rfl ?_; clear hF a; intro a hF
          refine WL_nil (hK _ _ ?_)
          clear hK K
          replace hF := hF.sub _ (c_ 50 rfl (c_ 7 rfl (c_ 6 rfl (c_ 0 rfl (c_ 1 rfl (c_ 2 rfl (n_)))))))
          refine W_ifT hF rfl ?_
          refine W_sr rfl (fun K hK => ?_)
          refine sv hF (v_move rfl) rfl ?_; clear hF a; intro a hF
          refine sv hF (v_assign rfl) rfl ?_; clear hF a; intro a hF
          refine WL_nil (hK _ _ ?_)
          clear hK K
          replace hF := hF.sub _ (c_ 6 rfl (c_ 7 rfl (c_ 0 rfl (c_ 1 rfl (c_ 2 rfl (n_))))))
          refine W_ret ?_
          refine ⟨_, _, hF, rfl, ?_⟩
          exact ⟨rfl, hS⟩
        · clear hF a; intro hc4 a hF
          try simp only [decide_eq_true_eq, decide_eq_false_iff_not, Bool.not_eq_true', Bool.not_eq_false', Bool.not_true, Bool.not_false] at hc4
          refine sv hF (v_pickF rfl rfl) rfl ?_; clear hF a; intro a hF
          refine sv hF (v_move rfl) rfl ?_; clear hF a; intro a hF
          refine svg hF rfl ?_
          refine sv hF (v_move rfl) rfl ?_; clear hF a; intro a hF
          refine svg hF rfl ?_
          refine sv hF (v_lenS rfl sl51 rfl) rfl ?_; clear hF a; intro a hF
          refine svg hF rfl ?_
          refine sv hF (v_eql rfl rfl) rfl ?_; clear hF a; intro a hF
          refine sv hF (v_pickF rfl rfl) rfl ?_; clear hF a; intro a hF
          refine WL_nil (hK _ _ ?_)
          clear hK K
          replace hF := hF.sub _ (c_ 50 rfl (c_ 7 rfl (c_ 6 rfl (c_ 0 rfl (c_ 1 rfl (c_ 2 rfl (n_)))))))
          refine W_if hF rfl (fun hc5 => ?_) (fun hc5 => ?_)
          · skip
            try simp only [decide_eq_true_eq, decide_eq_false_iff_not, Bool.not_eq_true', Bool.not_eq_false', Bool.not_true, Bool.not_false] at hc5
            refine W_sr rfl (fun K hK => ?_)
            refine sv hF (v_move rfl) rfl ?_; clear hF a; intro a hF
            refine sv hF (v_assign rfl) rfl ?_; clear hF a; intro a hF
            refine WL_nil (hK _ _ ?_)
            clear hK K
            replace hF := hF.sub _ (c_ 6 rfl (c_ 7 rfl (c_ 0 rfl (c_ 1 rfl (c_ 2 rfl (n_))))))
            refine W_ret ?_
            refine ⟨_, _, hF, rfl, ?_⟩
            exact ⟨rfl, hS⟩
          · skip
            try simp only [decide_eq_true_eq, decide_eq_false_iff_not, Bool.not_eq_true', Bool.not_eq_false', Bool.not_true, Bool.not_false] at hc5
            refine W_skip ?_
            have hfma : fewM ma = true := by assumption
            have hfmb : fewM mb = true := by assumption
            have hvl20 : 1 ≤ v.length ∧ v.length ≤ 20 := by omega
            have hma0 : 1 ≤ ma.length := by omega
            have hma10 := (fewM_iff.1 hfma).1
            refine W_sr rfl (fun K hK => ?_)
            refine sc hF rfl rfl rfl en30 rfl (field4_ok B false _ hS.inv) ?_; clear hF a; intro v w' a hv hF
            obtain ⟨fv, rfl, hf, hS'⟩ := hv
            rw [show fq false = (8, 285) from rfl] at hf
            replace hAma := hAma.st hS'
            replace hAmb := hAmb.st hS'
            replace hvr := hvr.st hS'
            replace hS := hS.trans hS'
            clear hS'
            refine sv hF (v_move rfl) rfl ?_; clear hF a; intro a hF
            refine sv hF (v_ext rfl rfl) rfl ?_; clear hF a; intro a hF
            refine sv hF (v_ext rfl rfl) rfl ?_; clear hF a; intro a hF
            refine sv hF (v_ext rfl rfl) rfl ?_; clear hF a; intro a hF
            refine sv hF (v_assign rfl) rfl ?_; clear hF a; intro a hF
            refine sv hF (v_assign rfl) rfl ?_; clear hF a; intro a hF
            refine sv hF (v_assign rfl) rfl ?_; clear hF a; intro a hF
            refine WL_nil (hK _ _ ?_)
            clear hK K
            replace hF := hF.sub _ (c_ 8 rfl (c_ 7 rfl (c_ 6 rfl (c_ 0 rfl (c_ 1 rfl (c_ 2 rfl (n_)))))))
            refine W_sr rfl (fun K hK => ?_)
            refine sv hF (v_assign rfl) rfl ?_; clear hF a; intro a hF
            refine WL_nil (hK _ _ ?_)
            clear hK K
            refine W_seq ?_
            refine W_sr rfl (fun K hK => ?_)
            refine sv hF (v_assign rfl) rfl ?_; clear hF a; intro a hF
            refine WL_nil (hK _ _ ?_)
            clear hK K
            refine W_block ?_
            refine W_loop (fun m a w1 => ∃ (i : Nat) (v11 : Value) (b11 : Option Nat), Fr 161 [(0, .slice pma ma.length cma), (1, .slice pmb mb.length cmb), (2, .slice pv v.length cv), (7, .bool true), (8, fv), (11, v11), (12, .int .i64 (i : Int))] a ∧ (St FDx B w w1) ∧ (Mat FDx B M w1 pma cma ma) ∧ (Mat FDx B M w1 pmb cmb mb) ∧ (Row FDx B M w1 (.slice pv v.length cv) (byt v)) ∧ (Fo FDx B w1 fv (some (8, 285))) ∧ (Gam.Own FDx B w.heap.size w1 FDx.E v11 b11 (zints (zmods v ma.length i))) ∧ (i ≤ v.length) ∧ (m + i = v.length)) (v.length) ?_ ?_
            · skip
              exact ⟨0, _, none, hF.sub _ (c_ 0 rfl (c_ 1 rfl (c_ 2 rfl (c_ 7 rfl (c_ 8 rfl (c_ 11 rfl (c_ 12 rfl (n_)))))))), hS, hAma, hAmb, hvr, hf, Gam.Own.nil _ _ _ _ _, by omega, by omega⟩
            · skip
              clear hF
              clear hS hAma hAmb hvr hf
              rintro m a w1 ⟨i, v11, b11, hF, hS, hAma, hAmb, hvr, hf, hO, hi, hm⟩
              refine W_seq ?_
              refine W_sr rfl (fun K hK => ?_)
              refine sv hF (v_move rfl) rfl ?_; clear hF a; intro a hF
              refine sv hF (v_move rfl) rfl ?_; clear hF a; intro a hF
              refine sv hF (v_lenS rfl sl22 rfl) rfl ?_; clear hF a; intro a hF
              refine sv hF (v_lss rfl rfl) rfl ?_; clear hF a; intro a hF
              refine WL_nil (hK _ _ ?_)
              clear hK K
              replace hF := hF.sub _ (c_ 60 rfl (c_ 0 rfl (c_ 1 rfl (c_ 2 rfl (c_ 7 rfl (c_ 8 rfl (c_ 11 rfl (c_ 12 rfl (n_)))))))))
              refine W_if hF rfl (fun hc6 => ?_) (fun hc6 => ?_)
              · skip
                try simp only [decide_eq_true_eq, decide_eq_false_iff_not, Bool.not_eq_true', Bool.not_eq_false', Bool.not_true, Bool.not_false] at hc6
                have hlt : i < v.length := by omega
                obtain ⟨x, hx0⟩ : ∃ x, v[i]? = some x := ⟨_, List.getElem?_eq_getElem hlt⟩
                have hx8 := hv8 x (List.mem_of_getElem? hx0)
                obtain ⟨-, gv, ov, hgv, -⟩ := hvr.at (byt_at hx0)
                subst hgv
                have hzl : (zints (zmods v ma.length i)).length = i := by rw [zints_length]; simp [zmods]; omega
                refine W_skip ?_
                refine W_seq ?_
                refine W_block ?_
                refine W_reg rfl (fun K hK => ?_)
                refine sv hF (v_move rfl) rfl ?_; clear hF a; intro a hF
                refine sv hF (v_move rfl) rfl ?_; clear hF a; intro a hF
                refine sv hF (v_move rfl) rfl ?_; clear hF a; intro a hF
                refine sv hF (v_ixS sl22 rfl rfl (by omega) (by omega)) rfl ?_; clear hF a; intro a hF
                refine sv hF (v_load sc5 rfl (by rw [toNat_c]; exact hvr.ldx (Ext.refl _ _ _) (byt_at hx0))) rfl ?_; clear hF a; intro a hF
                refine sv hF (v_cv Try.underlying5 Try.underlying3 rfl (wrap_i64 _ (by omega))) rfl ?_; clear hF a; intro a hF
                refine sv hF (v_move rfl) rfl ?_; clear hF a; intro a hF
                refine sv hF (v_lenS rfl sl51 rfl) rfl ?_; clear hF a; intro a hF
                refine sv hF (v_remI rfl rfl (by omega) (by omega)) rfl ?_; clear hF a; intro a hF
                refine s_bs (D := FDx) (B := B) hF sl23 rfl rfl (by decide) (by simp [Value.cells]) (by decide) hS.inv rfl ?_; clear hF a; intro w' a hm hI' hb hF
                replace hAma := hAma.mb hm (fun _ h => by cases h)
                replace hAmb := hAmb.mb hm (fun _ h => by cases h)
                replace hvr := hvr.mb hm (fun _ h => by cases h)
                replace hf := hf.mb hm
                replace hO := hO.mb hm (fun _ _ => by simp)
                replace hS := hS.mb0 hm
                clear hm hI'
                refine s_app (D := FDx) (B := B) hF rfl sl23 rfl rfl hO (hb.row (by decide)) (by simp [Value.oneCell']) (by rw [hzl]; simp; omega) (by rw [hzl]; simp [maxLen]; omega) (hS.ext.size) (by decide) hS.inv rfl ?_; clear hF a; intro v' b' w' a ho' hm hI' hb' hF
                replace hAma := hAma.mb hm (fun k h => Nat.le_trans (hM) (hO.lt k h).1)
                replace hAmb := hAmb.mb hm (fun k h => Nat.le_trans (hM) (hO.lt k h).1)
                replace hvr := hvr.mb hm (fun k h => Nat.le_trans (hM) (hO.lt k h).1)
                replace hf := hf.mb hm
                replace hS := hS.mb hm (fun k h => Nat.le_trans (Nat.le_refl _) (hO.lt k h).1)
                replace hO := ho'
                clear hm hI' ho' hb
                refine sv hF (v_assign rfl) rfl ?_; clear hF a; intro a hF
                refine WL_nil (hK _ _ ?_)
                clear hK K
                replace hF := hF.sub _ (c_ 11 rfl (c_ 0 rfl (c_ 1 rfl (c_ 2 rfl (c_ 7 rfl (c_ 8 rfl (c_ 12 rfl (n_))))))))
                refine W_reg rfl (fun K hK => ?_)
                refine sv hF (v_move rfl) rfl ?_; clear hF a; intro a hF
                refine sv hF (v_addI rfl rfl (by omega)) rfl ?_; clear hF a; intro a hF
                refine sv hF (v_assign rfl) rfl ?_; clear hF a; intro a hF
                refine WL_nil (hK _ _ ?_)
                clear hK K
                exact ⟨m - 1, by omega, i + 1, _, _, hF.sub _ (c_ 0 rfl (c_ 1 rfl (c_ 2 rfl (c_ 7 rfl (c_ 8 rfl (c_ 11 rfl (c_ 12 rfl (n_)))))))), hS, hAma, hAmb, hvr, hf, hO.cast (by rw [zmods_snoc hx0]; simp [zints]), by omega, by omega⟩
              · skip
                try simp only [decide_eq_true_eq, decide_eq_false_iff_not, Bool.not_eq_true', Bool.not_eq_false', Bool.not_true, Bool.not_false] at hc6
                obtain rfl : i = v.length := by omega
                obtain ⟨s11, c11, rfl⟩ := hO.shape
                have hL := hO.row (by decide)
                rw [zints_length] at hL hF
                clear hO hvr
                replace hAma := hAma.mono (show M ≤ w1.heap.size from (Nat.le_trans hM hS.ext.size))
                replace hAmb := hAmb.mono (show M ≤ w1.heap.size from (Nat.le_trans hM hS.ext.size))
                have hzl : (zmods v ma.length v.length).length = v.length := by simp [zmods]
                have hzb : ∀ z ∈ zmods v ma.length v.length, 0 ≤ z ∧ z < (ma.length : Int) := zmods_lt hma0
                refine W_exit rfl ?_
                refine W_sr rfl (fun K hK => ?_)
                refine sv hF (v_move rfl) rfl ?_; clear hF a; intro a hF
                refine sv hF (v_move rfl) rfl ?_; clear hF a; intro a hF
                refine sv hF (v_move rfl) rfl ?_; clear hF a; intro a hF
                refine sc hF rfl rfl rfl en31 rfl (MulM_ok B _ (some (8, 285)) fv _ _ ma _ _ mb _ hS.inv (Nat.le_refl _) hf hAma (And.intro hlma hbma).1 (And.intro hlma hbma).2 hAmb (And.intro hlmb hbmb).1 (And.intro hlmb hbmb).2) ?_; clear hF a; intro v w' a hv hF
                obtain ⟨obX, uX, rfl, hoX, hS'⟩ := hv
                obtain ⟨sX, cX, rfl, hX⟩ := hoX.mat (by decide) (Nat.zero_le _)
                clear hoX
                replace hAma := (hAma.st hS').mono hS'.ext.size
                replace hAmb := (hAmb.st hS').mono hS'.ext.size
                replace hL := (hL.st hS').mono hS'.ext.size
                replace hf := hf.st hS'
                replace hS := hS.trans hS'
                clear hS'
                refine sv hF (v_move rfl) rfl ?_; clear hF a; intro a hF
                refine sv hF (v_ext rfl rfl) rfl ?_; clear hF a; intro a hF
                refine sv hF (v_ext rfl rfl) rfl ?_; clear hF a; intro a hF
                refine sv hF (v_assign rfl) rfl ?_; clear hF a; intro a hF
                refine sv hF (v_assign rfl) rfl ?_; clear hF a; intro a hF
                refine WL_nil (hK _ _ ?_)
                clear hK K
                replace hF := hF.sub _ (c_ 14 rfl (c_ 13 rfl (c_ 80 rfl (c_ 79 rfl (c_ 74 rfl (c_ 78 rfl (c_ 77 rfl (c_ 76 rfl (c_ 75 rfl (c_ 0 rfl (c_ 1 rfl (c_ 2 rfl (c_ 7 rfl (c_ 8 rfl (c_ 11 rfl (c_ 12 rfl (n_)))))))))))))))))
                refine W_seq ?_
                refine W_sr rfl (fun K hK => ?_)
                refine sv hF (v_move rfl) rfl ?_; clear hF a; intro a hF
                refine sv hF (v_neq rfl rfl) rfl ?_; clear hF a; intro a hF
                refine WL_nil (hK _ _ ?_)
                clear hK K
                refine W_if hF rfl (fun hc7 => ?_) (fun hc7 => ?_)
                · skip
                  try simp only [decide_eq_true_eq, decide_eq_false_iff_not, Bool.not_eq_true', Bool.not_eq_false', Bool.not_true, Bool.not_false] at hc7
                  refine W_sr rfl (fun K hK => ?_)
                  refine sv hF (v_move rfl) rfl ?_; clear hF a; intro a hF
                  refine sv hF (v_assign rfl) rfl ?_; clear hF a; intro a hF
                  refine WL_nil (hK _ _ ?_)
                  clear hK K
                  refine W_ret ?_
                  refine ⟨_, _, hF, rfl, ?_⟩
                  exact ⟨rfl, hS⟩
                · skip
                  try simp only [decide_eq_true_eq, decide_eq_false_iff_not, Bool.not_eq_true', Bool.not_eq_false', Bool.not_true, Bool.not_false] at hc7
                  refine W_skip ?_
                  obtain ⟨x, hx⟩ := errV_eq (Decidable.of_not_not hc7)
                  have hxl := len20 (mulM_lens (some (8, 285)) ma mb)
                  rw [hx] at hX hF hxl
                  simp only [Option.getD_some] at hX hF hxl
                  obtain ⟨s, q, hq, hs, hsq⟩ := pick_mul prm_285 hx (show 1 ≤ (zmods v ma.length v.length).length ∧ _ by omega) hzb
                  obtain ⟨y, hd, hy, hz⟩ := join_mul prm_285 hx hma10
                  have hql := pickM_lens (some (8, 285)) x (zmods v ma.length v.length)
                  rw [hq] at hql
                  have hsl := len20 (pickM_lens (some (8, 285)) ma (zmods v ma.length v.length))
                  rw [hs] at hsl
                  have hdl := len20 (joinM_lens (some (8, 285)) ma ma)
                  rw [hd] at hdl
                  have hyl := mulM_lens (some (8, 285)) (ma ++ ma) mb
                  rw [hy] at hyl
                  simp only [Option.getD_some] at hql hsl hdl hyl
                  refine W_sr rfl (fun K hK => ?_)
                  refine sv hF (v_move rfl) rfl ?_; clear hF a; intro a hF
                  refine sv hF (v_move rfl) rfl ?_; clear hF a; intro a hF
                  refine sv hF (v_move rfl) rfl ?_; clear hF a; intro a hF
                  refine sc hF rfl rfl rfl en46 rfl (Pick_ok B _ (some (8, 285)) fv _ _ x _ _ (zmods v ma.length v.length) _ hS.inv (Nat.le_refl _) hf hX (hxl).1 (hxl).2 hL (Nat.le_trans (show _ ≤ 1000 by omega) (by decide))) ?_; clear hF a; intro v w' a hv hF
                  obtain ⟨obP, uP, rfl, hoP, hS'⟩ := hv
                  rw [hq] at hoP hF
                  try simp only [Option.getD_some, Option.getD_none] at hoP
                  obtain ⟨sP, cP, rfl, hP⟩ := hoP.mat (by decide) (Nat.zero_le _)
                  clear hoP
                  replace hAma := (hAma.st hS').mono hS'.ext.size
                  replace hAmb := (hAmb.st hS').mono hS'.ext.size
                  replace hL := (hL.st hS').mono hS'.ext.size
                  replace hf := hf.st hS'
                  replace hX := (hX.st hS').mono hS'.ext.size
                  replace hS := hS.trans hS'
                  clear hS'
                  refine sv hF (v_move rfl) rfl ?_; clear hF a; intro a hF
                  refine sv hF (v_ext rfl rfl) rfl ?_; clear hF a; intro a hF
                  refine sv hF (v_ext rfl rfl) rfl ?_; clear hF a; intro a hF
                  refine sv hF (v_assign rfl) rfl ?_; clear hF a; intro a hF
                  refine sv hF (v_assign rfl) rfl ?_; clear hF a; intro a hF
                  refine WL_nil (hK _ _ ?_)
                  clear hK K
                  refine W_sr rfl (fun K hK => ?_)
                  refine sv hF (v_move rfl) rfl ?_; clear hF a; intro a hF
                  refine sv hF (v_move rfl) rfl ?_; clear hF a; intro a hF
                  refine sv hF (v_move rfl) rfl ?_; clear hF a; intro a hF
                  refine sc hF rfl rfl rfl en46 rfl (Pick_ok B _ (some (8, 285)) fv _ _ ma _ _ (zmods v ma.length v.length) _ hS.inv (Nat.le_refl _) hf hAma (And.intro hlma hbma).1 (And.intro hlma hbma).2 hL (Nat.le_trans (show _ ≤ 1000 by omega) (by decide))) ?_; clear hF a; intro v w' a hv hF
                  obtain ⟨obT, uT, rfl, hoT, hS'⟩ := hv
                  rw [hs] at hoT hF
                  try simp only [Option.getD_some, Option.getD_none] at hoT
                  obtain ⟨sT, cT, rfl, hT⟩ := hoT.mat (by decide) (Nat.zero_le _)
                  clear hoT
                  replace hAma := (hAma.st hS').mono hS'.ext.size
                  replace hAmb := (hAmb.st hS').mono hS'.ext.size
                  replace hL := (hL.st hS').mono hS'.ext.size
                  replace hf := hf.st hS'
                  replace hX := (hX.st hS').mono hS'.ext.size
                  replace hP := (hP.st hS').mono hS'.ext.size
                  replace hS := hS.trans hS'
                  clear hS'
                  refine sv hF (v_move rfl) rfl ?_; clear hF a; intro a hF
                  refine sv hF (v_ext rfl rfl) rfl ?_; clear hF a; intro a hF
                  refine sv hF (v_ext rfl rfl) rfl ?_; clear hF a; intro a hF
                  refine sv hF (v_assign rfl) rfl ?_; clear hF a; intro a hF
                  refine sv hF (v_assign rfl) rfl ?_; clear hF a; intro a hF
                  refine WL_nil (hK _ _ ?_)
                  clear hK K
                  replace hF := hF.sub _ (c_ 17 rfl (c_ 97 rfl (c_ 96 rfl (c_ 91 rfl (c_ 95 rfl (c_ 94 rfl (c_ 93 rfl (c_ 92 rfl (c_ 16 rfl (c_ 15 rfl (c_ 90 rfl (c_ 89 rfl (c_ 84 rfl (c_ 88 rfl (c_ 87 rfl (c_ 86 rfl (c_ 85 rfl (c_ 82 rfl (c_ 81 rfl (c_ 14 rfl (c_ 13 rfl (c_ 80 rfl (c_ 79 rfl (c_ 74 rfl (c_ 78 rfl (c_ 77 rfl (c_ 76 rfl (c_ 75 rfl (c_ 0 rfl (c_ 1 rfl (c_ 2 rfl (c_ 7 rfl (c_ 8 rfl (c_ 11 rfl (c_ 12 rfl (n_))))))))))))))))))))))))))))))))))))
                  refine W_sr rfl (fun K hK => ?_)
                  refine sv hF (v_move rfl) rfl ?_; clear hF a; intro a hF
                  refine sv hF (v_move rfl) rfl ?_; clear hF a; intro a hF
                  refine sv hF (v_move rfl) rfl ?_; clear hF a; intro a hF
                  refine sc hF rfl rfl rfl en31 rfl (MulM_ok B _ (some (8, 285)) fv _ _ s _ _ mb _ hS.inv (Nat.le_refl _) hf hT (hsl).1 (hsl).2 hAmb (And.intro hlmb hbmb).1 (And.intro hlmb hbmb).2) ?_; clear hF a; intro v w' a hv hF
                  obtain ⟨obQ, uQ, rfl, hoQ, hS'⟩ := hv
                  rw [hsq] at hoQ hF
                  try simp only [Option.getD_some, Option.getD_none] at hoQ
                  obtain ⟨sQ, cQ, rfl, hQ⟩ := hoQ.mat (by decide) (Nat.zero_le _)
                  clear hoQ
                  replace hAma := (hAma.st hS').mono hS'.ext.size
                  replace hAmb := (hAmb.st hS').mono hS'.ext.size
                  replace hL := (hL.st hS').mono hS'.ext.size
                  replace hf := hf.st hS'
                  replace hX := (hX.st hS').mono hS'.ext.size
                  replace hP := (hP.st hS').mono hS'.ext.size
                  replace hT := (hT.st hS').mono hS'.ext.size
                  replace hS := hS.trans hS'
                  clear hS'
                  refine sv hF (v_move rfl) rfl ?_; clear hF a; intro a hF
                  refine sv hF (v_ext rfl rfl) rfl ?_; clear hF a; intro a hF
                  refine sv hF (v_ext rfl rfl) rfl ?_; clear hF a; intro a hF
                  refine sv hF (v_assign rfl) rfl ?_; clear hF a; intro a hF
                  refine sv hF (v_assign rfl) rfl ?_; clear hF a; intro a hF
                  refine WL_nil (hK _ _ ?_)
                  clear hK K
                  refine W_seq ?_
                  refine W_sr rfl (fun K hK => ?_)
                  refine sv hF (v_move rfl) rfl ?_; clear hF a; intro a hF
                  refine sv hF (v_lenS rfl sl51 rfl) rfl ?_; clear hF a; intro a hF
                  refine sv hF ((v_leq rfl rfl).as (congrArg Value.bool (decide_eq_true (by omega)))) rfl ?_; clear hF a; intro a hF
                  refine sv hF (v_move rfl) rfl ?_; clear hF a; intro a hF
                  refine svg hF rfl ?_
                  refine sv hF (v_move rfl) rfl ?_; clear hF a; intro a hF
                  refine svg hF rfl ?_
                  refine sv hF ((v_eql rfl rfl).as (congrArg Value.bool (decide_eq_true (rfl)))) rfl ?_; clear hF a; intro a hF
                  refine sv hF (v_pickT rfl rfl) rfl ?_; clear hF a; intro a hF
                  refine sv hF (v_move rfl) rfl ?_; clear hF a; intro a hF
                  refine svg hF rfl ?_
                  refine sv hF (v_move rfl) rfl ?_; clear hF a; intro a hF
                  refine svg hF rfl ?_
                  refine sv hF ((v_eql rfl rfl).as (congrArg Value.bool (decide_eq_true (rfl)))) rfl ?_; clear hF a; intro a hF
                  refine sv hF (v_pickT rfl rfl) rfl ?_; clear hF a; intro a hF
                  refine sv hF (v_move rfl) rfl ?_; clear hF a; intro a hF
                  refine svg hF rfl ?_
                  refine sv hF (v_move rfl) rfl ?_; clear hF a; intro a hF
                  refine svg hF rfl ?_
                  refine sv hF (v_move rfl) rfl ?_; clear hF a; intro a hF
                  refine svg hF rfl ?_
                  refine sc hF rfl rfl rfl en33 rfl (Same4_t B _ _ _ q _ _ q _ hS.inv hP hQ (len1k hql).1 (len1k hql).2 rfl) ?_; clear hF a; intro v w' a hv hF
                  obtain ⟨rfl, hS'⟩ := hv
                  replace hAma := (hAma.st hS').mono hS'.ext.size
                  replace hAmb := (hAmb.st hS').mono hS'.ext.size
                  replace hL := (hL.st hS').mono hS'.ext.size
                  replace hf := hf.st hS'
                  replace hX := (hX.st hS').mono hS'.ext.size
                  replace hP := (hP.st hS').mono hS'.ext.size
                  replace hT := (hT.st hS').mono hS'.ext.size
                  replace hQ := (hQ.st hS').mono hS'.ext.size
                  replace hS := hS.trans hS'
                  clear hS'
                  refine sv hF (v_pickT rfl rfl) rfl ?_; clear hF a; intro a hF
                  refine sv hF (v_not rfl) rfl ?_; clear hF a; intro a hF
                  refine WL_nil (hK _ _ ?_)
                  clear hK K
                  refine W_ifF hF rfl ?_
                  refine W_skip ?_
                  refine W_sr rfl (fun K hK => ?_)
                  refine sv hF (v_move rfl) rfl ?_; clear hF a; intro a hF
                  refine sv hF (v_move rfl) rfl ?_; clear hF a; intro a hF
                  refine sv hF (v_move rfl) rfl ?_; clear hF a; intro a hF
                  refine sc hF rfl rfl rfl en48 rfl (Join_ok B _ (some (8, 285)) fv _ _ ma _ _ ma _ hS.inv (Nat.le_refl _) hf hAma (And.intro hlma hbma).1 (And.intro hlma hbma).2 hAma (And.intro hlma hbma).1 (And.intro hlma hbma).2) ?_; clear hF a; intro v w' a hv hF
                  obtain ⟨obD, uD, rfl, hoD, hS'⟩ := hv
                  rw [hd] at hoD hF
                  try simp only [Option.getD_some, Option.getD_none] at hoD
                  obtain ⟨sD, cD, rfl, hD⟩ := hoD.mat (by decide) (Nat.zero_le _)
                  clear hoD
                  replace hAma := (hAma.st hS').mono hS'.ext.size
                  replace hAmb := (hAmb.st hS').mono hS'.ext.size
                  replace hL := (hL.st hS').mono hS'.ext.size
                  replace hf := hf.st hS'
                  replace hX := (hX.st hS').mono hS'.ext.size
                  replace hP := (hP.st hS').mono hS'.ext.size
                  replace hT := (hT.st hS').mono hS'.ext.size
                  replace hQ := (hQ.st hS').mono hS'.ext.size
                  replace hS := hS.trans hS'
                  clear hS'
                  refine sv hF (v_move rfl) rfl ?_; clear hF a; intro a hF
                  refine sv hF (v_ext rfl rfl) rfl ?_; clear hF a; intro a hF
                  refine sv hF (v_ext rfl rfl) rfl ?_; clear hF a; intro a hF
                  refine sv hF (v_assign rfl) rfl ?_; clear hF a; intro a hF
                  refine sv hF (v_assign rfl) rfl ?_; clear hF a; intro a hF
                  refine WL_nil (hK _ _ ?_)
                  clear hK K
                  refine W_sr rfl (fun K hK => ?_)
                  refine sv hF (v_move rfl) rfl ?_; clear hF a; intro a hF
                  refine sv hF (v_move rfl) rfl ?_; clear hF a; intro a hF
                  refine sv hF (v_move rfl) rfl ?_; clear hF a; intro a hF
                  refine sc hF rfl rfl rfl en31 rfl (MulM_ok B _ (some (8, 285)) fv _ _ (ma ++ ma) _ _ mb _ hS.inv (Nat.le_refl _) hf hD (hdl).1 (hdl).2 hAmb (And.intro hlmb hbmb).1 (And.intro hlmb hbmb).2) ?_; clear hF a; intro v w' a hv hF
                  obtain ⟨obY, uY, rfl, hoY, hS'⟩ := hv
                  rw [hy] at hoY hF
                  try simp only [Option.getD_some, Option.getD_none] at hoY
                  obtain ⟨sY, cY, rfl, hY⟩ := hoY.mat (by decide) (Nat.zero_le _)
                  clear hoY
                  replace hAma := (hAma.st hS').mono hS'.ext.size
                  replace hAmb := (hAmb.st hS').mono hS'.ext.size
                  replace hL := (hL.st hS').mono hS'.ext.size
                  replace hf := hf.st hS'
                  replace hX := (hX.st hS').mono hS'.ext.size
                  replace hP := (hP.st hS').mono hS'.ext.size
                  replace hT := (hT.st hS').mono hS'.ext.size
                  replace hQ := (hQ.st hS').mono hS'.ext.size
                  replace hD := (hD.st hS').mono hS'.ext.size
                  replace hS := hS.trans hS'
                  clear hS'
                  refine sv hF (v_move rfl) rfl ?_; clear hF a; intro a hF
                  refine sv hF (v_ext rfl rfl) rfl ?_; clear hF a; intro a hF
                  refine sv hF (v_ext rfl rfl) rfl ?_; clear hF a; intro a hF
                  refine sv hF (v_assign rfl) rfl ?_; clear hF a; intro a hF
                  refine sv hF (v_assign rfl) rfl ?_; clear hF a; intro a hF
                  refine WL_nil (hK _ _ ?_)
                  clear hK K
                  refine W_sr rfl (fun K hK => ?_)
                  refine sv hF (v_move rfl) rfl ?_; clear hF a; intro a hF
                  refine sv hF (v_move rfl) rfl ?_; clear hF a; intro a hF
                  refine sv hF (v_move rfl) rfl ?_; clear hF a; intro a hF
                  refine sc hF rfl rfl rfl en48 rfl (Join_ok B _ (some (8, 285)) fv _ _ x _ _ x _ hS.inv (Nat.le_refl _) hf hX (hxl).1 (hxl).2 hX (hxl).1 (hxl).2) ?_; clear hF a; intro v w' a hv hF
                  obtain ⟨obZ, uZ, rfl, hoZ, hS'⟩ := hv
                  rw [hz] at hoZ hF
                  try simp only [Option.getD_some, Option.getD_none] at hoZ
                  obtain ⟨sZ, cZ, rfl, hZ⟩ := hoZ.mat (by decide) (Nat.zero_le _)
                  clear hoZ
                  replace hAma := (hAma.st hS').mono hS'.ext.size
                  replace hAmb := (hAmb.st hS').mono hS'.ext.size
                  replace hL := (hL.st hS').mono hS'.ext.size
                  replace hf := hf.st hS'
                  replace hX := (hX.st hS').mono hS'.ext.size
                  replace hP := (hP.st hS').mono hS'.ext.size
                  replace hT := (hT.st hS').mono hS'.ext.size
                  replace hQ := (hQ.st hS').mono hS'.ext.size
                  replace hD := (hD.st hS').mono hS'.ext.size
                  replace hY := (hY.st hS').mono hS'.ext.size
                  replace hS := hS.trans hS'
                  clear hS'
                  refine sv hF (v_move rfl) rfl ?_; clear hF a; intro a hF
                  refine sv hF (v_ext rfl rfl) rfl ?_; clear hF a; intro a hF
                  refine sv hF (v_ext rfl rfl) rfl ?_; clear hF a; intro a hF
                  refine sv hF (v_assign rfl) rfl ?_; clear hF a; intro a hF
                  refine sv hF (v_assign rfl) rfl ?_; clear hF a; intro a hF
                  refine WL_nil (hK _ _ ?_)
                  clear hK K
                  refine W_sr rfl (fun K hK => ?_)
                  refine sv hF (v_move rfl) rfl ?_; clear hF a; intro a hF
                  refine sv hF (v_move rfl) rfl ?_; clear hF a; intro a hF
                  refine svg hF rfl ?_
                  refine sv hF (v_move rfl) rfl ?_; clear hF a; intro a hF
                  refine svg hF rfl ?_
                  refine sv hF ((v_eql rfl rfl).as (congrArg Value.bool (decide_eq_true (rfl)))) rfl ?_; clear hF a; intro a hF
                  refine sv hF (v_pickT rfl rfl) rfl ?_; clear hF a; intro a hF
                  refine sv hF (v_move rfl) rfl ?_; clear hF a; intro a hF
                  refine svg hF rfl ?_
                  refine sv hF (v_move rfl) rfl ?_; clear hF a; intro a hF
                  refine svg hF rfl ?_
                  refine sv hF ((v_eql rfl rfl).as (congrArg Value.bool (decide_eq_true (rfl)))) rfl ?_; clear hF a; intro a hF
                  refine sv hF (v_pickT rfl rfl) rfl ?_; clear hF a; intro a hF
                  refine sv hF (v_move rfl) rfl ?_; clear hF a; intro a hF
                  refine svg hF rfl ?_
                  refine sv hF (v_move rfl) rfl ?_; clear hF a; intro a hF
                  refine svg hF rfl ?_
                  refine sv hF ((v_eql rfl rfl).as (congrArg Value.bool (decide_eq_true (rfl)))) rfl ?_; clear hF a; intro a hF
                  refine sv hF (v_pickT rfl rfl) rfl ?_; clear hF a; intro a hF
                  refine sv hF (v_move rfl) rfl ?_; clear hF a; intro a hF
                  refine svg hF rfl ?_
                  refine sv hF (v_move rfl) rfl ?_; clear hF a; intro a hF
                  refine svg hF rfl ?_
                  refine sv hF (v_move rfl) rfl ?_; clear hF a; intro a hF
                  refine svg hF rfl ?_
                  refine sc hF rfl rfl rfl en33 rfl (Same4_t B _ _ _ y _ _ y _ hS.inv hY hZ (len1k hyl).1 (len1k hyl).2 rfl) ?_; clear hF a; intro v w' a hv hF
                  obtain ⟨rfl, hS'⟩ := hv
                  replace hAma := (hAma.st hS').mono hS'.ext.size
                  replace hAmb := (hAmb.st hS').mono hS'.ext.size
                  replace hL := (hL.st hS').mono hS'.ext.size
                  replace hf := hf.st hS'
                  replace hX := (hX.st hS').mono hS'.ext.size
                  replace hP := (hP.st hS').mono hS'.ext.size
                  replace hT := (hT.st hS').mono hS'.ext.size
                  replace hQ := (hQ.st hS').mono hS'.ext.size
                  replace hD := (hD.st hS').mono hS'.ext.size
                  replace hY := (hY.st hS').mono hS'.ext.size
                  replace hZ := (hZ.st hS').mono hS'.ext.size
                  replace hS := hS.trans hS'
                  clear hS'
                  refine sv hF (v_pickT rfl rfl) rfl ?_; clear hF a; intro a hF
                  refine sv hF (v_assign rfl) rfl ?_; clear hF a; intro a hF
                  refine WL_nil (hK _ _ ?_)
                  clear hK K
                  refine W_ret ?_
                  refine ⟨_, _, hF, rfl, ?_⟩
                  exact ⟨rfl, hS⟩

end Go.Proofs.Ytlkifpmlpnaaoaa
