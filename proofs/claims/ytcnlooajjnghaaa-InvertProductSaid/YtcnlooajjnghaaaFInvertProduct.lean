/- The statement InvertProduct, walked: it returns true. -/
import Derived.Test.YtcnlooajjnghaaaFAw05
set_option linter.unusedVariables false
set_option linter.unusedSimpArgs false
namespace Go.Proofs.Ytcnlooajjnghaaa
open Go Go.Gam


namespace FxFInvertProduct
theorem en13 : Ent Try.prog 13 := ent Try.func13 (by kernel_rfl) (by kernel_rfl)
theorem en14 : Ent Try.prog 14 := ent Try.func14 (by kernel_rfl) (by kernel_rfl)
theorem en16 : Ent Try.prog 16 := ent Try.func16 (by kernel_rfl) (by kernel_rfl)
theorem en18 : Ent Try.prog 18 := ent Try.func18 (by kernel_rfl) (by kernel_rfl)
theorem en23 : Ent Try.prog 23 := ent Try.func23 (by kernel_rfl) (by kernel_rfl)
theorem en24 : Ent Try.prog 24 := ent Try.func24 (by kernel_rfl) (by kernel_rfl)
theorem sc28 : Scalar Try.prog 28 := ⟨_, Try.underlying28, by simp, by simp⟩
theorem sl28 : Sl Try.prog 28 3 (.int .i64 0) 8 := sl_of Try.underlying28 rfl (by kernel_rfl)
theorem sl29 : Sl Try.prog 29 28 (.slice none 0 0) 24 := sl_of Try.underlying29 rfl (by kernel_rfl)
end FxFInvertProduct
open FxFInvertProduct

set_option maxRecDepth 100000 in
set_option maxHeartbeats 1000000 in
theorem InvertProduct_ok (B M : Nat) (pma : Option Addr) (cma : Nat) (ma : Mtx) (pmb : Option Addr) (cmb : Nat) (mb : Mtx) (w : World) (hI : Inv FDx B w) (hM : M ≤ w.heap.size) (hAma : Mat FDx B M w pma cma ma) (hlma : ma.length ≤ maxLen) (hbma : ∀ r ∈ ma, r.length ≤ maxLen) (hAmb : Mat FDx B M w pmb cmb mb) (hlmb : mb.length ≤ maxLen) (hbmb : ∀ r ∈ mb, r.length ≤ maxLen) : Ret Try.prog 6 [.slice pma ma.length cma, .slice pmb mb.length cmb] w fun v w' => v = .bool true ∧ St FDx B w w' := by
  refine enter 112 [(0, .slice pma ma.length cma), (1, .slice pmb mb.length cmb)] 4 Try.func6 rfl rfl rfl rfl rfl ?_; intro a hF
  have hS := St.refl hI
  replace hAma := hAma.mono hM
  replace hAmb := hAmb.mono hM
  refine W_sr rfl (fun K hK => ?_)
  refine sv hF (v_assign rfl) rfl ?_; clear hF a; intro a hF
  refine WL_nil (hK _ _ ?_)
  clear hK K
  refine W_sr rfl (fun K hK => ?_)
  refine sc hF rfl rfl rfl en13 rfl (aw05_ok B _ hS.inv) ?_; clear hF a; intro v w' a hv hF
  obtain ⟨rfl, hS'⟩ := hv
  replace hAma := (hAma.st hS').mono hS'.ext.size
  replace hAmb := (hAmb.st hS').mono hS'.ext.size
  replace hS := hS.trans hS'
  clear hS'
  refine sv hF (v_assign rfl) rfl ?_; clear hF a; intro a hF
  refine WL_nil (hK _ _ ?_)
  clear hK K
  replace hF := hF.sub _ (c_ 5 rfl (c_ 4 rfl (c_ 0 rfl (c_ 1 rfl (n_)))))
  refine W_seq ?_
  refine W_sr rfl (fun K hK => ?_)
  refine sv hF (v_move rfl) rfl ?_; clear hF a; intro a hF
  refine sc hF rfl rfl rfl en18 rfl (Few04_ok B _ _ _ ma _ hAma hlma hbma) ?_; clear hF a; intro v w' a hv hF
  obtain ⟨rfl, hw⟩ := hv
  obtain rfl := hw.symm
  have hS' := St.refl hS.inv
  replace hAma := (hAma.st hS').mono hS'.ext.size
  replace hAmb := (hAmb.st hS').mono hS'.ext.size
  replace hS := hS.trans hS'
  clear hS'
  refine sb hF (v_not rfl) rfl ?_ ?_
  · clear hF a; intro hc1 a hF
    try simp only [decide_eq_true_eq, decide_eq_false_iff_not, Bool.not_eq_true', Bool.not_eq_false', Bool.not_true, Bool.not_false] at hc1
    refine sv hF (v_move rfl) rfl ?_; clear hF a; intro a hF
    refine svn hF rfl rfl rfl ?_; clear hF a; intro a hF
    refine svn hF rfl rfl rfl ?_; clear hF a; intro a hF
    refine svn hF rfl rfl rfl ?_; clear hF a; intro a hF
    refine sv hF (v_pickT rfl rfl) rfl ?_; clear hF a; intro a hF
    refine WL_nil (hK _ _ ?_)
    clear hK K
    replace hF := hF.sub _ (c_ 27 rfl (c_ 5 rfl (c_ 4 rfl (c_ 0 rfl (c_ 1 rfl (n_))))))
    refine W_ifT hF rfl ?_
    refine W_sr rfl (fun K hK => ?_)
    refine sv hF (v_move rfl) rfl ?_; clear hF a; intro a hF
    refine sv hF (v_assign rfl) rfl ?_; clear hF a; intro a hF
    refine WL_nil (hK _ _ ?_)
    clear hK K
    replace hF := hF.sub _ (c_ 4 rfl (c_ 5 rfl (c_ 0 rfl (c_ 1 rfl (n_)))))
    refine W_ret ?_
    refine ⟨_, _, hF, rfl, ?_⟩
    exact ⟨rfl, hS⟩
  · clear hF a; intro hc1 a hF
    try simp only [decide_eq_true_eq, decide_eq_false_iff_not, Bool.not_eq_true', Bool.not_eq_false', Bool.not_true, Bool.not_false] at hc1
    refine sv hF (v_move rfl) rfl ?_; clear hF a; intro a hF
    refine svg hF rfl ?_
    refine sv hF (v_move rfl) rfl ?_; clear hF a; intro a hF
    refine svg hF rfl ?_
    refine sc hF rfl rfl rfl en18 rfl (Few04_ok B _ _ _ mb _ hAmb hlmb hbmb) ?_; clear hF a; intro v w' a hv hF
    obtain ⟨rfl, hw⟩ := hv
    obtain rfl := hw.symm
    have hS' := St.refl hS.inv
    replace hAma := (hAma.st hS').mono hS'.ext.size
    replace hAmb := (hAmb.st hS').mono hS'.ext.size
    replace hS := hS.trans hS'
    clear hS'
    refine svg hF rfl ?_
    refine sv hF (v_not rfl) rfl ?_; clear hF a; intro a hF
    refine sv hF (v_pickF rfl rfl) rfl ?_; clear hF a; intro a hF
    refine WL_nil (hK _ _ ?_)
    clear hK K
    replace hF := hF.sub _ (c_ 27 rfl (c_ 5 rfl (c_ 4 rfl (c_ 0 rfl (c_ 1 rfl (n_))))))
    refine W_if hF rfl (fun hc2 => ?_) (fun hc2 => ?_)
    · skip
      try simp only [decide_eq_true_eq, decide_eq_false_iff_not, Bool.not_eq_true', Bool.not_eq_false', Bool.not_true, Bool.not_false] at hc2
      refine W_sr rfl (fun K hK => ?_)
      refine sv hF (v_move rfl) rfl ?_; clear hF a; intro a hF
      refine sv hF (v_assign rfl) rfl ?_; clear hF a; intro a hF
      refine WL_nil (hK _ _ ?_)
      clear hK K
      replace hF := hF.sub _ (c_ 4 rfl (c_ 5 rfl (c_ 0 rfl (c_ 1 rfl (n_)))))
      refine W_ret ?_
      refine ⟨_, _, hF, rfl, ?_⟩
      exact ⟨rfl, hS⟩
    · skip
      try simp only [decide_eq_true_eq, decide_eq_false_iff_not, Bool.not_eq_true', Bool.not_eq_false', Bool.not_true, Bool.not_false] at hc2
      refine W_skip ?_
      have hfma : fewM ma = true := by simpa using hc1
      have hfmb : fewM mb = true := by simpa using hc2
      refine W_sr rfl (fun K hK => ?_)
      refine sc hF rfl rfl rfl en14 rfl (field5_ok B false _ hS.inv) ?_; clear hF a; intro v w' a hv hF
      obtain ⟨fv, rfl, hf, hS'⟩ := hv
      rw [show fq false = (8, 285) from rfl] at hf
      replace hAma := (hAma.st hS').mono hS'.ext.size
      replace hAmb := (hAmb.st hS').mono hS'.ext.size
      replace hS := hS.trans hS'
      clear hS'
      refine sv hF (v_move rfl) rfl ?_; clear hF a; intro a hF
      refine sv hF (v_ext rfl rfl) rfl ?_; clear hF a; intro a hF
      refine sv hF (v_ext rfl rfl) rfl ?_; clear hF a; intro a hF
      refine sv hF (v_ext rfl rfl) rfl ?_; clear hF a; intro a hF
      refine sv hF (v_assign rfl) rfl ?_; clear hF a; intro a hF
      refine sv hF (v_assign rfl) rfl ?_; clear hF a; intro a hF
      refine sv hF (v_assign rfl) rfl ?_; clear hF a; intro a hF
      refine WL_nil (hK _ _ ?_)
      clear hK K
      replace hF := hF.sub _ (c_ 6 rfl (c_ 5 rfl (c_ 4 rfl (c_ 0 rfl (c_ 1 rfl (n_))))))
      refine W_sr rfl (fun K hK => ?_)
      refine sv hF (v_move rfl) rfl ?_; clear hF a; intro a hF
      refine sv hF (v_move rfl) rfl ?_; clear hF a; intro a hF
      refine sv hF (v_move rfl) rfl ?_; clear hF a; intro a hF
      refine sc hF rfl rfl rfl en23 rfl (MulM_ok B _ (some (8, 285)) fv _ _ ma _ _ mb _ hS.inv (Nat.le_refl _) hf hAma (And.intro hlma hbma).1 (And.intro hlma hbma).2 hAmb (And.intro hlmb hbmb).1 (And.intro hlmb hbmb).2) ?_; clear hF a; intro v w' a hv hF
      obtain ⟨obX, uX, rfl, hoX, hS'⟩ := hv
      obtain ⟨sX, cX, rfl, hX⟩ := hoX.mat (by decide) (Nat.zero_le _)
      clear hoX
      replace hAma := (hAma.st hS').mono hS'.ext.size
      replace hAmb := (hAmb.st hS').mono hS'.ext.size
      replace hf := hf.st hS'
      replace hS := hS.trans hS'
      clear hS'
      refine sv hF (v_move rfl) rfl ?_; clear hF a; intro a hF
      refine sv hF (v_ext rfl rfl) rfl ?_; clear hF a; intro a hF
      refine sv hF (v_ext rfl rfl) rfl ?_; clear hF a; intro a hF
      refine sv hF (v_assign rfl) rfl ?_; clear hF a; intro a hF
      refine sv hF (v_assign rfl) rfl ?_; clear hF a; intro a hF
      refine WL_nil (hK _ _ ?_)
      clear hK K
      replace hF := hF.sub _ (c_ 10 rfl (c_ 9 rfl (c_ 6 rfl (c_ 5 rfl (c_ 4 rfl (c_ 0 rfl (c_ 1 rfl (n_))))))))
      refine W_seq ?_
      refine W_sr rfl (fun K hK => ?_)
      refine sv hF (v_move rfl) rfl ?_; clear hF a; intro a hF
      refine sb hF (v_neq rfl rfl) rfl ?_ ?_
      · clear hF a; intro hc3 a hF
        try simp only [decide_eq_true_eq, decide_eq_false_iff_not, Bool.not_eq_true', Bool.not_eq_false', Bool.not_true, Bool.not_false] at hc3
        refine sv hF (v_move rfl) rfl ?_; clear hF a; intro a hF
        refine svn hF rfl rfl rfl ?_; clear hF a; intro a hF
        refine svn hF rfl rfl rfl ?_; clear hF a; intro a hF
        refine svn hF rfl rfl rfl ?_; clear hF a; intro a hF
        refine svn hF rfl rfl rfl ?_; clear hF a; intro a hF
        refine svn hF rfl rfl rfl ?_; clear hF a; intro a hF
        refine svn hF rfl rfl rfl ?_; clear hF a; intro a hF
        refine svn hF rfl rfl rfl ?_; clear hF a; intro a hF
        refine sv hF (v_pickT rfl rfl) rfl ?_; clear hF a; intro a hF
        refine sv hF (v_move rfl) rfl ?_; clear hF a; intro a hF
        refine svn hF rfl rfl rfl ?_; clear hF a; intro a hF
        refine svn hF rfl rfl rfl ?_; clear hF a; intro a hF
        refine svn hF rfl rfl rfl ?_; clear hF a; intro a hF
        refine svn hF rfl rfl rfl ?_; clear hF a; intro a hF
        refine svn hF rfl rfl rfl ?_; clear hF a; intro a hF
        refine svn hF rfl rfl rfl ?_; clear hF a; intro a hF
        refine svn hF rfl rfl rfl ?_; clear hF a; intro a hF
        refine sv hF (v_pickT rfl rfl) rfl ?_; clear hF a; intro a hF
        refine WL_nil (hK _ _ ?_)
        clear hK K
        replace hF := hF.sub _ (c_ 60 rfl (c_ 9 rfl (c_ 6 rfl (c_ 5 rfl (c_ 4 rfl (c_ 0 rfl (c_ 1 rfl (n_))))))))
        refine W_ifT hF rfl ?_
        refine W_sr rfl (fun K hK => ?_)
        refine sv hF (v_move rfl) rfl ?_; clear hF a; intro a hF
        refine sv hF (v_assign rfl) rfl ?_; clear hF a; intro a hF
        refine WL_nil (hK _ _ ?_)
        clear hK K
        replace hF := hF.sub _ (c_ 4 rfl (c_ 9 rfl (c_ 6 rfl (c_ 5 rfl (c_ 0 rfl (c_ 1 rfl (n_)))))))
        refine W_ret ?_
        refine ⟨_, _, hF, rfl, ?_⟩
        exact ⟨rfl, hS⟩
      · clear hF a; intro hc3 a hF
        try simp only [decide_eq_true_eq, decide_eq_false_iff_not, Bool.not_eq_true', Bool.not_eq_false', Bool.not_true, Bool.not_false] at hc3
        refine sv hF (v_move rfl) rfl ?_; clear hF a; intro a hF
        refine svg hF rfl ?_
        obtain ⟨c, hcc⟩ := errV_eq (Decidable.of_not_not hc3)
        have hcl := mulM_lens (some (8, 285)) ma mb
        rw [hcc] at hX hF hcl
        simp only [Option.getD_some] at hX hF hcl
        obtain ⟨hmayma, hmaymb, hwab, -⟩ := mulM_inv hcc
        have hmpma := mayM_pos hmayma
        have hmpmb := mayM_pos hmaymb
        obtain ⟨r0ma, h0ma⟩ : ∃ r, ma[0]? = some r := ⟨_, List.getElem?_eq_getElem (by omega)⟩
        obtain ⟨g0ma, o0ma, p0ma, c0ma, hg0ma, hk0ma, hrow0ma, -⟩ := hAma.row h0ma
        have hw0ma := wid_at h0ma
        subst hg0ma
        obtain ⟨r0mb, h0mb⟩ : ∃ r, mb[0]? = some r := ⟨_, List.getElem?_eq_getElem (by omega)⟩
        obtain ⟨g0mb, o0mb, p0mb, c0mb, hg0mb, hk0mb, hrow0mb, -⟩ := hAmb.row h0mb
        have hw0mb := wid_at h0mb
        subst hg0mb
        refine sv hF (v_move rfl) rfl ?_; clear hF a; intro a hF
        refine svg hF rfl ?_
        refine sv hF (v_lenS rfl sl29 rfl) rfl ?_; clear hF a; intro a hF
        refine svg hF rfl ?_
        refine sv hF (v_move rfl) rfl ?_; clear hF a; intro a hF
        refine svg hF rfl ?_
        refine sv hF (v_ixS sl29 rfl rfl (by decide) (by omega)) rfl ?_; clear hF a; intro a hF
        refine svg hF rfl ?_
        refine sv hF (v_load sc28 rfl hk0ma.c) rfl ?_; clear hF a; intro a hF
        refine svg hF rfl ?_
        refine sv hF (v_lenS rfl sl28 rfl) rfl ?_; clear hF a; intro a hF
        refine svg hF rfl ?_
        refine sb hF (v_neq rfl rfl) rfl ?_ ?_
        · clear hF a; intro hc4 a hF
          try simp only [decide_eq_true_eq, decide_eq_false_iff_not, Bool.not_eq_true', Bool.not_eq_false', Bool.not_true, Bool.not_false] at hc4
          refine sv hF (v_pickF rfl rfl) rfl ?_; clear hF a; intro a hF
          refine sv hF (v_move rfl) rfl ?_; clear hF a; intro a hF
          refine svn hF rfl rfl rfl ?_; clear hF a; intro a hF
          refine svn hF rfl rfl rfl ?_; clear hF a; intro a hF
          refine svn hF rfl rfl rfl ?_; clear hF a; intro a hF
          refine svn hF rfl rfl rfl ?_; clear hF a; intro a hF
          refine svn hF rfl rfl rfl ?_; clear hF a; intro a hF
          refine svn hF rfl rfl rfl ?_; clear hF a; intro a hF
          refine svn hF rfl rfl rfl ?_; clear hF a; intro a hF
          refine sv hF (v_pickT rfl rfl) rfl ?_; clear hF a; intro a hF
          refine WL_nil (hK _ _ ?_)
          clear hK K
          replace hF := hF.sub _ (c_ 60 rfl (c_ 9 rfl (c_ 6 rfl (c_ 5 rfl (c_ 4 rfl (c_ 0 rfl (c_ 1 rfl (n_))))))))
          refine W_ifT hF rfl ?_
          refine W_sr rfl (fun K hK => ?_)
          refine sv hF (v_move rfl) rfl ?_; clear hF a; intro a hF
          refine sv hF (v_assign rfl) rfl ?_; clear hF a; intro a hF
          refine WL_nil (hK _ _ ?_)
          clear hK K
          replace hF := hF.sub _ (c_ 4 rfl (c_ 9 rfl (c_ 6 rfl (c_ 5 rfl (c_ 0 rfl (c_ 1 rfl (n_)))))))
          refine W_ret ?_
          refine ⟨_, _, hF, rfl, ?_⟩
          exact ⟨rfl, hS⟩
        · clear hF a; intro hc4 a hF
          try simp only [decide_eq_true_eq, decide_eq_false_iff_not, Bool.not_eq_true', Bool.not_eq_false', Bool.not_true, Bool.not_false] at hc4
          refine sv hF (v_pickF rfl rfl) rfl ?_; clear hF a; intro a hF
          refine sv hF (v_move rfl) rfl ?_; clear hF a; intro a hF
          refine svg hF rfl ?_
          refine sv hF (v_move rfl) rfl ?_; clear hF a; intro a hF
          refine svg hF rfl ?_
          refine sv hF (v_lenS rfl sl29 rfl) rfl ?_; clear hF a; intro a hF
          refine svg hF rfl ?_
          refine sv hF (v_move rfl) rfl ?_; clear hF a; intro a hF
          refine svg hF rfl ?_
          refine sv hF (v_ixS sl29 rfl rfl (by decide) (by omega)) rfl ?_; clear hF a; intro a hF
          refine svg hF rfl ?_
          refine sv hF (v_load sc28 rfl hk0mb.c) rfl ?_; clear hF a; intro a hF
          refine svg hF rfl ?_
          refine sv hF (v_lenS rfl sl28 rfl) rfl ?_; clear hF a; intro a hF
          refine svg hF rfl ?_
          refine sv hF (v_neq rfl rfl) rfl ?_; clear hF a; intro a hF
          refine sv hF (v_pickF rfl rfl) rfl ?_; clear hF a; intro a hF
          refine WL_nil (hK _ _ ?_)
          clear hK K
          replace hF := hF.sub _ (c_ 60 rfl (c_ 9 rfl (c_ 6 rfl (c_ 5 rfl (c_ 4 rfl (c_ 0 rfl (c_ 1 rfl (n_))))))))
          refine W_if hF rfl (fun hc5 => ?_) (fun hc5 => ?_)
          · skip
            try simp only [decide_eq_true_eq, decide_eq_false_iff_not, Bool.not_eq_true', Bool.not_eq_false', Bool.not_true, Bool.not_false] at hc5
            refine W_sr rfl (fun K hK => ?_)
            refine sv hF (v_move rfl) rfl ?_; clear hF a; intro a hF
            refine sv hF (v_assign rfl) rfl ?_; clear hF a; intro a hF
            refine WL_nil (hK _ _ ?_)
            clear hK K
            replace hF := hF.sub _ (c_ 4 rfl (c_ 9 rfl (c_ 6 rfl (c_ 5 rfl (c_ 0 rfl (c_ 1 rfl (n_)))))))
            refine W_ret ?_
            refine ⟨_, _, hF, rfl, ?_⟩
            exact ⟨rfl, hS⟩
          · skip
            try simp only [decide_eq_true_eq, decide_eq_false_iff_not, Bool.not_eq_true', Bool.not_eq_false', Bool.not_true, Bool.not_false] at hc5
            refine W_skip ?_
            have hsa := sqM_of (p := 285) hmayma (by rw [hw0ma]; omega)
            have hsb := sqM_of (p := 285) hmaymb (by rw [hw0mb]; omega)
            obtain ⟨hsc, hpn, hpy⟩ := prod_inv prm_285 hsa hsb hcc
            have hcl2 := len20 hcl
            clear hk0ma hrow0ma hk0mb hrow0mb
            refine W_sr rfl (fun K hK => ?_)
            refine sv hF (v_move rfl) rfl ?_; clear hF a; intro a hF
            refine sv hF (v_move rfl) rfl ?_; clear hF a; intro a hF
            refine sc hF rfl rfl rfl en16 rfl (Inverse_ok B _ 8 285 prm_285 fv _ _ ma _ hS.inv (Nat.le_refl _) hf hAma (And.intro hlma hbma).1 (And.intro hlma hbma).2) ?_; clear hF a; intro v w' a hv hF
            obtain ⟨obG, uG, rfl, hoG, hS'⟩ := hv
            obtain ⟨sG, cG, rfl, hG⟩ := hoG.mat (by decide) (Nat.zero_le _)
            clear hoG
            replace hAma := (hAma.st hS').mono hS'.ext.size
            replace hAmb := (hAmb.st hS').mono hS'.ext.size
            replace hf := hf.st hS'
            replace hX := (hX.st hS').mono hS'.ext.size
            replace hS := hS.trans hS'
            clear hS'
            refine sv hF (v_move rfl) rfl ?_; clear hF a; intro a hF
            refine sv hF (v_ext rfl rfl) rfl ?_; clear hF a; intro a hF
            refine sv hF (v_ext rfl rfl) rfl ?_; clear hF a; intro a hF
            refine sv hF (v_assign rfl) rfl ?_; clear hF a; intro a hF
            refine sv hF (v_assign rfl) rfl ?_; clear hF a; intro a hF
            refine WL_nil (hK _ _ ?_)
            clear hK K
            replace hF := hF.sub _ (c_ 12 rfl (c_ 11 rfl (c_ 9 rfl (c_ 6 rfl (c_ 5 rfl (c_ 4 rfl (c_ 1 rfl (n_))))))))
            refine W_sr rfl (fun K hK => ?_)
            refine sv hF (v_move rfl) rfl ?_; clear hF a; intro a hF
            refine sv hF (v_move rfl) rfl ?_; clear hF a; intro a hF
            refine sc hF rfl rfl rfl en16 rfl (Inverse_ok B _ 8 285 prm_285 fv _ _ mb _ hS.inv (Nat.le_refl _) hf hAmb (And.intro hlmb hbmb).1 (And.intro hlmb hbmb).2) ?_; clear hF a; intro v w' a hv hF
            obtain ⟨obH, uH, rfl, hoH, hS'⟩ := hv
            obtain ⟨sH, cH, rfl, hH⟩ := hoH.mat (by decide) (Nat.zero_le _)
            clear hoH
            replace hAma := (hAma.st hS').mono hS'.ext.size
            replace hAmb := (hAmb.st hS').mono hS'.ext.size
            replace hf := hf.st hS'
            replace hX := (hX.st hS').mono hS'.ext.size
            replace hG := (hG.st hS').mono hS'.ext.size
            replace hS := hS.trans hS'
            clear hS'
            refine sv hF (v_move rfl) rfl ?_; clear hF a; intro a hF
            refine sv hF (v_ext rfl rfl) rfl ?_; clear hF a; intro a hF
            refine sv hF (v_ext rfl rfl) rfl ?_; clear hF a; intro a hF
            refine sv hF (v_assign rfl) rfl ?_; clear hF a; intro a hF
            refine sv hF (v_assign rfl) rfl ?_; clear hF a; intro a hF
            refine WL_nil (hK _ _ ?_)
            clear hK K
            replace hF := hF.sub _ (c_ 14 rfl (c_ 13 rfl (c_ 12 rfl (c_ 11 rfl (c_ 9 rfl (c_ 6 rfl (c_ 5 rfl (c_ 4 rfl (n_)))))))))
            refine W_sr rfl (fun K hK => ?_)
            refine sv hF (v_move rfl) rfl ?_; clear hF a; intro a hF
            refine sv hF (v_move rfl) rfl ?_; clear hF a; intro a hF
            refine sc hF rfl rfl rfl en16 rfl (Inverse_ok B _ 8 285 prm_285 fv _ _ c _ hS.inv (Nat.le_refl _) hf hX (hcl2).1 (hcl2).2) ?_; clear hF a; intro v w' a hv hF
            obtain ⟨obZ, uZ, rfl, hoZ, hS'⟩ := hv
            obtain ⟨sZ, cZ, rfl, hZ⟩ := hoZ.mat (by decide) (Nat.zero_le _)
            clear hoZ
            replace hAma := (hAma.st hS').mono hS'.ext.size
            replace hAmb := (hAmb.st hS').mono hS'.ext.size
            replace hf := hf.st hS'
            replace hX := (hX.st hS').mono hS'.ext.size
            replace hG := (hG.st hS').mono hS'.ext.size
            replace hH := (hH.st hS').mono hS'.ext.size
            replace hS := hS.trans hS'
            clear hS'
            refine sv hF (v_move rfl) rfl ?_; clear hF a; intro a hF
            refine sv hF (v_ext rfl rfl) rfl ?_; clear hF a; intro a hF
            refine sv hF (v_ext rfl rfl) rfl ?_; clear hF a; intro a hF
            refine sv hF (v_assign rfl) rfl ?_; clear hF a; intro a hF
            refine sv hF (v_assign rfl) rfl ?_; clear hF a; intro a hF
            refine WL_nil (hK _ _ ?_)
            clear hK K
            replace hF := hF.sub _ (c_ 16 rfl (c_ 15 rfl (c_ 14 rfl (c_ 13 rfl (c_ 12 rfl (c_ 11 rfl (c_ 6 rfl (c_ 5 rfl (c_ 4 rfl (n_))))))))))
            refine W_seq ?_
            refine W_sr rfl (fun K hK => ?_)
            refine sv hF (v_move rfl) rfl ?_; clear hF a; intro a hF
            refine sb hF (v_neq rfl rfl) rfl ?_ ?_
            · clear hF a; intro hc6 a hF
              try simp only [decide_eq_true_eq, decide_eq_false_iff_not, Bool.not_eq_true', Bool.not_eq_false', Bool.not_true, Bool.not_false] at hc6
              refine sv hF (v_move rfl) rfl ?_; clear hF a; intro a hF
              refine svn hF rfl rfl rfl ?_; clear hF a; intro a hF
              refine svn hF rfl rfl rfl ?_; clear hF a; intro a hF
              refine sv hF (v_pickT rfl rfl) rfl ?_; clear hF a; intro a hF
              refine WL_nil (hK _ _ ?_)
              clear hK K
              replace hF := hF.sub _ (c_ 85 rfl (c_ 16 rfl (c_ 15 rfl (c_ 13 rfl (c_ 11 rfl (c_ 6 rfl (c_ 5 rfl (c_ 4 rfl (n_)))))))))
              refine W_ifT hF rfl ?_
              refine W_sr rfl (fun K hK => ?_)
              refine sv hF (v_move rfl) rfl ?_; clear hF a; intro a hF
              refine sv hF (v_move rfl) rfl ?_; clear hF a; intro a hF
              refine svg hF rfl ?_
              refine sv hF (v_move rfl) rfl ?_; clear hF a; intro a hF
              refine svg hF rfl ?_
              refine sv hF ((v_eql rfl rfl).as (congrArg Value.bool (decide_eq_true (hpn (by first | exact .inl (by assumption) | exact .inr (by assumption)))))) rfl ?_; clear hF a; intro a hF
              refine sv hF (v_pickT rfl rfl) rfl ?_; clear hF a; intro a hF
              refine sv hF (v_assign rfl) rfl ?_; clear hF a; intro a hF
              refine WL_nil (hK _ _ ?_)
              clear hK K
              replace hF := hF.sub _ (c_ 4 rfl (c_ 16 rfl (c_ 15 rfl (c_ 13 rfl (c_ 11 rfl (c_ 6 rfl (c_ 5 rfl (n_))))))))
              refine W_ret ?_
              refine ⟨_, _, hF, rfl, ?_⟩
              exact ⟨rfl, hS⟩
            · clear hF a; intro hc6 a hF
              try simp only [decide_eq_true_eq, decide_eq_false_iff_not, Bool.not_eq_true', Bool.not_eq_false', Bool.not_true, Bool.not_false] at hc6
              refine sv hF (v_move rfl) rfl ?_; clear hF a; intro a hF
              refine svg hF rfl ?_
              refine sv hF (v_move rfl) rfl ?_; clear hF a; intro a hF
              refine svg hF rfl ?_
              refine sv hF (v_neq rfl rfl) rfl ?_; clear hF a; intro a hF
              refine sv hF (v_pickF rfl rfl) rfl ?_; clear hF a; intro a hF
              refine WL_nil (hK _ _ ?_)
              clear hK K
              replace hF := hF.sub _ (c_ 85 rfl (c_ 16 rfl (c_ 15 rfl (c_ 13 rfl (c_ 11 rfl (c_ 6 rfl (c_ 5 rfl (c_ 4 rfl (n_)))))))))
              refine W_if hF rfl (fun hc7 => ?_) (fun hc7 => ?_)
              · skip
                try simp only [decide_eq_true_eq, decide_eq_false_iff_not, Bool.not_eq_true', Bool.not_eq_false', Bool.not_true, Bool.not_false] at hc7
                refine W_sr rfl (fun K hK => ?_)
                refine sv hF (v_move rfl) rfl ?_; clear hF a; intro a hF
                refine sv hF (v_move rfl) rfl ?_; clear hF a; intro a hF
                refine svg hF rfl ?_
                refine sv hF (v_move rfl) rfl ?_; clear hF a; intro a hF
                refine svg hF rfl ?_
                refine sv hF ((v_eql rfl rfl).as (congrArg Value.bool (decide_eq_true (hpn (by first | exact .inl (by assumption) | exact .inr (by assumption)))))) rfl ?_; clear hF a; intro a hF
                refine sv hF (v_pickT rfl rfl) rfl ?_; clear hF a; intro a hF
                refine sv hF (v_assign rfl) rfl ?_; clear hF a; intro a hF
                refine WL_nil (hK _ _ ?_)
                clear hK K
                replace hF := hF.sub _ (c_ 4 rfl (c_ 16 rfl (c_ 15 rfl (c_ 13 rfl (c_ 11 rfl (c_ 6 rfl (c_ 5 rfl (n_))))))))
                refine W_ret ?_
                refine ⟨_, _, hF, rfl, ?_⟩
                exact ⟨rfl, hS⟩
              · skip
                try simp only [decide_eq_true_eq, decide_eq_false_iff_not, Bool.not_eq_true', Bool.not_eq_false', Bool.not_true, Bool.not_false] at hc7
                refine W_skip ?_
                obtain ⟨z, hz1, hz2⟩ := hpy (Decidable.of_not_not hc6) (Decidable.of_not_not hc7)
                have hzl := invR_lens prm_285 c
                rw [hz1] at hF hZ hzl
                dsimp only at hF hZ hzl
                refine W_sr rfl (fun K hK => ?_)
                refine sv hF (v_move rfl) rfl ?_; clear hF a; intro a hF
                refine sv hF (v_move rfl) rfl ?_; clear hF a; intro a hF
                refine sv hF (v_move rfl) rfl ?_; clear hF a; intro a hF
                refine sc hF rfl rfl rfl en23 rfl (MulM_ok B _ (some (8, 285)) fv _ _ (invR prm_285 mb).2 _ _ (invR prm_285 ma).2 _ hS.inv (Nat.le_refl _) hf hH ((len20 (invR_lens prm_285 mb))).1 ((len20 (invR_lens prm_285 mb))).2 hG ((len20 (invR_lens prm_285 ma))).1 ((len20 (invR_lens prm_285 ma))).2) ?_; clear hF a; intro v w' a hv hF
                obtain ⟨obM_, uM_, rfl, hoM_, hS'⟩ := hv
                rw [hz2] at hoM_ hF
                try simp only [Option.getD_some, Option.getD_none] at hoM_
                obtain ⟨sM_, cM_, rfl, hM_⟩ := hoM_.mat (by decide) (Nat.zero_le _)
                clear hoM_
                replace hAma := (hAma.st hS').mono hS'.ext.size
                replace hAmb := (hAmb.st hS').mono hS'.ext.size
                replace hf := hf.st hS'
                replace hX := (hX.st hS').mono hS'.ext.size
                replace hG := (hG.st hS').mono hS'.ext.size
                replace hH := (hH.st hS').mono hS'.ext.size
                replace hZ := (hZ.st hS').mono hS'.ext.size
                replace hS := hS.trans hS'
                clear hS'
                refine sv hF (v_move rfl) rfl ?_; clear hF a; intro a hF
                refine sv hF (v_ext rfl rfl) rfl ?_; clear hF a; intro a hF
                refine sv hF (v_ext rfl rfl) rfl ?_; clear hF a; intro a hF
                refine sv hF (v_assign rfl) rfl ?_; clear hF a; intro a hF
                refine sv hF (v_assign rfl) rfl ?_; clear hF a; intro a hF
                refine WL_nil (hK _ _ ?_)
                clear hK K
                replace hF := hF.sub _ (c_ 18 rfl (c_ 17 rfl (c_ 16 rfl (c_ 15 rfl (c_ 5 rfl (c_ 4 rfl (n_)))))))
                refine W_sr rfl (fun K hK => ?_)
                refine sv hF (v_move rfl) rfl ?_; clear hF a; intro a hF
                refine sv hF (v_move rfl) rfl ?_; clear hF a; intro a hF
                refine svg hF rfl ?_
                refine sv hF (v_move rfl) rfl ?_; clear hF a; intro a hF
                refine svg hF rfl ?_
                refine sv hF ((v_eql rfl rfl).as (congrArg Value.bool (decide_eq_true (rfl)))) rfl ?_; clear hF a; intro a hF
                refine sv hF (v_pickT rfl rfl) rfl ?_; clear hF a; intro a hF
                refine sv hF (v_move rfl) rfl ?_; clear hF a; intro a hF
                refine svg hF rfl ?_
                refine sv hF (v_move rfl) rfl ?_; clear hF a; intro a hF
                refine svg hF rfl ?_
                refine sv hF ((v_eql rfl rfl).as (congrArg Value.bool (decide_eq_true (rfl)))) rfl ?_; clear hF a; intro a hF
                refine sv hF (v_pickT rfl rfl) rfl ?_; clear hF a; intro a hF
                refine sv hF (v_move rfl) rfl ?_; clear hF a; intro a hF
                refine svg hF rfl ?_
                refine sv hF (v_move rfl) rfl ?_; clear hF a; intro a hF
                refine svg hF rfl ?_
                refine sv hF (v_move rfl) rfl ?_; clear hF a; intro a hF
                refine svg hF rfl ?_
                refine sc hF rfl rfl rfl en24 rfl (Same4_t B _ _ _ z _ _ z _ hS.inv hZ hM_ (len1k hzl).1 (len1k hzl).2 rfl) ?_; clear hF a; intro v w' a hv hF
                obtain ⟨rfl, hS'⟩ := hv
                replace hAma := (hAma.st hS').mono hS'.ext.size
                replace hAmb := (hAmb.st hS').mono hS'.ext.size
                replace hf := hf.st hS'
                replace hX := (hX.st hS').mono hS'.ext.size
                replace hG := (hG.st hS').mono hS'.ext.size
                replace hH := (hH.st hS').mono hS'.ext.size
                replace hZ := (hZ.st hS').mono hS'.ext.size
                replace hM_ := (hM_.st hS').mono hS'.ext.size
                replace hS := hS.trans hS'
                clear hS'
                refine sv hF (v_pickT rfl rfl) rfl ?_; clear hF a; intro a hF
                refine sv hF (v_assign rfl) rfl ?_; clear hF a; intro a hF
                refine WL_nil (hK _ _ ?_)
                clear hK K
                replace hF := hF.sub _ (c_ 4 rfl (n_))
                refine W_ret ?_
                refine ⟨_, _, hF, rfl, ?_⟩
                exact ⟨rfl, hS⟩

end Go.Proofs.Ytcnlooajjnghaaa
