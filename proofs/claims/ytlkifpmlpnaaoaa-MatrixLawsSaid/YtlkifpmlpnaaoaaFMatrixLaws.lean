/- The statement MatrixLaws, walked: it returns true. -/
import Derived.Test.YtlkifpmlpnaaoaaFAw04
set_option linter.unusedVariables false
set_option linter.unusedSimpArgs false
namespace Go.Proofs.Ytlkifpmlpnaaoaa
open Go Go.Gam


namespace FxFMatrixLaws
theorem en28 : Ent Try.prog 28 := ent Try.func28 (by kernel_rfl) (by kernel_rfl)
theorem en29 : Ent Try.prog 29 := ent Try.func29 (by kernel_rfl) (by kernel_rfl)
theorem en30 : Ent Try.prog 30 := ent Try.func30 (by kernel_rfl) (by kernel_rfl)
theorem en31 : Ent Try.prog 31 := ent Try.func31 (by kernel_rfl) (by kernel_rfl)
theorem en32 : Ent Try.prog 32 := ent Try.func32 (by kernel_rfl) (by kernel_rfl)
theorem en33 : Ent Try.prog 33 := ent Try.func33 (by kernel_rfl) (by kernel_rfl)
theorem sl23 : Sl Try.prog 23 3 (.int .i64 0) 8 := sl_of Try.underlying23 rfl (by kernel_rfl)
theorem sl51 : Sl Try.prog 51 23 (.slice none 0 0) 24 := sl_of Try.underlying51 rfl (by kernel_rfl)
end FxFMatrixLaws
open FxFMatrixLaws

set_option maxRecDepth 100000 in
set_option maxHeartbeats 1000000 in
theorem MatrixLaws_ok (B M : Nat) (pma : Option Addr) (cma : Nat) (ma : Mtx) (pmb : Option Addr) (cmb : Nat) (mb : Mtx) (pmc : Option Addr) (cmc : Nat) (mc : Mtx) (w : World) (hI : Inv FDx B w) (hM : M ≤ w.heap.size) (hAma : Mat FDx B M w pma cma ma) (hlma : ma.length ≤ maxLen) (hbma : ∀ r ∈ ma, r.length ≤ maxLen) (hAmb : Mat FDx B M w pmb cmb mb) (hlmb : mb.length ≤ maxLen) (hbmb : ∀ r ∈ mb, r.length ≤ maxLen) (hAmc : Mat FDx B M w pmc cmc mc) (hlmc : mc.length ≤ maxLen) (hbmc : ∀ r ∈ mc, r.length ≤ maxLen) : Ret Try.prog 6 [.slice pma ma.length cma, .slice pmb mb.length cmb, .slice pmc mc.length cmc] w fun v w' => v = .bool true ∧ St FDx B w w' := by
  refine enter 108 [(0, .slice pma ma.length cma), (1, .slice pmb mb.length cmb), (2, .slice pmc mc.length cmc)] 6 Try.func6 rfl rfl rfl rfl rfl ?_; intro a hF
  have hS := St.refl hI
  replace hAma := hAma.mono hM
  replace hAmb := hAmb.mono hM
  replace hAmc := hAmc.mono hM
  refine W_sr rfl (fun K hK => ?_)
  refine sv hF (v_assign rfl) rfl ?_; clear hF a; intro a hF
  refine WL_nil (hK _ _ ?_)
  clear hK K
  refine W_sr rfl (fun K hK => ?_)
  refine sc hF rfl rfl rfl en28 rfl (aw04_ok B _ hS.inv) ?_; clear hF a; intro v w' a hv hF
  obtain ⟨rfl, hS'⟩ := hv
  replace hAma := (hAma.st hS').mono hS'.ext.size
  replace hAmb := (hAmb.st hS').mono hS'.ext.size
  replace hAmc := (hAmc.st hS').mono hS'.ext.size
  replace hS := hS.trans hS'
  clear hS'
  refine sv hF (v_assign rfl) rfl ?_; clear hF a; intro a hF
  refine WL_nil (hK _ _ ?_)
  clear hK K
  replace hF := hF.sub _ (c_ 7 rfl (c_ 6 rfl (c_ 0 rfl (c_ 1 rfl (c_ 2 rfl (n_))))))
  refine W_seq ?_
  refine W_sr rfl (fun K hK => ?_)
  refine sv hF (v_move rfl) rfl ?_; clear hF a; intro a hF
  refine sc hF rfl rfl rfl en29 rfl (Few04_ok B _ _ _ ma _ hAma hlma hbma) ?_; clear hF a; intro v w' a hv hF
  obtain ⟨rfl, hw⟩ := hv
  obtain rfl := hw.symm
  have hS' := St.refl hS.inv
  replace hAma := (hAma.st hS').mono hS'.ext.size
  replace hAmb := (hAmb.st hS').mono hS'.ext.size
  replace hAmc := (hAmc.st hS').mono hS'.ext.size
  replace hS := hS.trans hS'
  clear hS'
  refine sb hF (v_not rfl) rfl ?_ ?_
  · clear hF a; intro hc1 a hF
    try simp only [decide_eq_true_eq, decide_eq_false_iff_not, Bool.not_eq_true', Bool.not_eq_false', Bool.not_true, Bool.not_false] at hc1
    refine sv hF (v_move rfl) rfl ?_; clear hF a; intro a hF
    refine svn hF rfl rfl rfl ?_; clear hF a; intro a hF
    refine svn hF rfl rfl rfl ?_; clear hF a; intro a hF
    refine svn hF rfl rfl rfl ?_; clear hF a; intro a hF
    refine sv hF (v_pickT rfl rfl) rfl ?_; clear hF a; intro a hF
    refine sv hF (v_move rfl) rfl ?_; clear hF a; intro a hF
    refine svn hF rfl rfl rfl ?_; clear hF a; intro a hF
    refine svn hF rfl rfl rfl ?_; clear hF a; intro a hF
    refine svn hF rfl rfl rfl ?_; clear hF a; intro a hF
    refine sv hF (v_pickT rfl rfl) rfl ?_; clear hF a; intro a hF
    refine WL_nil (hK _ _ ?_)
    clear hK K
    replace hF := hF.sub _ (c_ 34 rfl (c_ 7 rfl (c_ 6 rfl (c_ 0 rfl (c_ 1 rfl (c_ 2 rfl (n_)))))))
    refine W_ifT hF rfl ?_
    refine W_sr rfl (fun K hK => ?_)
    refine sv hF (v_move rfl) rfl ?_; clear hF a; intro a hF
    refine sv hF (v_assign rfl) rfl ?_; clear hF a; intro a hF
    refine WL_nil (hK _ _ ?_)
    clear hK K
    replace hF := hF.sub _ (c_ 6 rfl (c_ 7 rfl (c_ 0 rfl (c_ 1 rfl (c_ 2 rfl (n_))))))
    refine W_ret ?_
    refine ⟨_, _, hF, rfl, ?_⟩
    exact ⟨rfl, hS⟩
  · clear hF a; intro hc1 a hF
    try simp only [decide_eq_true_eq, decide_eq_false_iff_not, Bool.not_eq_true', Bool.not_eq_false', Bool.not_true, Bool.not_false] at hc1
    refine sv hF (v_move rfl) rfl ?_; clear hF a; intro a hF
    refine svg hF rfl ?_
    refine sv hF (v_move rfl) rfl ?_; clear hF a; intro a hF
    refine svg hF rfl ?_
    refine sc hF rfl rfl rfl en29 rfl (Few04_ok B _ _ _ mb _ hAmb hlmb hbmb) ?_; clear hF a; intro v w' a hv hF
    obtain ⟨rfl, hw⟩ := hv
    obtain rfl := hw.symm
    have hS' := St.refl hS.inv
    replace hAma := (hAma.st hS').mono hS'.ext.size
    replace hAmb := (hAmb.st hS').mono hS'.ext.size
    replace hAmc := (hAmc.st hS').mono hS'.ext.size
    replace hS := hS.trans hS'
    clear hS'
    refine svg hF rfl ?_
    refine sb hF (v_not rfl) rfl ?_ ?_
    · clear hF a; intro hc2 a hF
      try simp only [decide_eq_true_eq, decide_eq_false_iff_not, Bool.not_eq_true', Bool.not_eq_false', Bool.not_true, Bool.not_false] at hc2
      refine sv hF (v_pickF rfl rfl) rfl ?_; clear hF a; intro a hF
      refine sv hF (v_move rfl) rfl ?_; clear hF a; intro a hF
      refine svn hF rfl rfl rfl ?_; clear hF a; intro a hF
      refine svn hF rfl rfl rfl ?_; clear hF a; intro a hF
      refine svn hF rfl rfl rfl ?_; clear hF a; intro a hF
      refine sv hF (v_pickT rfl rfl) rfl ?_; clear hF a; intro a hF
      refine WL_nil (hK _ _ ?_)
      clear hK K
      replace hF := hF.sub _ (c_ 34 rfl (c_ 7 rfl (c_ 6 rfl (c_ 0 rfl (c_ 1 rfl (c_ 2 rfl (n_)))))))
      refine W_ifT hF rfl ?_
      refine W_sr rfl (fun K hK => ?_)
      refine sv hF (v_move rfl) rfl ?_; clear hF a; intro a hF
      refine sv hF (v_assign rfl) rfl ?_; clear hF a; intro a hF
      refine WL_nil (hK _ _ ?_)
      clear hK K
      replace hF := hF.sub _ (c_ 6 rfl (c_ 7 rfl (c_ 0 rfl (c_ 1 rfl (c_ 2 rfl (n_))))))
      refine W_ret ?_
      refine ⟨_, _, hF, rfl, ?_⟩
      exact ⟨rfl, hS⟩
    · clear hF a; intro hc2 a hF
      try simp only [decide_eq_true_eq, decide_eq_false_iff_not, Bool.not_eq_true', Bool.not_eq_false', Bool.not_true, Bool.not_false] at hc2
      refine sv hF (v_pickF rfl rfl) rfl ?_; clear hF a; intro a hF
      refine sv hF (v_move rfl) rfl ?_; clear hF a; intro a hF
      refine svg hF rfl ?_
      refine sv hF (v_move rfl) rfl ?_; clear hF a; intro a hF
      refine svg hF rfl ?_
      refine sc hF rfl rfl rfl en29 rfl (Few04_ok B _ _ _ mc _ hAmc hlmc hbmc) ?_; clear hF a; intro v w' a hv hF
      obtain ⟨rfl, hw⟩ := hv
      obtain rfl := hw.symm
      have hS' := St.refl hS.inv
      replace hAma := (hAma.st hS').mono hS'.ext.size
      replace hAmb := (hAmb.st hS').mono hS'.ext.size
      replace hAmc := (hAmc.st hS').mono hS'.ext.size
      replace hS := hS.trans hS'
      clear hS'
      refine svg hF rfl ?_
      refine sv hF (v_not rfl) rfl ?_; clear hF a; intro a hF
      refine sv hF (v_pickF rfl rfl) rfl ?_; clear hF a; intro a hF
      refine WL_nil (hK _ _ ?_)
      clear hK K
      replace hF := hF.sub _ (c_ 34 rfl (c_ 7 rfl (c_ 6 rfl (c_ 0 rfl (c_ 1 rfl (c_ 2 rfl (n_)))))))
      refine W_if hF rfl (fun hc3 => ?_) (fun hc3 => ?_)
      · skip
        try simp only [decide_eq_true_eq, decide_eq_false_iff_not, Bool.not_eq_true', Bool.not_eq_false', Bool.not_true, Bool.not_false] at hc3
        refine W_sr rfl (fun K hK => ?_)
        refine sv hF (v_move rfl) rfl ?_; clear hF a; intro a hF
        refine sv hF (v_assign rfl) rfl ?_; clear hF a; intro a hF
        refine WL_nil (hK _ _ ?_)
        clear hK K
        replace hF := hF.sub _ (c_ 6 rfl (c_ 7 rfl (c_ 0 rfl (c_ 1 rfl (c_ 2 rfl (n_))))))
        refine W_ret ?_
        refine ⟨_, _, hF, rfl, ?_⟩
        exact ⟨rfl, hS⟩
      · skip
        try simp only [decide_eq_true_eq, decide_eq_false_iff_not, Bool.not_eq_true', Bool.not_eq_false', Bool.not_true, Bool.not_false] at hc3
        refine W_skip ?_
        refine W_sr rfl (fun K hK => ?_)
        refine sc hF rfl rfl rfl en30 rfl (field4_ok B false _ hS.inv) ?_; clear hF a; intro v w' a hv hF
        obtain ⟨fv, rfl, hf, hS'⟩ := hv
        rw [show fq false = (8, 285) from rfl] at hf
        replace hAma := (hAma.st hS').mono hS'.ext.size
        replace hAmb := (hAmb.st hS').mono hS'.ext.size
        replace hAmc := (hAmc.st hS').mono hS'.ext.size
        replace hS := hS.trans hS'
        clear hS'
        refine sv hF (v_move rfl) rfl ?_; clear hF a; intro a hF
        refine sv hF (v_ext rfl rfl) rfl ?_; clear hF a; intro a hF
        refine sv hF (v_ext rfl rfl) rfl ?_; clear hF a; intro a hF
        refine sv hF (v_ext rfl rfl) rfl ?_; clear hF a; intro a hF
        refine sv hF (v_assign rfl) rfl ?_; clear hF a; intro a hF
        refine sv hF (v_assign rfl) rfl ?_; clear hF a; intro a hF
        refine sv hF (v_assign rfl) rfl ?_; clear hF a; intro a hF
        refine WL_nil (hK _ _ ?_)
        clear hK K
        replace hF := hF.sub _ (c_ 8 rfl (c_ 7 rfl (c_ 6 rfl (c_ 0 rfl (c_ 1 rfl (c_ 2 rfl (n_)))))))
        refine W_sr rfl (fun K hK => ?_)
        refine sv hF (v_move rfl) rfl ?_; clear hF a; intro a hF
        refine sv hF (v_move rfl) rfl ?_; clear hF a; intro a hF
        refine sv hF (v_move rfl) rfl ?_; clear hF a; intro a hF
        refine sc hF rfl rfl rfl en31 rfl (MulM_ok B _ (some (8, 285)) fv _ _ ma _ _ mb _ hS.inv (Nat.le_refl _) hf hAma (And.intro hlma hbma).1 (And.intro hlma hbma).2 hAmb (And.intro hlmb hbmb).1 (And.intro hlmb hbmb).2) ?_; clear hF a; intro v w' a hv hF
        obtain ⟨obX, uX, rfl, hoX, hS'⟩ := hv
        obtain ⟨sX, cX, rfl, hX⟩ := hoX.mat (by decide) (Nat.zero_le _)
        clear hoX
        replace hAma := (hAma.st hS').mono hS'.ext.size
        replace hAmb := (hAmb.st hS').mono hS'.ext.size
        replace hAmc := (hAmc.st hS').mono hS'.ext.size
        replace hf := hf.st hS'
        replace hS := hS.trans hS'
        clear hS'
        refine sv hF (v_move rfl) rfl ?_; clear hF a; intro a hF
        refine sv hF (v_ext rfl rfl) rfl ?_; clear hF a; intro a hF
        refine sv hF (v_ext rfl rfl) rfl ?_; clear hF a; intro a hF
        refine sv hF (v_assign rfl) rfl ?_; clear hF a; intro a hF
        refine sv hF (v_assign rfl) rfl ?_; clear hF a; intro a hF
        refine WL_nil (hK _ _ ?_)
        clear hK K
        replace hF := hF.sub _ (c_ 12 rfl (c_ 11 rfl (c_ 8 rfl (c_ 7 rfl (c_ 6 rfl (c_ 0 rfl (c_ 1 rfl (c_ 2 rfl (n_)))))))))
        refine W_sr rfl (fun K hK => ?_)
        refine sv hF (v_move rfl) rfl ?_; clear hF a; intro a hF
        refine sv hF (v_move rfl) rfl ?_; clear hF a; intro a hF
        refine sv hF (v_move rfl) rfl ?_; clear hF a; intro a hF
        refine sc hF rfl rfl rfl en31 rfl (MulM_ok B _ (some (8, 285)) fv _ _ mb _ _ mc _ hS.inv (Nat.le_refl _) hf hAmb (And.intro hlmb hbmb).1 (And.intro hlmb hbmb).2 hAmc (And.intro hlmc hbmc).1 (And.intro hlmc hbmc).2) ?_; clear hF a; intro v w' a hv hF
        obtain ⟨obY, uY, rfl, hoY, hS'⟩ := hv
        obtain ⟨sY, cY, rfl, hY⟩ := hoY.mat (by decide) (Nat.zero_le _)
        clear hoY
        replace hAma := (hAma.st hS').mono hS'.ext.size
        replace hAmb := (hAmb.st hS').mono hS'.ext.size
        replace hAmc := (hAmc.st hS').mono hS'.ext.size
        replace hf := hf.st hS'
        replace hX := (hX.st hS').mono hS'.ext.size
        replace hS := hS.trans hS'
        clear hS'
        refine sv hF (v_move rfl) rfl ?_; clear hF a; intro a hF
        refine sv hF (v_ext rfl rfl) rfl ?_; clear hF a; intro a hF
        refine sv hF (v_ext rfl rfl) rfl ?_; clear hF a; intro a hF
        refine sv hF (v_assign rfl) rfl ?_; clear hF a; intro a hF
        refine sv hF (v_assign rfl) rfl ?_; clear hF a; intro a hF
        refine WL_nil (hK _ _ ?_)
        clear hK K
        replace hF := hF.sub _ (c_ 14 rfl (c_ 13 rfl (c_ 12 rfl (c_ 11 rfl (c_ 8 rfl (c_ 7 rfl (c_ 6 rfl (c_ 0 rfl (c_ 2 rfl (n_))))))))))
        refine W_seq ?_
        refine W_sr rfl (fun K hK => ?_)
        refine sv hF (v_move rfl) rfl ?_; clear hF a; intro a hF
        refine sb hF (v_neq rfl rfl) rfl ?_ ?_
        · clear hF a; intro hc4 a hF
          try simp only [decide_eq_true_eq, decide_eq_false_iff_not, Bool.not_eq_true', Bool.not_eq_false', Bool.not_true, Bool.not_false] at hc4
          refine sv hF (v_move rfl) rfl ?_; clear hF a; intro a hF
          refine svn hF rfl rfl rfl ?_; clear hF a; intro a hF
          refine svn hF rfl rfl rfl ?_; clear hF a; intro a hF
          refine sv hF (v_pickT rfl rfl) rfl ?_; clear hF a; intro a hF
          refine WL_nil (hK _ _ ?_)
          clear hK K
          replace hF := hF.sub _ (c_ 60 rfl (c_ 13 rfl (c_ 11 rfl (c_ 8 rfl (c_ 7 rfl (c_ 6 rfl (c_ 0 rfl (c_ 2 rfl (n_)))))))))
          refine W_ifT hF rfl ?_
          refine W_sr rfl (fun K hK => ?_)
          refine sv hF (v_move rfl) rfl ?_; clear hF a; intro a hF
          refine sv hF (v_assign rfl) rfl ?_; clear hF a; intro a hF
          refine WL_nil (hK _ _ ?_)
          clear hK K
          replace hF := hF.sub _ (c_ 6 rfl (c_ 13 rfl (c_ 11 rfl (c_ 8 rfl (c_ 7 rfl (c_ 0 rfl (c_ 2 rfl (n_))))))))
          refine W_ret ?_
          refine ⟨_, _, hF, rfl, ?_⟩
          exact ⟨rfl, hS⟩
        · clear hF a; intro hc4 a hF
          try simp only [decide_eq_true_eq, decide_eq_false_iff_not, Bool.not_eq_true', Bool.not_eq_false', Bool.not_true, Bool.not_false] at hc4
          refine sv hF (v_move rfl) rfl ?_; clear hF a; intro a hF
          refine svg hF rfl ?_
          refine sv hF (v_move rfl) rfl ?_; clear hF a; intro a hF
          refine svg hF rfl ?_
          refine sv hF (v_neq rfl rfl) rfl ?_; clear hF a; intro a hF
          refine sv hF (v_pickF rfl rfl) rfl ?_; clear hF a; intro a hF
          refine WL_nil (hK _ _ ?_)
          clear hK K
          replace hF := hF.sub _ (c_ 60 rfl (c_ 13 rfl (c_ 11 rfl (c_ 8 rfl (c_ 7 rfl (c_ 6 rfl (c_ 0 rfl (c_ 2 rfl (n_)))))))))
          refine W_if hF rfl (fun hc5 => ?_) (fun hc5 => ?_)
          · skip
            try simp only [decide_eq_true_eq, decide_eq_false_iff_not, Bool.not_eq_true', Bool.not_eq_false', Bool.not_true, Bool.not_false] at hc5
            refine W_sr rfl (fun K hK => ?_)
            refine sv hF (v_move rfl) rfl ?_; clear hF a; intro a hF
            refine sv hF (v_assign rfl) rfl ?_; clear hF a; intro a hF
            refine WL_nil (hK _ _ ?_)
            clear hK K
            replace hF := hF.sub _ (c_ 6 rfl (c_ 13 rfl (c_ 11 rfl (c_ 8 rfl (c_ 7 rfl (c_ 0 rfl (c_ 2 rfl (n_))))))))
            refine W_ret ?_
            refine ⟨_, _, hF, rfl, ?_⟩
            exact ⟨rfl, hS⟩
          · skip
            try simp only [decide_eq_true_eq, decide_eq_false_iff_not, Bool.not_eq_true', Bool.not_eq_false', Bool.not_true, Bool.not_false] at hc5
            refine W_skip ?_
            obtain ⟨x, hx⟩ := errV_eq (Decidable.of_not_not hc4)
            obtain ⟨y, hy⟩ := errV_eq (Decidable.of_not_not hc5)
            have hxl := len20 (mulM_lens (some (8, 285)) ma mb)
            have hyl := len20 (mulM_lens (some (8, 285)) mb mc)
            rw [hx] at hX hF hxl
            rw [hy] at hY hF hyl
            simp only [Option.getD_some] at hX hY hF hxl hyl
            obtain ⟨q, hq1, hq2⟩ := mulM_assoc prm_285 hx hy
            have hql := mulM_lens (some (8, 285)) x mc
            rw [hq1] at hql
            obtain ⟨hm1, -⟩ := mulM_inv hx
            obtain ⟨hMa, ha1, ha2, ha3, ha4⟩ := mayM_Mx hm1
            refine W_sr rfl (fun K hK => ?_)
            refine sv hF (v_move rfl) rfl ?_; clear hF a; intro a hF
            refine sv hF (v_move rfl) rfl ?_; clear hF a; intro a hF
            refine sv hF (v_move rfl) rfl ?_; clear hF a; intro a hF
            refine sc hF rfl rfl rfl en31 rfl (MulM_ok B _ (some (8, 285)) fv _ _ x _ _ mc _ hS.inv (Nat.le_refl _) hf hX (hxl).1 (hxl).2 hAmc (And.intro hlmc hbmc).1 (And.intro hlmc hbmc).2) ?_; clear hF a; intro v w' a hv hF
            obtain ⟨obP, uP, rfl, hoP, hS'⟩ := hv
            rw [hq1] at hoP hF
            try simp only [Option.getD_some, Option.getD_none] at hoP
            obtain ⟨sP, cP, rfl, hP⟩ := hoP.mat (by decide) (Nat.zero_le _)
            clear hoP
            replace hAma := (hAma.st hS').mono hS'.ext.size
            replace hAmb := (hAmb.st hS').mono hS'.ext.size
            replace hAmc := (hAmc.st hS').mono hS'.ext.size
            replace hf := hf.st hS'
            replace hX := (hX.st hS').mono hS'.ext.size
            replace hY := (hY.st hS').mono hS'.ext.size
            replace hS := hS.trans hS'
            clear hS'
            refine sv hF (v_move rfl) rfl ?_; clear hF a; intro a hF
            refine sv hF (v_ext rfl rfl) rfl ?_; clear hF a; intro a hF
            refine sv hF (v_ext rfl rfl) rfl ?_; clear hF a; intro a hF
            refine sv hF (v_assign rfl) rfl ?_; clear hF a; intro a hF
            refine sv hF (v_assign rfl) rfl ?_; clear hF a; intro a hF
            refine WL_nil (hK _ _ ?_)
            clear hK K
            replace hF := hF.sub _ (c_ 16 rfl (c_ 15 rfl (c_ 13 rfl (c_ 8 rfl (c_ 7 rfl (c_ 6 rfl (c_ 0 rfl (n_))))))))
            refine W_sr rfl (fun K hK => ?_)
            refine sv hF (v_move rfl) rfl ?_; clear hF a; intro a hF
            refine sv hF (v_move rfl) rfl ?_; clear hF a; intro a hF
            refine sv hF (v_move rfl) rfl ?_; clear hF a; intro a hF
            refine sc hF rfl rfl rfl en31 rfl (MulM_ok B _ (some (8, 285)) fv _ _ ma _ _ y _ hS.inv (Nat.le_refl _) hf hAma (And.intro hlma hbma).1 (And.intro hlma hbma).2 hY (hyl).1 (hyl).2) ?_; clear hF a; intro v w' a hv hF
            obtain ⟨obQ, uQ, rfl, hoQ, hS'⟩ := hv
            rw [hq2] at hoQ hF
            try simp only [Option.getD_some, Option.getD_none] at hoQ
            obtain ⟨sQ, cQ, rfl, hQ⟩ := hoQ.mat (by decide) (Nat.zero_le _)
            clear hoQ
            replace hAma := (hAma.st hS').mono hS'.ext.size
            replace hAmb := (hAmb.st hS').mono hS'.ext.size
            replace hAmc := (hAmc.st hS').mono hS'.ext.size
            replace hf := hf.st hS'
            replace hX := (hX.st hS').mono hS'.ext.size
            replace hY := (hY.st hS').mono hS'.ext.size
            replace hP := (hP.st hS').mono hS'.ext.size
            replace hS := hS.trans hS'
            clear hS'
            refine sv hF (v_move rfl) rfl ?_; clear hF a; intro a hF
            refine sv hF (v_ext rfl rfl) rfl ?_; clear hF a; intro a hF
            refine sv hF (v_ext rfl rfl) rfl ?_; clear hF a; intro a hF
            refine sv hF (v_assign rfl) rfl ?_; clear hF a; intro a hF
            refine sv hF (v_assign rfl) rfl ?_; clear hF a; intro a hF
            refine WL_nil (hK _ _ ?_)
            clear hK K
            replace hF := hF.sub _ (c_ 18 rfl (c_ 17 rfl (c_ 16 rfl (c_ 15 rfl (c_ 8 rfl (c_ 7 rfl (c_ 6 rfl (c_ 0 rfl (n_)))))))))
            refine W_sr rfl (fun K hK => ?_)
            refine sv hF (v_move rfl) rfl ?_; clear hF a; intro a hF
            refine sv hF (v_move rfl) rfl ?_; clear hF a; intro a hF
            refine sv hF (v_lenS rfl sl51 rfl) rfl ?_; clear hF a; intro a hF
            refine sc hF rfl rfl rfl en32 rfl (Identity_ok B (ma.length : Int) _ hS.inv (by omega)) ?_; clear hF a; intro v w' a hv hF
            obtain ⟨obI_, hoI_, hS'⟩ := hv
            obtain ⟨sI_, cI_, rfl, hI_⟩ := hoI_.mat (by decide) (Nat.zero_le _)
            clear hoI_
            replace hAma := (hAma.st hS').mono hS'.ext.size
            replace hAmb := (hAmb.st hS').mono hS'.ext.size
            replace hAmc := (hAmc.st hS').mono hS'.ext.size
            replace hf := hf.st hS'
            replace hX := (hX.st hS').mono hS'.ext.size
            replace hY := (hY.st hS').mono hS'.ext.size
            replace hP := (hP.st hS').mono hS'.ext.size
            replace hQ := (hQ.st hS').mono hS'.ext.size
            replace hS := hS.trans hS'
            clear hS'
            refine sv hF (v_move rfl) rfl ?_; clear hF a; intro a hF
            refine sc hF rfl rfl rfl en31 rfl (MulM_ok B _ (some (8, 285)) fv _ _ (identM (ma.length : Int)) _ _ ma _ hS.inv (Nat.le_refl _) hf hI_ (len20 (idM_lens _)).1 (len20 (idM_lens _)).2 hAma (And.intro hlma hbma).1 (And.intro hlma hbma).2) ?_; clear hF a; intro v w' a hv hF
            obtain ⟨obN, uN, rfl, hoN, hS'⟩ := hv
            rw [show mulM (some (8, 285)) (identM (ma.length : Int)) ma = some ma by rw [identM_of ⟨ha1, ha2⟩]; exact mulM_idl prm_285 hMa ⟨ha1, ha2⟩ ⟨ha3, ha4⟩] at hoN hF
            try simp only [Option.getD_some, Option.getD_none] at hoN
            obtain ⟨sN, cN, rfl, hN⟩ := hoN.mat (by decide) (Nat.zero_le _)
            clear hoN
            replace hAma := (hAma.st hS').mono hS'.ext.size
            replace hAmb := (hAmb.st hS').mono hS'.ext.size
            replace hAmc := (hAmc.st hS').mono hS'.ext.size
            replace hf := hf.st hS'
            replace hX := (hX.st hS').mono hS'.ext.size
            replace hY := (hY.st hS').mono hS'.ext.size
            replace hP := (hP.st hS').mono hS'.ext.size
            replace hQ := (hQ.st hS').mono hS'.ext.size
            replace hI_ := (hI_.st hS').mono hS'.ext.size
            replace hS := hS.trans hS'
            clear hS'
            refine sv hF (v_move rfl) rfl ?_; clear hF a; intro a hF
            refine sv hF (v_ext rfl rfl) rfl ?_; clear hF a; intro a hF
            refine sv hF (v_ext rfl rfl) rfl ?_; clear hF a; intro a hF
            refine sv hF (v_assign rfl) rfl ?_; clear hF a; intro a hF
            refine sv hF (v_assign rfl) rfl ?_; clear hF a; intro a hF
            refine WL_nil (hK _ _ ?_)
            clear hK K
            replace hF := hF.sub _ (c_ 20 rfl (c_ 19 rfl (c_ 18 rfl (c_ 17 rfl (c_ 16 rfl (c_ 15 rfl (c_ 7 rfl (c_ 6 rfl (c_ 0 rfl (n_))))))))))
            refine W_sr rfl (fun K hK => ?_)
            refine sv hF (v_move rfl) rfl ?_; clear hF a; intro a hF
            refine sv hF (v_move rfl) rfl ?_; clear hF a; intro a hF
            refine svg hF rfl ?_
            refine sv hF (v_move rfl) rfl ?_; clear hF a; intro a hF
            refine svg hF rfl ?_
            refine sv hF ((v_eql rfl rfl).as (congrArg Value.bool (decide_eq_true (rfl)))) rfl ?_; clear hF a; intro a hF
            refine sv hF (v_pickT rfl rfl) rfl ?_; clear hF a; intro a hF
            refine sv hF (v_move rfl) rfl ?_; clear hF a; intro a hF
            refine svg hF rfl ?_
            refine sv hF (v_move rfl) rfl ?_; clear hF a; intro a hF
            refine svg hF rfl ?_
            refine sv hF ((v_eql rfl rfl).as (congrArg Value.bool (decide_eq_true (rfl)))) rfl ?_; clear hF a; intro a hF
            refine sv hF (v_pickT rfl rfl) rfl ?_; clear hF a; intro a hF
            refine sv hF (v_move rfl) rfl ?_; clear hF a; intro a hF
            refine svg hF rfl ?_
            refine sv hF (v_move rfl) rfl ?_; clear hF a; intro a hF
            refine svg hF rfl ?_
            refine sv hF (v_move rfl) rfl ?_; clear hF a; intro a hF
            refine svg hF rfl ?_
            refine sc hF rfl rfl rfl en33 rfl (Same4_t B _ _ _ q _ _ q _ hS.inv hP hQ (len1k hql).1 (len1k hql).2 rfl) ?_; clear hF a; intro v w' a hv hF
            obtain ⟨rfl, hS'⟩ := hv
            replace hAma := (hAma.st hS').mono hS'.ext.size
            replace hAmb := (hAmb.st hS').mono hS'.ext.size
            replace hAmc := (hAmc.st hS').mono hS'.ext.size
            replace hf := hf.st hS'
            replace hX := (hX.st hS').mono hS'.ext.size
            replace hY := (hY.st hS').mono hS'.ext.size
            replace hP := (hP.st hS').mono hS'.ext.size
            replace hQ := (hQ.st hS').mono hS'.ext.size
            replace hI_ := (hI_.st hS').mono hS'.ext.size
            replace hN := (hN.st hS').mono hS'.ext.size
            replace hS := hS.trans hS'
            clear hS'
            refine sv hF (v_pickT rfl rfl) rfl ?_; clear hF a; intro a hF
            refine sv hF (v_move rfl) rfl ?_; clear hF a; intro a hF
            refine svg hF rfl ?_
            refine sv hF (v_move rfl) rfl ?_; clear hF a; intro a hF
            refine svg hF rfl ?_
            refine sv hF ((v_eql rfl rfl).as (congrArg Value.bool (decide_eq_true (rfl)))) rfl ?_; clear hF a; intro a hF
            refine sv hF (v_pickT rfl rfl) rfl ?_; clear hF a; intro a hF
            refine sv hF (v_move rfl) rfl ?_; clear hF a; intro a hF
            refine svg hF rfl ?_
            refine sv hF (v_move rfl) rfl ?_; clear hF a; intro a hF
            refine svg hF rfl ?_
            refine sv hF (v_move rfl) rfl ?_; clear hF a; intro a hF
            refine svg hF rfl ?_
            refine sc hF rfl rfl rfl en33 rfl (Same4_t B _ _ _ ma _ _ ma _ hS.inv hN hAma (len1k (mayM_lens hm1)).1 (len1k (mayM_lens hm1)).2 rfl) ?_; clear hF a; intro v w' a hv hF
            obtain ⟨rfl, hS'⟩ := hv
            replace hAma := (hAma.st hS').mono hS'.ext.size
            replace hAmb := (hAmb.st hS').mono hS'.ext.size
            replace hAmc := (hAmc.st hS').mono hS'.ext.size
            replace hf := hf.st hS'
            replace hX := (hX.st hS').mono hS'.ext.size
            replace hY := (hY.st hS').mono hS'.ext.size
            replace hP := (hP.st hS').mono hS'.ext.size
            replace hQ := (hQ.st hS').mono hS'.ext.size
            replace hI_ := (hI_.st hS').mono hS'.ext.size
            replace hN := (hN.st hS').mono hS'.ext.size
            replace hS := hS.trans hS'
            clear hS'
            refine sv hF (v_pickT rfl rfl) rfl ?_; clear hF a; intro a hF
            refine sv hF (v_assign rfl) rfl ?_; clear hF a; intro a hF
            refine WL_nil (hK _ _ ?_)
            clear hK K
            replace hF := hF.sub _ (c_ 6 rfl (n_))
            refine W_ret ?_
            refine ⟨_, _, hF, rfl, ?_⟩
            exact ⟨rfl, hS⟩

end Go.Proofs.Ytlkifpmlpnaaoaa
