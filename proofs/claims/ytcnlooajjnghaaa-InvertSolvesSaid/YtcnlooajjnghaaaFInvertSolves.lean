/- The statement InvertSolves, walked: it returns true. -/
import Derived.Test.YtcnlooajjnghaaaFAw05
set_option linter.unusedVariables false
set_option linter.unusedSimpArgs false
namespace Go.Proofs.Ytcnlooajjnghaaa
open Go Go.Gam


namespace FxFInvertSolves
theorem en13 : Ent Try.prog 13 := ent Try.func13 (by kernel_rfl) (by kernel_rfl)
theorem en14 : Ent Try.prog 14 := ent Try.func14 (by kernel_rfl) (by kernel_rfl)
theorem en16 : Ent Try.prog 16 := ent Try.func16 (by kernel_rfl) (by kernel_rfl)
theorem en18 : Ent Try.prog 18 := ent Try.func18 (by kernel_rfl) (by kernel_rfl)
theorem en30 : Ent Try.prog 30 := ent Try.func30 (by kernel_rfl) (by kernel_rfl)
theorem en31 : Ent Try.prog 31 := ent Try.func31 (by kernel_rfl) (by kernel_rfl)
theorem en32 : Ent Try.prog 32 := ent Try.func32 (by kernel_rfl) (by kernel_rfl)
theorem sc28 : Scalar Try.prog 28 := ⟨_, Try.underlying28, by simp, by simp⟩
theorem sc5 : Scalar Try.prog 5 := ⟨_, Try.underlying5, by simp, by simp⟩
theorem sl22 : Sl Try.prog 22 5 (.int .u8 0) 1 := sl_of Try.underlying22 rfl (by kernel_rfl)
theorem sl28 : Sl Try.prog 28 3 (.int .i64 0) 8 := sl_of Try.underlying28 rfl (by kernel_rfl)
theorem sl29 : Sl Try.prog 29 28 (.slice none 0 0) 24 := sl_of Try.underlying29 rfl (by kernel_rfl)
end FxFInvertSolves
open FxFInvertSolves

set_option maxRecDepth 100000 in
set_option maxHeartbeats 1000000 in
theorem InvertSolves_ok (B M : Nat) (lg : Bool) (pma : Option Addr) (cma : Nat) (ma : Mtx) (pv : Option Addr) (cv : Nat) (v : List Nat) (w : World) (hI : Inv FDx B w) (hM : M ≤ w.heap.size) (hAma : Mat FDx B M w pma cma ma) (hlma : ma.length ≤ maxLen) (hbma : ∀ r ∈ ma, r.length ≤ maxLen) (hvr : Row FDx B M w (.slice pv v.length cv) (byt v)) (hv8 : ∀ x ∈ v, x < 256) (hvl : v.length ≤ maxLen) : Ret Try.prog 8 [.bool lg, .slice pma ma.length cma, .slice pv v.length cv] w fun v w' => v = .bool true ∧ St FDx B w w' := by
  refine enter 104 [(0, .bool lg), (1, .slice pma ma.length cma), (2, .slice pv v.length cv)] 6 Try.func8 rfl rfl rfl rfl rfl ?_; intro a hF
  have hS := St.refl hI
  simp only [maxLen] at hvl
  refine W_sr rfl (fun K hK => ?_)
  refine sv hF (v_assign rfl) rfl ?_; clear hF a; intro a hF
  refine WL_nil (hK _ _ ?_)
  clear hK K
  refine W_sr rfl (fun K hK => ?_)
  refine sc hF rfl rfl rfl en13 rfl (aw05_ok B _ hS.inv) ?_; clear hF a; intro v w' a hv hF
  obtain ⟨rfl, hS'⟩ := hv
  replace hAma := hAma.st hS'
  replace hvr := hvr.st hS'
  replace hS := hS.trans hS'
  clear hS'
  refine sv hF (v_assign rfl) rfl ?_; clear hF a; intro a hF
  refine WL_nil (hK _ _ ?_)
  clear hK K
  replace hF := hF.sub _ (c_ 7 rfl (c_ 6 rfl (c_ 0 rfl (c_ 1 rfl (c_ 2 rfl (n_))))))
  refine W_seq ?_
  refine W_sr rfl (fun K hK => ?_)
  refine sv hF (v_move rfl) rfl ?_; clear hF a; intro a hF
  refine sc hF rfl rfl rfl en18 rfl (Few04_ok B _ _ _ ma _ hAma hlma hbma) ?_; clear hF a; intro v w' a hv hF
  obtain ⟨rfl, hw⟩ := hv
  obtain rfl := hw.symm
  have hS' := St.refl hS.inv
  replace hAma := hAma.st hS'
  replace hvr := hvr.st hS'
  replace hS := hS.trans hS'
  clear hS'
  refine sb hF (v_not rfl) rfl ?_ ?_
  · clear hF a; intro hc1 a hF
    try simp only [decide_eq_true_eq, decide_eq_false_iff_not, Bool.not_eq_true', Bool.not_eq_false', Bool.not_true, Bool.not_false] at hc1
    refine sv hF (v_move rfl) rfl ?_; clear hF a; intro a hF
    refine svn hF rfl rfl rfl ?_; clear hF a; intro a hF
    refine svn hF rfl rfl rfl ?_; clear hF a; intro a hF
    refine svn hF rfl rfl rfl ?_; clear hF a; intro a hF
    refine sv hF (v_pickT rfl rfl) rfl ?_; clear hF a; intro a hF
    refine WL_nil (hK _ _ ?_)
    clear hK K
    replace hF := hF.sub _ (c_ 27 rfl (c_ 7 rfl (c_ 6 rfl (c_ 0 rfl (c_ 1 rfl (c_ 2 rfl (n_)))))))
    refine W_ifT hF rfl ?_
    refine W_sr rfl (fun K hK => ?_)
    refine sv hF (v_move rfl) rfl ?_; clear hF a; intro a hF
    refine sv hF (v_assign rfl) rfl ?_; clear hF a; intro a hF
    refine WL_nil (hK _ _ ?_)
    clear hK K
    replace hF := hF.sub _ (c_ 6 rfl (c_ 7 rfl (c_ 0 rfl (c_ 1 rfl (c_ 2 rfl (n_))))))
    refine W_ret ?_
    refine ⟨_, _, hF, rfl, ?_⟩
    exact ⟨rfl, hS⟩
  · clear hF a; intro hc1 a hF
    try simp only [decide_eq_true_eq, decide_eq_false_iff_not, Bool.not_eq_true', Bool.not_eq_false', Bool.not_true, Bool.not_false] at hc1
    refine sv hF (v_move rfl) rfl ?_; clear hF a; intro a hF
    refine svg hF rfl ?_
    refine sv hF (v_move rfl) rfl ?_; clear hF a; intro a hF
    refine svg hF rfl ?_
    refine sv hF (v_lenS rfl sl22 rfl) rfl ?_; clear hF a; intro a hF
    refine svg hF rfl ?_
    refine sv hF (v_gtr rfl rfl) rfl ?_; clear hF a; intro a hF
    refine sv hF (v_pickF rfl rfl) rfl ?_; clear hF a; intro a hF
    refine WL_nil (hK _ _ ?_)
    clear hK K
    replace hF := hF.sub _ (c_ 27 rfl (c_ 7 rfl (c_ 6 rfl (c_ 0 rfl (c_ 1 rfl (c_ 2 rfl (n_)))))))
    refine W_if hF rfl (fun hc2 => ?_) (fun hc2 => ?_)
    · skip
      try simp only [decide_eq_true_eq, decide_eq_false_iff_not, Bool.not_eq_true', Bool.not_eq_false', Bool.not_true, Bool.not_false] at hc2
      refine W_sr rfl (fun K hK => ?_)
      refine sv hF (v_move rfl) rfl ?_; clear hF a; intro a hF
      refine sv hF (v_assign rfl) rfl ?_; clear hF a; intro a hF
      refine WL_nil (hK _ _ ?_)
      clear hK K
      replace hF := hF.sub _ (c_ 6 rfl (c_ 7 rfl (c_ 0 rfl (c_ 1 rfl (c_ 2 rfl (n_))))))
      refine W_ret ?_
      refine ⟨_, _, hF, rfl, ?_⟩
      exact ⟨rfl, hS⟩
    · skip
      try simp only [decide_eq_true_eq, decide_eq_false_iff_not, Bool.not_eq_true', Bool.not_eq_false', Bool.not_true, Bool.not_false] at hc2
      refine W_skip ?_
      have hfma : fewM ma = true := by simpa using hc1
      have hfl := (fewM_iff.1 hfma).1
      refine W_sr rfl (fun K hK => ?_)
      refine sv hF (v_move rfl) rfl ?_; clear hF a; intro a hF
      refine sc hF rfl rfl rfl en14 rfl (field5_ok B lg _ hS.inv) ?_; clear hF a; intro v w' a hv hF
      obtain ⟨fv, rfl, hf, hS'⟩ := hv
      obtain ⟨⟨wb, p⟩, hq⟩ : ∃ q, fq lg = q := ⟨_, rfl⟩
      have hq1 : (fq lg).1 = wb := by rw [hq]
      have hq2 : (fq lg).2 = p := by rw [hq]
      rw [hq] at hf
      rw [hq1, hq2] at hF
      clear hq1 hq2
      have hp : Prm wb p := hf.1
      replace hAma := hAma.st hS'
      replace hvr := hvr.st hS'
      replace hS := hS.trans hS'
      clear hS'
      refine sv hF (v_move rfl) rfl ?_; clear hF a; intro a hF
      refine sv hF (v_ext rfl rfl) rfl ?_; clear hF a; intro a hF
      refine sv hF (v_ext rfl rfl) rfl ?_; clear hF a; intro a hF
      refine sv hF (v_ext rfl rfl) rfl ?_; clear hF a; intro a hF
      refine sv hF (v_assign rfl) rfl ?_; clear hF a; intro a hF
      refine sv hF (v_assign rfl) rfl ?_; clear hF a; intro a hF
      refine sv hF (v_assign rfl) rfl ?_; clear hF a; intro a hF
      refine WL_nil (hK _ _ ?_)
      clear hK K
      replace hF := hF.sub _ (c_ 8 rfl (c_ 7 rfl (c_ 6 rfl (c_ 1 rfl (c_ 2 rfl (n_))))))
      refine W_sr rfl (fun K hK => ?_)
      refine sv hF (v_assign rfl) rfl ?_; clear hF a; intro a hF
      refine WL_nil (hK _ _ ?_)
      clear hK K
      refine W_seq ?_
      refine W_sr rfl (fun K hK => ?_)
      refine sv hF (v_assign rfl) rfl ?_; clear hF a; intro a hF
      refine WL_nil (hK _ _ ?_)
      clear hK K
      refine W_block ?_
      refine W_loop (fun m a w1 => ∃ (i : Nat) (v11 : Value) (b11 : Option Nat), Fr 104 [(1, .slice pma ma.length cma), (2, .slice pv v.length cv), (7, .bool true), (8, fv), (11, v11), (12, .int .i64 (i : Int))] a ∧ (St FDx B w w1) ∧ (Mat FDx B M w1 pma cma ma) ∧ (Row FDx B M w1 (.slice pv v.length cv) (byt v)) ∧ (Fo FDx B w1 fv (some (wb, p))) ∧ (Gam.Own FDx B w.heap.size w1 FDx.E v11 b11 (zints ((v.take i).map fun (x : Nat) => (x : Int)))) ∧ (i ≤ v.length) ∧ (m + i = v.length)) (v.length) ?_ ?_
      · skip
        exact ⟨0, _, none, hF.sub _ (c_ 1 rfl (c_ 2 rfl (c_ 7 rfl (c_ 8 rfl (c_ 11 rfl (c_ 12 rfl (n_))))))), hS, hAma, hvr, hf, Gam.Own.nil _ _ _ _ _, by omega, by omega⟩
      · skip
        clear hF
        clear hS hAma hvr hf
        rintro m a w1 ⟨i, v11, b11, hF, hS, hAma, hvr, hf, hO, hi, hm⟩
        refine W_seq ?_
        refine W_sr rfl (fun K hK => ?_)
        refine sv hF (v_move rfl) rfl ?_; clear hF a; intro a hF
        refine sv hF (v_move rfl) rfl ?_; clear hF a; intro a hF
        refine sv hF (v_lenS rfl sl22 rfl) rfl ?_; clear hF a; intro a hF
        refine sv hF (v_lss rfl rfl) rfl ?_; clear hF a; intro a hF
        refine WL_nil (hK _ _ ?_)
        clear hK K
        replace hF := hF.sub _ (c_ 38 rfl (c_ 1 rfl (c_ 2 rfl (c_ 7 rfl (c_ 8 rfl (c_ 11 rfl (c_ 12 rfl (n_))))))))
        refine W_if hF rfl (fun hc3 => ?_) (fun hc3 => ?_)
        · skip
          try simp only [decide_eq_true_eq, decide_eq_false_iff_not, Bool.not_eq_true', Bool.not_eq_false', Bool.not_true, Bool.not_false] at hc3
          have hlt : i < v.length := by omega
          obtain ⟨x, hx0⟩ : ∃ x, v[i]? = some x := ⟨_, List.getElem?_eq_getElem hlt⟩
          have hx8 := hv8 x (List.mem_of_getElem? hx0)
          obtain ⟨-, gv, ov, hgv, -⟩ := hvr.at (byt_at hx0)
          subst hgv
          have hzl : (zints ((v.take i).map fun (x : Nat) => (x : Int))).length = i := by rw [zints_length]; simp; omega
          refine W_skip ?_
          refine W_seq ?_
          refine W_block ?_
          refine W_reg rfl (fun K hK => ?_)
          refine sv hF (v_move rfl) rfl ?_; clear hF a; intro a hF
          refine sv hF (v_move rfl) rfl ?_; clear hF a; intro a hF
          refine sv hF (v_move rfl) rfl ?_; clear hF a; intro a hF
          refine sv hF (v_ixS sl22 rfl rfl (by omega) (by omega)) rfl ?_; clear hF a; intro a hF
          refine sv hF (v_load sc5 rfl (by rw [toNat_c]; exact hvr.ldx (Ext.refl _ _ _) (byt_at hx0))) rfl ?_; clear hF a; intro a hF
          refine sv hF (v_cv Try.underlying5 Try.underlying3 rfl (wrap_i64 _ (by omega))) rfl ?_; clear hF a; intro a hF
          refine s_bs (D := FDx) (B := B) hF sl28 rfl rfl (by decide) (by simp [Value.cells]) (by decide) hS.inv rfl ?_; clear hF a; intro w' a hm hI' hb hF
          replace hAma := hAma.mb hm (fun _ h => by cases h)
          replace hvr := hvr.mb hm (fun _ h => by cases h)
          replace hf := hf.mb hm
          replace hO := hO.mb hm (fun _ _ => by simp)
          replace hS := hS.mb0 hm
          clear hm hI'
          refine s_app (D := FDx) (B := B) hF rfl sl28 rfl rfl hO (hb.row (by decide)) (by simp [Value.oneCell']) (by rw [hzl]; simp; omega) (by rw [hzl]; simp [maxLen]; omega) (hS.ext.size) (by decide) hS.inv rfl ?_; clear hF a; intro v' b' w' a ho' hm hI' hb' hF
          replace hAma := hAma.mb hm (fun k h => Nat.le_trans (hM) (hO.lt k h).1)
          replace hvr := hvr.mb hm (fun k h => Nat.le_trans (hM) (hO.lt k h).1)
          replace hf := hf.mb hm
          replace hS := hS.mb hm (fun k h => Nat.le_trans (Nat.le_refl _) (hO.lt k h).1)
          replace hO := ho'
          clear hm hI' ho' hb
          refine sv hF (v_assign rfl) rfl ?_; clear hF a; intro a hF
          refine WL_nil (hK _ _ ?_)
          clear hK K
          replace hF := hF.sub _ (c_ 11 rfl (c_ 1 rfl (c_ 2 rfl (c_ 7 rfl (c_ 8 rfl (c_ 12 rfl (n_)))))))
          refine W_reg rfl (fun K hK => ?_)
          refine sv hF (v_move rfl) rfl ?_; clear hF a; intro a hF
          refine sv hF (v_addI rfl rfl (by omega)) rfl ?_; clear hF a; intro a hF
          refine sv hF (v_assign rfl) rfl ?_; clear hF a; intro a hF
          refine WL_nil (hK _ _ ?_)
          clear hK K
          exact ⟨m - 1, by omega, i + 1, _, _, hF.sub _ (c_ 1 rfl (c_ 2 rfl (c_ 7 rfl (c_ 8 rfl (c_ 11 rfl (c_ 12 rfl (n_))))))), hS, hAma, hvr, hf, hO.cast (by rw [map_snoc hx0]; simp [zints]), by omega, by omega⟩
        · skip
          try simp only [decide_eq_true_eq, decide_eq_false_iff_not, Bool.not_eq_true', Bool.not_eq_false', Bool.not_true, Bool.not_false] at hc3
          obtain rfl : i = v.length := by omega
          rw [List.take_length] at hO
          obtain ⟨s11, c11, rfl⟩ := hO.shape
          have hL := hO.row (by decide)
          rw [zints_length] at hL hF
          clear hO hvr
          replace hAma := hAma.mono (show M ≤ w1.heap.size from (Nat.le_trans hM hS.ext.size))
          have hzl : (v.map fun (x : Nat) => (x : Int)).length = v.length := by simp
          refine W_exit rfl ?_
          refine W_sr rfl (fun K hK => ?_)
          refine sv hF (v_move rfl) rfl ?_; clear hF a; intro a hF
          refine sv hF (v_move rfl) rfl ?_; clear hF a; intro a hF
          refine sv hF (v_move rfl) rfl ?_; clear hF a; intro a hF
          refine sc hF rfl rfl rfl en30 rfl (Apply_ok B _ (some (wb, p)) fv _ _ ma _ _ (v.map fun (x : Nat) => (x : Int)) _ hS.inv (Nat.le_refl _) hf hAma (len1k (few20 hfma)).1 (len1k (few20 hfma)).2 hL (by omega)) ?_; clear hF a; intro v w' a hv hF
          obtain ⟨sG, obG, rfl, hOG, hS'⟩ := hv
          obtain ⟨aG, cG, rfl⟩ := hOG.shape
          have hG := hOG.row (by decide)
          rw [zints_length] at hG hF
          clear hOG
          replace hAma := (hAma.st hS').mono hS'.ext.size
          replace hL := (hL.st hS').mono hS'.ext.size
          replace hf := hf.st hS'
          replace hS := hS.trans hS'
          clear hS'
          refine sv hF (v_move rfl) rfl ?_; clear hF a; intro a hF
          refine sv hF (v_ext rfl rfl) rfl ?_; clear hF a; intro a hF
          refine sv hF (v_ext rfl rfl) rfl ?_; clear hF a; intro a hF
          refine sv hF (v_assign rfl) rfl ?_; clear hF a; intro a hF
          refine sv hF (v_assign rfl) rfl ?_; clear hF a; intro a hF
          refine WL_nil (hK _ _ ?_)
          clear hK K
          replace hF := hF.sub _ (c_ 14 rfl (c_ 13 rfl (c_ 55 rfl (c_ 54 rfl (c_ 49 rfl (c_ 53 rfl (c_ 52 rfl (c_ 51 rfl (c_ 50 rfl (c_ 1 rfl (c_ 2 rfl (c_ 7 rfl (c_ 8 rfl (c_ 11 rfl (c_ 12 rfl (n_))))))))))))))))
          refine W_seq ?_
          refine W_sr rfl (fun K hK => ?_)
          refine sv hF (v_move rfl) rfl ?_; clear hF a; intro a hF
          refine sb hF (v_neq rfl rfl) rfl ?_ ?_
          · clear hF a; intro hc4 a hF
            try simp only [decide_eq_true_eq, decide_eq_false_iff_not, Bool.not_eq_true', Bool.not_eq_false', Bool.not_true, Bool.not_false] at hc4
            refine sv hF (v_move rfl) rfl ?_; clear hF a; intro a hF
            refine svn hF rfl rfl rfl ?_; clear hF a; intro a hF
            refine svn hF rfl rfl rfl ?_; clear hF a; intro a hF
            refine svn hF rfl rfl rfl ?_; clear hF a; intro a hF
            refine svn hF rfl rfl rfl ?_; clear hF a; intro a hF
            refine svn hF rfl rfl rfl ?_; clear hF a; intro a hF
            refine svn hF rfl rfl rfl ?_; clear hF a; intro a hF
            refine svn hF rfl rfl rfl ?_; clear hF a; intro a hF
            refine sv hF (v_pickT rfl rfl) rfl ?_; clear hF a; intro a hF
            refine WL_nil (hK _ _ ?_)
            clear hK K
            refine W_ifT hF rfl ?_
            refine W_sr rfl (fun K hK => ?_)
            refine sv hF (v_move rfl) rfl ?_; clear hF a; intro a hF
            refine sv hF (v_assign rfl) rfl ?_; clear hF a; intro a hF
            refine WL_nil (hK _ _ ?_)
            clear hK K
            refine W_ret ?_
            refine ⟨_, _, hF, rfl, ?_⟩
            exact ⟨rfl, hS⟩
          · clear hF a; intro hc4 a hF
            try simp only [decide_eq_true_eq, decide_eq_false_iff_not, Bool.not_eq_true', Bool.not_eq_false', Bool.not_true, Bool.not_false] at hc4
            refine sv hF (v_move rfl) rfl ?_; clear hF a; intro a hF
            refine svg hF rfl ?_
            obtain ⟨y, hy⟩ := errV_eq (Decidable.of_not_not hc4)
            rw [hy] at hF hG
            simp only [Option.getD_some] at hF hG
            obtain ⟨hmayma, -, -, -⟩ := mulM_inv (applyM_mul.1 hy)
            have hmpma := mayM_pos hmayma
            have hyl := apply_len hy
            obtain ⟨r0ma, h0ma⟩ : ∃ r, ma[0]? = some r := ⟨_, List.getElem?_eq_getElem (by omega)⟩
            obtain ⟨g0ma, o0ma, p0ma, c0ma, hg0ma, hk0ma, hrow0ma, -⟩ := hAma.row h0ma
            have hw0ma := wid_at h0ma
            subst hg0ma
            refine sv hF (v_move rfl) rfl ?_; clear hF a; intro a hF
            refine svg hF rfl ?_
            refine sv hF (v_lenS rfl sl29 rfl) rfl ?_; clear hF a; intro a hF
            refine svg hF rfl ?_
            refine sv hF (v_move rfl) rfl ?_; clear hF a; intro a hF
            refine svg hF rfl ?_
            refine sv hF (v_ixS sl29 rfl rfl (by decide) (by omega)) rfl ?_; clear hF a; intro a hF
            refine svg hF rfl ?_
            refine sv hF (v_load sc28 rfl hk0ma.c) rfl ?_; clear hF a; intro a hF
            refine svg hF rfl ?_
            refine sv hF (v_lenS rfl sl28 rfl) rfl ?_; clear hF a; intro a hF
            refine svg hF rfl ?_
            refine sv hF (v_neq rfl rfl) rfl ?_; clear hF a; intro a hF
            refine sv hF (v_pickF rfl rfl) rfl ?_; clear hF a; intro a hF
            refine WL_nil (hK _ _ ?_)
            clear hK K
            refine W_if hF rfl (fun hc5 => ?_) (fun hc5 => ?_)
            · skip
              try simp only [decide_eq_true_eq, decide_eq_false_iff_not, Bool.not_eq_true', Bool.not_eq_false', Bool.not_true, Bool.not_false] at hc5
              refine W_sr rfl (fun K hK => ?_)
              refine sv hF (v_move rfl) rfl ?_; clear hF a; intro a hF
              refine sv hF (v_assign rfl) rfl ?_; clear hF a; intro a hF
              refine WL_nil (hK _ _ ?_)
              clear hK K
              refine W_ret ?_
              refine ⟨_, _, hF, rfl, ?_⟩
              exact ⟨rfl, hS⟩
            · skip
              try simp only [decide_eq_true_eq, decide_eq_false_iff_not, Bool.not_eq_true', Bool.not_eq_false', Bool.not_true, Bool.not_false] at hc5
              refine W_skip ?_
              clear hk0ma hrow0ma
              have hsq := sqM_of (p := p) hmayma (by rw [hw0ma]; omega)
              obtain ⟨hsb1, hsb2⟩ := sol_back hp hsq hy
              refine W_sr rfl (fun K hK => ?_)
              refine sv hF (v_move rfl) rfl ?_; clear hF a; intro a hF
              refine sv hF (v_move rfl) rfl ?_; clear hF a; intro a hF
              refine sv hF (v_move rfl) rfl ?_; clear hF a; intro a hF
              refine sc hF rfl rfl rfl en31 rfl (Solve_ok B _ wb p hp fv _ _ ma _ _ y _ hS.inv (Nat.le_refl _) hf hAma hlma hbma hG (Nat.le_trans (show _ ≤ 1000 by omega) (by decide))) ?_; clear hF a; intro v w' a hv hF
              obtain ⟨sZ, obZ, rfl, hOZ, hS'⟩ := hv
              obtain ⟨aZ, cZ, rfl⟩ := hOZ.shape
              have hZ := hOZ.row (by decide)
              rw [zints_length] at hZ hF
              clear hOZ
              replace hAma := (hAma.st hS').mono hS'.ext.size
              replace hL := (hL.st hS').mono hS'.ext.size
              replace hf := hf.st hS'
              replace hG := (hG.st hS').mono hS'.ext.size
              replace hS := hS.trans hS'
              clear hS'
              refine sv hF (v_move rfl) rfl ?_; clear hF a; intro a hF
              refine sv hF (v_ext rfl rfl) rfl ?_; clear hF a; intro a hF
              refine sv hF (v_ext rfl rfl) rfl ?_; clear hF a; intro a hF
              refine sv hF (v_assign rfl) rfl ?_; clear hF a; intro a hF
              refine sv hF (v_assign rfl) rfl ?_; clear hF a; intro a hF
              refine WL_nil (hK _ _ ?_)
              clear hK K
              refine W_sr rfl (fun K hK => ?_)
              refine sv hF (v_move rfl) rfl ?_; clear hF a; intro a hF
              refine sv hF (v_move rfl) rfl ?_; clear hF a; intro a hF
              refine sc hF rfl rfl rfl en16 rfl (Inverse_ok B _ wb p hp fv _ _ ma _ hS.inv (Nat.le_refl _) hf hAma (And.intro hlma hbma).1 (And.intro hlma hbma).2) ?_; clear hF a; intro v w' a hv hF
              obtain ⟨obX, uX, rfl, hoX, hS'⟩ := hv
              obtain ⟨sX, cX, rfl, hX⟩ := hoX.mat (by decide) (Nat.zero_le _)
              clear hoX
              replace hAma := (hAma.st hS').mono hS'.ext.size
              replace hL := (hL.st hS').mono hS'.ext.size
              replace hf := hf.st hS'
              replace hG := (hG.st hS').mono hS'.ext.size
              replace hZ := (hZ.st hS').mono hS'.ext.size
              replace hS := hS.trans hS'
              clear hS'
              refine sv hF (v_move rfl) rfl ?_; clear hF a; intro a hF
              refine sv hF (v_ext rfl rfl) rfl ?_; clear hF a; intro a hF
              refine sv hF (v_ext rfl rfl) rfl ?_; clear hF a; intro a hF
              refine sv hF (v_assign rfl) rfl ?_; clear hF a; intro a hF
              refine sv hF (v_assign rfl) rfl ?_; clear hF a; intro a hF
              refine WL_nil (hK _ _ ?_)
              clear hK K
              replace hF := hF.sub _ (c_ 18 rfl (c_ 80 rfl (c_ 79 rfl (c_ 75 rfl (c_ 78 rfl (c_ 77 rfl (c_ 76 rfl (c_ 16 rfl (c_ 15 rfl (c_ 74 rfl (c_ 73 rfl (c_ 68 rfl (c_ 72 rfl (c_ 71 rfl (c_ 70 rfl (c_ 69 rfl (c_ 66 rfl (c_ 65 rfl (c_ 64 rfl (c_ 63 rfl (c_ 62 rfl (c_ 61 rfl (c_ 60 rfl (c_ 59 rfl (c_ 58 rfl (c_ 57 rfl (c_ 56 rfl (c_ 14 rfl (c_ 13 rfl (c_ 55 rfl (c_ 54 rfl (c_ 49 rfl (c_ 53 rfl (c_ 52 rfl (c_ 51 rfl (c_ 50 rfl (c_ 1 rfl (c_ 2 rfl (c_ 7 rfl (c_ 8 rfl (c_ 11 rfl (c_ 12 rfl (n_)))))))))))))))))))))))))))))))))))))))))))
              refine W_seq ?_
              refine W_sr rfl (fun K hK => ?_)
              refine sv hF (v_move rfl) rfl ?_; clear hF a; intro a hF
              refine sv hF (v_neq rfl rfl) rfl ?_; clear hF a; intro a hF
              refine WL_nil (hK _ _ ?_)
              clear hK K
              refine W_if hF rfl (fun hc6 => ?_) (fun hc6 => ?_)
              · skip
                try simp only [decide_eq_true_eq, decide_eq_false_iff_not, Bool.not_eq_true', Bool.not_eq_false', Bool.not_true, Bool.not_false] at hc6
                obtain ⟨e1, e2⟩ := hsb1 (by assumption)
                rw [e1] at hF hZ
                rw [e2] at hF
                dsimp only at hF hZ
                refine W_sr rfl (fun K hK => ?_)
                refine sv hF (v_move rfl) rfl ?_; clear hF a; intro a hF
                refine sv hF (v_move rfl) rfl ?_; clear hF a; intro a hF
                refine svg hF rfl ?_
                refine sv hF (v_move rfl) rfl ?_; clear hF a; intro a hF
                refine svg hF rfl ?_
                refine sv hF (v_move rfl) rfl ?_; clear hF a; intro a hF
                refine svg hF rfl ?_
                refine sv hF ((v_eql rfl rfl).as (congrArg Value.bool (decide_eq_true (rfl)))) rfl ?_; clear hF a; intro a hF
                refine sv hF (v_pickT rfl rfl) rfl ?_; clear hF a; intro a hF
                refine sv hF (v_move rfl) rfl ?_; clear hF a; intro a hF
                refine svg hF rfl ?_
                refine sv hF (v_move rfl) rfl ?_; clear hF a; intro a hF
                refine svg hF rfl ?_
                refine sv hF (v_lenS rfl sl28 rfl) rfl ?_; clear hF a; intro a hF
                refine svg hF rfl ?_
                refine sv hF ((v_eql rfl rfl).as (congrArg Value.bool (decide_eq_true (rfl)))) rfl ?_; clear hF a; intro a hF
                refine sv hF (v_pickT rfl rfl) rfl ?_; clear hF a; intro a hF
                refine sv hF (v_assign rfl) rfl ?_; clear hF a; intro a hF
                refine WL_nil (hK _ _ ?_)
                clear hK K
                refine W_ret ?_
                refine ⟨_, _, hF, rfl, ?_⟩
                exact ⟨rfl, hS⟩
              · skip
                try simp only [decide_eq_true_eq, decide_eq_false_iff_not, Bool.not_eq_true', Bool.not_eq_false', Bool.not_true, Bool.not_false] at hc6
                obtain ⟨e1, e2⟩ := hsb2 (Decidable.of_not_not (by assumption))
                rw [e1] at hF hZ
                dsimp only at hF hZ
                refine W_skip ?_
                refine W_sr rfl (fun K hK => ?_)
                refine sv hF (v_move rfl) rfl ?_; clear hF a; intro a hF
                refine sv hF (v_move rfl) rfl ?_; clear hF a; intro a hF
                refine svg hF rfl ?_
                refine sv hF (v_move rfl) rfl ?_; clear hF a; intro a hF
                refine svg hF rfl ?_
                refine sv hF ((v_eql rfl rfl).as (congrArg Value.bool (decide_eq_true (rfl)))) rfl ?_; clear hF a; intro a hF
                refine sv hF (v_pickT rfl rfl) rfl ?_; clear hF a; intro a hF
                refine sv hF (v_move rfl) rfl ?_; clear hF a; intro a hF
                refine svg hF rfl ?_
                refine sv hF (v_move rfl) rfl ?_; clear hF a; intro a hF
                refine svg hF rfl ?_
                refine sv hF (v_move rfl) rfl ?_; clear hF a; intro a hF
                refine svg hF rfl ?_
                refine sc hF rfl rfl rfl en32 rfl (Ints4_t B _ _ _ _ _ _ _ _ hS.inv hZ hL (by omega) rfl) ?_; clear hF a; intro v w' a hv hF
                obtain ⟨rfl, hS'⟩ := hv
                replace hAma := (hAma.st hS').mono hS'.ext.size
                replace hL := (hL.st hS').mono hS'.ext.size
                replace hf := hf.st hS'
                replace hG := (hG.st hS').mono hS'.ext.size
                replace hZ := (hZ.st hS').mono hS'.ext.size
                replace hX := (hX.st hS').mono hS'.ext.size
                replace hS := hS.trans hS'
                clear hS'
                refine sv hF (v_pickT rfl rfl) rfl ?_; clear hF a; intro a hF
                refine sv hF (v_assign rfl) rfl ?_; clear hF a; intro a hF
                refine WL_nil (hK _ _ ?_)
                clear hK K
                refine W_ret ?_
                refine ⟨_, _, hF, rfl, ?_⟩
                exact ⟨rfl, hS⟩

end Go.Proofs.Ytcnlooajjnghaaa
