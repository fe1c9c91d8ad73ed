/- The statement MatrixApply, walked: it returns true. -/
import Derived.Test.YtlkifpmlpnaaoaaFAw04
set_option linter.unusedVariables false
set_option linter.unusedSimpArgs false
namespace Go.Proofs.Ytlkifpmlpnaaoaa
open Go Go.Gam


namespace FxFMatrixApply
theorem en22 : Ent Try.prog 22 := ent Try.func22 (by kernel_rfl) (by kernel_rfl)
theorem en28 : Ent Try.prog 28 := ent Try.func28 (by kernel_rfl) (by kernel_rfl)
theorem en29 : Ent Try.prog 29 := ent Try.func29 (by kernel_rfl) (by kernel_rfl)
theorem en30 : Ent Try.prog 30 := ent Try.func30 (by kernel_rfl) (by kernel_rfl)
theorem en31 : Ent Try.prog 31 := ent Try.func31 (by kernel_rfl) (by kernel_rfl)
theorem en42 : Ent Try.prog 42 := ent Try.func42 (by kernel_rfl) (by kernel_rfl)
theorem hmix : Try.prog.follows .mixedOrders = true := by kernel_rfl
theorem sc3 : Scalar Try.prog 3 := ⟨_, Try.underlying3, by simp, by simp⟩
theorem sc5 : Scalar Try.prog 5 := ⟨_, Try.underlying5, by simp, by simp⟩
theorem sl22 : Sl Try.prog 22 5 (.int .u8 0) 1 := sl_of Try.underlying22 rfl (by kernel_rfl)
theorem sl23 : Sl Try.prog 23 3 (.int .i64 0) 8 := sl_of Try.underlying23 rfl (by kernel_rfl)
theorem sl51 : Sl Try.prog 51 23 (.slice none 0 0) 24 := sl_of Try.underlying51 rfl (by kernel_rfl)
end FxFMatrixApply
open FxFMatrixApply

set_option maxRecDepth 100000 in
set_option maxHeartbeats 1000000 in
theorem MatrixApply_ok (B M : Nat) (pma : Option Addr) (cma : Nat) (ma : Mtx) (pmb : Option Addr) (cmb : Nat) (mb : Mtx) (pv : Option Addr) (cv : Nat) (v : List Nat) (w : World) (hI : Inv FDx B w) (hM : M ≤ w.heap.size) (hAma : Mat FDx B M w pma cma ma) (hlma : ma.length ≤ maxLen) (hbma : ∀ r ∈ ma, r.length ≤ maxLen) (hAmb : Mat FDx B M w pmb cmb mb) (hlmb : mb.length ≤ maxLen) (hbmb : ∀ r ∈ mb, r.length ≤ maxLen) (hvr : Row FDx B M w (.slice pv v.length cv) (byt v)) (hv8 : ∀ x ∈ v, x < 256) (hvl : v.length ≤ maxLen) : Ret Try.prog 11 [.slice pma ma.length cma, .slice pmb mb.length cmb, .slice pv v.length cv] w fun v w' => v = .bool true ∧ St FDx B w w' := by
  refine enter 194 [(0, .slice pma ma.length cma), (1, .slice pmb mb.length cmb), (2, .slice pv v.length cv)] 6 Try.func11 rfl rfl rfl rfl rfl ?_; intro a hF
  have hS := St.refl hI
  simp only [maxLen] at hvl
  refine W_sr rfl (fun K hK => ?_)
  refine sv hF (v_assign rfl) rfl ?_; clear hF a; intro a hF
  refine WL_nil (hK _ _ ?_)
  clear hK K
  refine W_sr rfl (fun K hK => ?_)
  refine sc hF rfl rfl rfl en28 rfl (aw04_ok B _ hS.inv) ?_; clear hF a; intro v w' a hv hF
  obtain ⟨rfl, hS'⟩ := hv
  replace hAma := hAma.st hS'
  replace hAmb := hAmb.st hS'
  replace hvr := hvr.st hS'
  replace hS := hS.trans hS'
  clear hS'
  refine sv hF (v_assign rfl) rfl ?_; clear hF a; intro a hF
  refine WL_nil (hK _ _ ?_)
  clear hK K
  replace hF := hF.sub _ (c_ 7 rfl (c_ 6 rfl (c_ 0 rfl (c_ 1 rfl (c_ 2 rfl (n_))))))
  refine W_seq ?_
  refine W_sr rfl (fun K hK => ?_)
  refine sv hF (v_move rfl) rfl ?_; clear hF a; intro a hF
  refine sc hF rfl rfl rfl en29 rfl (Few04_ok B _ _ _ ma _ hAma hlma hbma) ?_; clear hF a; intro v w' a hv hF
  obtain ⟨rfl, hw⟩ := hv
  obtain rfl := hw.symm
  have hS' := St.refl hS.inv
  replace hAma := hAma.st hS'
  replace hAmb := hAmb.st hS'
  replace hvr := hvr.st hS'
  replace hS := hS.trans hS'
  clear hS'
  refine sb hF (v_not rfl) rfl ?_ ?_
  · clear hF a; intro hc1 a hF
    try simp only [decide_eq_true_eq, decide_eq_false_iff_not, Bool.not_eq_true', Bool.not_eq_false', Bool.not_true, Bool.not_false] at hc1
    refine sv hF (v_move rfl) rfl ?_; clear hF a; intro a hF
    refine svn hF rfl rfl rfl ?_; clear hF a; intro a hF
    refine svn hF rfl rfl rfl ?_; clear hF a; intro a hF
    refine svn hF rfl rfl rfl ?_; clear hF a; intro a hF
    refine sv hF (v_pickT rfl rfl) rfl ?_; clear hF a; intro a hF
    refine sv hF (v_move rfl) rfl ?_; clear hF a; intro a hF
    refine svn hF rfl rfl rfl ?_; clear hF a; intro a hF
    refine svn hF rfl rfl rfl ?_; clear hF a; intro a hF
    refine svn hF rfl rfl rfl ?_; clear hF a; intro a hF
    refine sv hF (v_pickT rfl rfl) rfl ?_; clear hF a; intro a hF
    refine sv hF (v_move rfl) rfl ?_; clear hF a; intro a hF
    refine svn hF rfl rfl rfl ?_; clear hF a; intro a hF
    refine svn hF rfl rfl rfl ?_; clear hF a; intro a hF
    refine svn hF rfl rfl rfl ?_; clear hF a; intro a hF
    refine svn hF rfl rfl rfl ?_; clear hF a; intro a hF
    refine sv hF (v_pickT rfl rfl) rfl ?_; clear hF a; intro a hF
    refine WL_nil (hK _ _ ?_)
    clear hK K
    replace hF := hF.sub _ (c_ 48 rfl (c_ 7 rfl (c_ 6 rfl (c_ 0 rfl (c_ 1 rfl (c_ 2 rfl (n_)))))))
    refine W_ifT hF rfl ?_
    refine W_sr rfl (fun K hK => ?_)
    refine sv hF (v_move rfl) rfl ?_; clear hF a; intro a hF
    refine sv hF (v_assign rfl) rfl ?_; clear hF a; intro a hF
    refine WL_nil (hK _ _ ?_)
    clear hK K
    replace hF := hF.sub _ (c_ 6 rfl (c_ 7 rfl (c_ 0 rfl (c_ 1 rfl (c_ 2 rfl (n_))))))
    refine W_ret ?_
    refine ⟨_, _, hF, rfl, ?_⟩
    exact ⟨rfl, hS⟩
  · clear hF a; intro hc1 a hF
    try simp only [decide_eq_true_eq, decide_eq_false_iff_not, Bool.not_eq_true', Bool.not_eq_false', Bool.not_true, Bool.not_false] at hc1
    refine sv hF (v_move rfl) rfl ?_; clear hF a; intro a hF
    refine svg hF rfl ?_
    refine sv hF (v_move rfl) rfl ?_; clear hF a; intro a hF
    refine svg hF rfl ?_
    refine sc hF rfl rfl rfl en29 rfl (Few04_ok B _ _ _ mb _ hAmb hlmb hbmb) ?_; clear hF a; intro v w' a hv hF
    obtain ⟨rfl, hw⟩ := hv
    obtain rfl := hw.symm
    have hS' := St.refl hS.inv
    replace hAma := hAma.st hS'
    replace hAmb := hAmb.st hS'
    replace hvr := hvr.st hS'
    replace hS := hS.trans hS'
    clear hS'
    refine svg hF rfl ?_
    refine sb hF (v_not rfl) rfl ?_ ?_
    · clear hF a; intro hc2 a hF
      try simp only [decide_eq_true_eq, decide_eq_false_iff_not, Bool.not_eq_true', Bool.not_eq_false', Bool.not_true, Bool.not_false] at hc2
      refine sv hF (v_pickF rfl rfl) rfl ?_; clear hF a; intro a hF
      refine sv hF (v_move rfl) rfl ?_; clear hF a; intro a hF
      refine svn hF rfl rfl rfl ?_; clear hF a; intro a hF
      refine svn hF rfl rfl rfl ?_; clear hF a; intro a hF
      refine svn hF rfl rfl rfl ?_; clear hF a; intro a hF
      refine sv hF (v_pickT rfl rfl) rfl ?_; clear hF a; intro a hF
      refine sv hF (v_move rfl) rfl ?_; clear hF a; intro a hF
      refine svn hF rfl rfl rfl ?_; clear hF a; intro a hF
      refine svn hF rfl rfl rfl ?_; clear hF a; intro a hF
      refine svn hF rfl rfl rfl ?_; clear hF a; intro a hF
      refine svn hF rfl rfl rfl ?_; clear hF a; intro a hF
      refine sv hF (v_pickT rfl rfl) rfl ?_; clear hF a; intro a hF
      refine WL_nil (hK _ _ ?_)
      clear hK K
      replace hF := hF.sub _ (c_ 48 rfl (c_ 7 rfl (c_ 6 rfl (c_ 0 rfl (c_ 1 rfl (c_ 2 rfl (n_)))))))
      refine W_ifT hF rfl ?_
      refine W_sr rfl (fun K hK => ?_)
      refine sv hF (v_move rfl) rfl ?_; clear hF a; intro a hF
      refine sv hF (v_assign rfl) rfl ?_; clear hF a; intro a hF
      refine WL_nil (hK _ _ ?_)
      clear hK K
      replace hF := hF.sub _ (c_ 6 rfl (c_ 7 rfl (c_ 0 rfl (c_ 1 rfl (c_ 2 rfl (n_))))))
      refine W_ret ?_
      refine ⟨_, _, hF, rfl, ?_⟩
      exact ⟨rfl, hS⟩
    · clear hF a; intro hc2 a hF
      try simp only [decide_eq_true_eq, decide_eq_false_iff_not, Bool.not_eq_true', Bool.not_eq_false', Bool.not_true, Bool.not_false] at hc2
      refine sv hF (v_pickF rfl rfl) rfl ?_; clear hF a; intro a hF
      refine sv hF (v_move rfl) rfl ?_; clear hF a; intro a hF
      refine svg hF rfl ?_
      refine sv hF (v_move rfl) rfl ?_; clear hF a; intro a hF
      refine svg hF rfl ?_
      refine sv hF (v_lenS rfl sl22 rfl) rfl ?_; clear hF a; intro a hF
      refine svg hF rfl ?_
      refine sb hF (v_gtr rfl rfl) rfl ?_ ?_
      · clear hF a; intro hc3 a hF
        try simp only [decide_eq_true_eq, decide_eq_false_iff_not, Bool.not_eq_true', Bool.not_eq_false', Bool.not_true, Bool.not_false] at hc3
        refine sv hF (v_pickF rfl rfl) rfl ?_; clear hF a; intro a hF
        refine sv hF (v_move rfl) rfl ?_; clear hF a; intro a hF
        refine svn hF rfl rfl rfl ?_; clear hF a; intro a hF
        refine svn hF rfl rfl rfl ?_; clear hF a; intro a hF
        refine svn hF rfl rfl rfl ?_; clear hF a; intro a hF
        refine svn hF rfl rfl rfl ?_; clear hF a; intro a hF
        refine sv hF (v_pickT rfl rfl) rfl ?_; clear hF a; intro a hF
        refine WL_nil (hK _ _ ?_)
        clear hK K
        replace hF := hF.sub _ (c_ 48 rfl (c_ 7 rfl (c_ 6 rfl (c_ 0 rfl (c_ 1 rfl (c_ 2 rfl (n_)))))))
        refine W_ifT hF rfl ?_
        refine W_sr rfl (fun K hK => ?_)
        refine sv hF (v_move rfl) rfl ?_; clear hF a; intro a hF
        refine sv hF (v_assign rfl) rfl ?_; clear hF a; intro a hF
        refine WL_nil (hK _ _ ?_)
        clear hK K
        replace hF := hF.sub _ (c_ 6 rfl (c_ 7 rfl (c_ 0 rfl (c_ 1 rfl (c_ 2 rfl (n_))))))
        refine W_ret ?_
        refine ⟨_, _, hF, rfl, ?_⟩
        exact ⟨rfl, hS⟩
      · clear hF a; intro hc3 a hF
        try simp only [decide_eq_true_eq, decide_eq_false_iff_not, Bool.not_eq_true', Bool.not_eq_false', Bool.not_true, Bool.not_false] at hc3
        refine sv hF (v_pickF rfl rfl) rfl ?_; clear hF a; intro a hF
        refine sv hF (v_move rfl) rfl ?_; clear hF a; intro a hF
        refine svg hF rfl ?_
        refine sv hF (v_move rfl) rfl ?_; clear hF a; intro a hF
        refine svg hF rfl ?_
        refine sv hF (v_lenS rfl sl22 rfl) rfl ?_; clear hF a; intro a hF
        refine svg hF rfl ?_
        refine sv hF (v_remI rfl rfl (by omega) (by omega)) rfl ?_; clear hF a; intro a hF
        refine svg hF rfl ?_
        refine sv hF (v_neq rfl rfl) rfl ?_; clear hF a; intro a hF
        refine sv hF (v_pickF rfl rfl) rfl ?_; clear hF a; intro a hF
        refine WL_nil (hK _ _ ?_)
        clear hK K
        replace hF := hF.sub _ (c_ 48 rfl (c_ 7 rfl (c_ 6 rfl (c_ 0 rfl (c_ 1 rfl (c_ 2 rfl (n_)))))))
        refine W_if hF rfl (fun hc4 => ?_) (fun hc4 => ?_)
        · skip
          try simp only [decide_eq_true_eq, decide_eq_false_iff_not, Bool.not_eq_true', Bool.not_eq_false', Bool.not_true, Bool.not_false] at hc4
          refine W_sr rfl (fun K hK => ?_)
          refine sv hF (v_move rfl) rfl ?_; clear hF a; intro a hF
          refine sv hF (v_assign rfl) rfl ?_; clear hF a; intro a hF
          refine WL_nil (hK _ _ ?_)
          clear hK K
          replace hF := hF.sub _ (c_ 6 rfl (c_ 7 rfl (c_ 0 rfl (c_ 1 rfl (c_ 2 rfl (n_))))))
          refine W_ret ?_
          refine ⟨_, _, hF, rfl, ?_⟩
          exact ⟨rfl, hS⟩
        · skip
          try simp only [decide_eq_true_eq, decide_eq_false_iff_not, Bool.not_eq_true', Bool.not_eq_false', Bool.not_true, Bool.not_false] at hc4
          refine W_skip ?_
          have hfma : fewM ma = true := by assumption
          have hfmb : fewM mb = true := by assumption
          refine W_sr rfl (fun K hK => ?_)
          refine sc hF rfl rfl rfl en30 rfl (field4_ok B false _ hS.inv) ?_; clear hF a; intro v w' a hv hF
          obtain ⟨fv, rfl, hf, hS'⟩ := hv
          rw [show fq false = (8, 285) from rfl] at hf
          replace hAma := hAma.st hS'
          replace hAmb := hAmb.st hS'
          replace hvr := hvr.st hS'
          replace hS := hS.trans hS'
          clear hS'
          refine sv hF (v_move rfl) rfl ?_; clear hF a; intro a hF
          refine sv hF (v_ext rfl rfl) rfl ?_; clear hF a; intro a hF
          refine sv hF (v_ext rfl rfl) rfl ?_; clear hF a; intro a hF
          refine sv hF (v_ext rfl rfl) rfl ?_; clear hF a; intro a hF
          refine sv hF (v_assign rfl) rfl ?_; clear hF a; intro a hF
          refine sv hF (v_assign rfl) rfl ?_; clear hF a; intro a hF
          refine sv hF (v_assign rfl) rfl ?_; clear hF a; intro a hF
          refine WL_nil (hK _ _ ?_)
          clear hK K
          replace hF := hF.sub _ (c_ 8 rfl (c_ 7 rfl (c_ 6 rfl (c_ 0 rfl (c_ 1 rfl (c_ 2 rfl (n_)))))))
          refine W_sr rfl (fun K hK => ?_)
          refine sv hF (v_move rfl) rfl ?_; clear hF a; intro a hF
          refine sv hF (v_lenS rfl sl22 rfl) rfl ?_; clear hF a; intro a hF
          refine sv hF (v_quoI rfl rfl (by omega) (by omega) (by omega)) rfl ?_; clear hF a; intro a hF
          refine sv hF (v_assign rfl) rfl ?_; clear hF a; intro a hF
          refine WL_nil (hK _ _ ?_)
          clear hK K
          replace hF := hF.sub _ (c_ 11 rfl (c_ 8 rfl (c_ 7 rfl (c_ 6 rfl (c_ 0 rfl (c_ 1 rfl (c_ 2 rfl (n_))))))))
          obtain ⟨h, hh⟩ : ∃ h : Nat, (v.length : Int) / 2 = (h : Int) := ⟨v.length / 2, by omega⟩
          have hvh : v.length = 2 * h ∧ h ≤ 10 := by omega
          rw [hh] at hF
          refine W_sr rfl (fun K hK => ?_)
          refine sv hF (v_assign rfl) rfl ?_; clear hF a; intro a hF
          refine WL_nil (hK _ _ ?_)
          clear hK K
          refine W_sr rfl (fun K hK => ?_)
          refine sv hF (v_assign rfl) rfl ?_; clear hF a; intro a hF
          refine WL_nil (hK _ _ ?_)
          clear hK K
          refine W_sr rfl (fun K hK => ?_)
          refine sv hF (v_assign rfl) rfl ?_; clear hF a; intro a hF
          refine WL_nil (hK _ _ ?_)
          clear hK K
          refine W_seq ?_
          refine W_sr rfl (fun K hK => ?_)
          refine sv hF (v_assign rfl) rfl ?_; clear hF a; intro a hF
          refine WL_nil (hK _ _ ?_)
          clear hK K
          refine W_block ?_
          refine W_loop (fun m a w1 => ∃ (i : Nat) (v12 v13 v14 : Value) (b12 b13 b14 : Option Nat), Fr 194 [(0, .slice pma ma.length cma), (1, .slice pmb mb.length cmb), (2, .slice pv v.length cv), (7, .bool true), (8, fv), (11, .int .i64 (h : Int)), (12, v12), (13, v13), (14, v14), (15, .int .i64 (i : Int))] a ∧ (St FDx B w w1) ∧ (Mat FDx B M w1 pma cma ma) ∧ (Mat FDx B M w1 pmb cmb mb) ∧ (Row FDx B M w1 (.slice pv v.length cv) (byt v)) ∧ (Fo FDx B w1 fv (some (8, 285))) ∧ (Gam.Own FDx B w.heap.size w1 FDx.E v12 b12 (zints (zpart v 0 i))) ∧ (Gam.Own FDx B w.heap.size w1 FDx.E v13 b13 (zints (zpart v h i))) ∧ (Gam.Own FDx B w.heap.size w1 FDx.E v14 b14 (zints (zsum v h i))) ∧ (Dj b12 b13) ∧ (Dj b12 b14) ∧ (Dj b13 b14) ∧ (i ≤ h) ∧ (m + i = h)) (h) ?_ ?_
          · skip
            exact ⟨0, _, _, _, none, none, none, hF.sub _ (c_ 0 rfl (c_ 1 rfl (c_ 2 rfl (c_ 7 rfl (c_ 8 rfl (c_ 11 rfl (c_ 12 rfl (c_ 13 rfl (c_ 14 rfl (c_ 15 rfl (n_))))))))))), hS, hAma, hAmb, hvr, hf, Gam.Own.nil _ _ _ _ _, Gam.Own.nil _ _ _ _ _, Gam.Own.nil _ _ _ _ _, Dj.nil _, Dj.nil _, Dj.nil _, by omega, by omega⟩
          · skip
            clear hF
            clear hS hAma hAmb hvr hf
            rintro m a w1 ⟨i, v12, v13, v14, b12, b13, b14, hF, hS, hAma, hAmb, hvr, hf, hX, hY, hZ, hd1, hd2, hd3, hi, hm⟩
            refine W_seq ?_
            refine W_sr rfl (fun K hK => ?_)
            refine sv hF (v_move rfl) rfl ?_; clear hF a; intro a hF
            refine sv hF (v_move rfl) rfl ?_; clear hF a; intro a hF
            refine sv hF (v_lss rfl rfl) rfl ?_; clear hF a; intro a hF
            refine WL_nil (hK _ _ ?_)
            clear hK K
            replace hF := hF.sub _ (c_ 60 rfl (c_ 0 rfl (c_ 1 rfl (c_ 2 rfl (c_ 7 rfl (c_ 8 rfl (c_ 11 rfl (c_ 12 rfl (c_ 13 rfl (c_ 14 rfl (c_ 15 rfl (n_))))))))))))
            refine W_if hF rfl (fun hc5 => ?_) (fun hc5 => ?_)
            · skip
              try simp only [decide_eq_true_eq, decide_eq_false_iff_not, Bool.not_eq_true', Bool.not_eq_false', Bool.not_true, Bool.not_false] at hc5
              have hlt : i < h := by omega
              obtain ⟨x, hx0⟩ : ∃ x, v[i]? = some x := ⟨_, List.getElem?_eq_getElem (by omega)⟩
              obtain ⟨y, hy0⟩ : ∃ x, v[h + i]? = some x := ⟨_, List.getElem?_eq_getElem (by omega)⟩
              have hx8 := hv8 x (List.mem_of_getElem? hx0)
              have hy8 := hv8 y (List.mem_of_getElem? hy0)
              obtain ⟨-, gv, ov, hgv, -⟩ := hvr.at (byt_at hx0)
              subst hgv
              have hhi : ((h : Int) + (i : Int)).toNat = h + i := by omega
              have hxy : x ^^^ y < 256 := Px.xor_lt (k := 8) hx8 hy8
              refine W_skip ?_
              refine W_seq ?_
              refine W_block ?_
              refine W_sr rfl (fun K hK => ?_)
              refine sv hF (v_move rfl) rfl ?_; clear hF a; intro a hF
              refine sv hF (v_move rfl) rfl ?_; clear hF a; intro a hF
              refine sv hF (v_move rfl) rfl ?_; clear hF a; intro a hF
              refine sv hF (v_ixS sl22 rfl rfl (by omega) (by omega)) rfl ?_; clear hF a; intro a hF
              refine sv hF (v_load sc5 rfl (by rw [toNat_c]; exact hvr.ldx (Ext.refl _ _ _) (byt_at hx0))) rfl ?_; clear hF a; intro a hF
              refine sv hF (v_cv Try.underlying5 Try.underlying3 rfl (wrap_i64 _ (by omega))) rfl ?_; clear hF a; intro a hF
              refine s_bs (D := FDx) (B := B) hF sl23 rfl rfl (by decide) (by simp [Value.cells]) (by decide) hS.inv rfl ?_; clear hF a; intro w' a hm hI' hb hF
              replace hAma := hAma.mb hm (fun _ h => by cases h)
              replace hAmb := hAmb.mb hm (fun _ h => by cases h)
              replace hvr := hvr.mb hm (fun _ h => by cases h)
              replace hf := hf.mb hm
              replace hX := hX.mb hm (fun _ _ => by simp)
              replace hY := hY.mb hm (fun _ _ => by simp)
              replace hZ := hZ.mb hm (fun _ _ => by simp)
              replace hS := hS.mb0 hm
              clear hm hI'
              have hl1 := hY.lt
              have hl2 := hZ.lt
              have hzl : (zints (zpart v 0 i)).length = i := by rw [zints_length]; simp [zpart, zsum]
              refine s_app (D := FDx) (B := B) hF rfl sl23 rfl rfl hX (hb.row (by decide)) (by simp [Value.oneCell']) (by rw [hzl]; simp; omega) (by rw [hzl]; simp [maxLen]; omega) (hS.ext.size) (by decide) hS.inv rfl ?_; clear hF a; intro v' b' w' a ho' hm hI' hb' hF
              replace hAma := hAma.mb hm (fun k h => Nat.le_trans (hM) (hX.lt k h).1)
              replace hAmb := hAmb.mb hm (fun k h => Nat.le_trans (hM) (hX.lt k h).1)
              replace hvr := hvr.mb hm (fun k h => Nat.le_trans (hM) (hX.lt k h).1)
              replace hf := hf.mb hm
              replace hY := hY.mb hm (hd1.symm)
              replace hZ := hZ.mb hm (hd2.symm)
              replace hS := hS.mb hm (fun k h => Nat.le_trans (Nat.le_refl _) (hX.lt k h).1)
              replace hX := ho'
              clear hm hI' ho' hb
              replace hd1 := hd1.app hb' hl1
              replace hd2 := hd2.app hb' hl2
              clear hl1 hl2 hb' hzl
              refine sv hF (v_assign rfl) rfl ?_; clear hF a; intro a hF
              refine WL_nil (hK _ _ ?_)
              clear hK K
              replace hF := hF.sub _ (c_ 12 rfl (c_ 0 rfl (c_ 1 rfl (c_ 2 rfl (c_ 7 rfl (c_ 8 rfl (c_ 11 rfl (c_ 13 rfl (c_ 14 rfl (c_ 15 rfl (n_)))))))))))
              refine W_sr rfl (fun K hK => ?_)
              refine sv hF (v_move rfl) rfl ?_; clear hF a; intro a hF
              refine sv hF (v_move rfl) rfl ?_; clear hF a; intro a hF
              refine sv hF (v_move rfl) rfl ?_; clear hF a; intro a hF
              refine sv hF (v_move rfl) rfl ?_; clear hF a; intro a hF
              refine sv hF (v_addI rfl rfl (by omega)) rfl ?_; clear hF a; intro a hF
              refine sv hF (v_ixS sl22 rfl rfl (by omega) (by omega)) rfl ?_; clear hF a; intro a hF
              refine sv hF (v_load sc5 rfl (by rw [hhi]; exact hvr.ldx (Ext.refl _ _ _) (byt_at hy0))) rfl ?_; clear hF a; intro a hF
              refine sv hF (v_cv Try.underlying5 Try.underlying3 rfl (wrap_i64 _ (by omega))) rfl ?_; clear hF a; intro a hF
              refine s_bs (D := FDx) (B := B) hF sl23 rfl rfl (by decide) (by simp [Value.cells]) (by decide) hS.inv rfl ?_; clear hF a; intro w' a hm hI' hb hF
              replace hAma := hAma.mb hm (fun _ h => by cases h)
              replace hAmb := hAmb.mb hm (fun _ h => by cases h)
              replace hvr := hvr.mb hm (fun _ h => by cases h)
              replace hf := hf.mb hm
              replace hX := hX.mb hm (fun _ _ => by simp)
              replace hY := hY.mb hm (fun _ _ => by simp)
              replace hZ := hZ.mb hm (fun _ _ => by simp)
              replace hS := hS.mb0 hm
              clear hm hI'
              have hl1 := hX.lt
              have hl2 := hZ.lt
              have hzl : (zints (zpart v h i)).length = i := by rw [zints_length]; simp [zpart, zsum]
              refine s_app (D := FDx) (B := B) hF rfl sl23 rfl rfl hY (hb.row (by decide)) (by simp [Value.oneCell']) (by rw [hzl]; simp; omega) (by rw [hzl]; simp [maxLen]; omega) (hS.ext.size) (by decide) hS.inv rfl ?_; clear hF a; intro v' b' w' a ho' hm hI' hb' hF
              replace hAma := hAma.mb hm (fun k h => Nat.le_trans (hM) (hY.lt k h).1)
              replace hAmb := hAmb.mb hm (fun k h => Nat.le_trans (hM) (hY.lt k h).1)
              replace hvr := hvr.mb hm (fun k h => Nat.le_trans (hM) (hY.lt k h).1)
              replace hf := hf.mb hm
              replace hX := hX.mb hm (hd1)
              replace hZ := hZ.mb hm (hd3.symm)
              replace hS := hS.mb hm (fun k h => Nat.le_trans (Nat.le_refl _) (hY.lt k h).1)
              replace hY := ho'
              clear hm hI' ho' hb
              replace hd1 := (hd1.symm.app hb' hl1).symm
              replace hd3 := hd3.app hb' hl2
              clear hl1 hl2 hb' hzl
              refine sv hF (v_assign rfl) rfl ?_; clear hF a; intro a hF
              refine WL_nil (hK _ _ ?_)
              clear hK K
              replace hF := hF.sub _ (c_ 13 rfl (c_ 12 rfl (c_ 0 rfl (c_ 1 rfl (c_ 2 rfl (c_ 7 rfl (c_ 8 rfl (c_ 11 rfl (c_ 14 rfl (c_ 15 rfl (n_)))))))))))
              refine W_dS (fun w2 => w2.cell? ⟨gv, ov + i, none⟩ = some (.int .u8 (x : Int)) ∧ w2.cell? ⟨gv, ov + (h + i), none⟩ = some (.int .u8 (y : Int))) (m := 16) rfl hmix (fun K hK => ?_)
              have hS' := St.drew hS.inv
              replace hAma := hAma.st hS'
              replace hAmb := hAmb.st hS'
              replace hvr := hvr.st hS'
              replace hf := hf.st hS'
              replace hX := hX.st (by decide) hS'
              replace hY := hY.st (by decide) hS'
              replace hZ := hZ.st (by decide) hS'
              replace hS := hS.trans hS'
              clear hS'
              have hSS := And.intro (hvr.ldx (Ext.refl _ _ _) (byt_at hx0)) (hvr.ldx (Ext.refl _ _ _) (byt_at hy0))
              refine b_v (i := 0) rfl (by kernel_rfl) hF (fun w2 hx => v_move rfl) rfl hSS ?_; clear hF a; intro a hF
              refine b_v (i := 1) rfl (by kernel_rfl) hF (fun w2 hx => v_move rfl) rfl hSS ?_; clear hF a; intro a hF
              refine b_v (i := 2) rfl (by kernel_rfl) hF (fun w2 hx => v_move rfl) rfl hSS ?_; clear hF a; intro a hF
              refine b_v (i := 3) rfl (by kernel_rfl) hF (fun w2 hx => v_ixS sl22 rfl rfl (by omega) (by omega)) rfl hSS ?_; clear hF a; intro a hF
              refine b_v (i := 4) rfl (by kernel_rfl) hF (fun w2 hx => v_load sc5 rfl (by rw [toNat_c]; exact hx.1)) rfl hSS ?_; clear hF a; intro a hF
              refine b_v (i := 5) rfl (by kernel_rfl) hF (fun w2 hx => v_move rfl) rfl hSS ?_; clear hF a; intro a hF
              refine b_v (i := 6) rfl (by kernel_rfl) hF (fun w2 hx => v_move rfl) rfl hSS ?_; clear hF a; intro a hF
              refine b_v (i := 7) rfl (by kernel_rfl) hF (fun w2 hx => v_move rfl) rfl hSS ?_; clear hF a; intro a hF
              refine b_v (i := 8) rfl (by kernel_rfl) hF (fun w2 hx => v_addI rfl rfl (by omega)) rfl hSS ?_; clear hF a; intro a hF
              refine b_v (i := 9) rfl (by kernel_rfl) hF (fun w2 hx => v_ixS sl22 rfl rfl (by omega) (by omega)) rfl hSS ?_; clear hF a; intro a hF
              refine b_v (i := 10) rfl (by kernel_rfl) hF (fun w2 hx => v_load sc5 rfl (by rw [hhi]; exact hx.2)) rfl hSS ?_; clear hF a; intro a hF
              refine b_v (i := 11) rfl (by kernel_rfl) hF (fun w2 hx => v_xorN rfl rfl (fits_u8 hx8) (fits_u8 hy8)) rfl hSS ?_; clear hF a; intro a hF
              refine b_v (i := 12) rfl (by kernel_rfl) hF (fun w2 hx => v_cv Try.underlying5 Try.underlying3 rfl (wrap_i64 _ (by omega))) rfl hSS ?_; clear hF a; intro a hF
              refine b_e (i := 13) (by kernel_rfl) rfl ?_
              refine s_bs (D := FDx) (B := B) hF sl23 rfl rfl (by decide) (by simp [Value.cells]) (by decide) hS.inv rfl ?_; clear hF a; intro w' a hm hI' hb hF
              replace hAma := hAma.mb hm (fun _ h => by cases h)
              replace hAmb := hAmb.mb hm (fun _ h => by cases h)
              replace hvr := hvr.mb hm (fun _ h => by cases h)
              replace hf := hf.mb hm
              replace hX := hX.mb hm (fun _ _ => by simp)
              replace hY := hY.mb hm (fun _ _ => by simp)
              replace hZ := hZ.mb hm (fun _ _ => by simp)
              replace hS := hS.mb0 hm
              clear hm hI'
              clear hSS
              have hSS := And.intro (hvr.ldx (Ext.refl _ _ _) (byt_at hx0)) (hvr.ldx (Ext.refl _ _ _) (byt_at hy0))
              refine WL_nil ⟨hSS, ?_⟩
              refine b_e (i := 14) (by kernel_rfl) rfl ?_
              have hl1 := hX.lt
              have hl2 := hY.lt
              have hzl : (zints (zsum v h i)).length = i := by rw [zints_length]; simp [zpart, zsum]
              refine s_app (D := FDx) (B := B) hF rfl sl23 rfl rfl hZ (hb.row (by decide)) (by simp [Value.oneCell']) (by rw [hzl]; simp; omega) (by rw [hzl]; simp [maxLen]; omega) (hS.ext.size) (by decide) hS.inv rfl ?_; clear hF a; intro v' b' w' a ho' hm hI' hb' hF
              replace hAma := hAma.mb hm (fun k h => Nat.le_trans (hM) (hZ.lt k h).1)
              replace hAmb := hAmb.mb hm (fun k h => Nat.le_trans (hM) (hZ.lt k h).1)
              replace hvr := hvr.mb hm (fun k h => Nat.le_trans (hM) (hZ.lt k h).1)
              replace hf := hf.mb hm
              replace hX := hX.mb hm (hd2)
              replace hY := hY.mb hm (hd3)
              replace hS := hS.mb hm (fun k h => Nat.le_trans (Nat.le_refl _) (hZ.lt k h).1)
              replace hZ := ho'
              clear hm hI' ho' hb
              replace hd2 := (hd2.symm.app hb' hl1).symm
              replace hd3 := (hd3.symm.app hb' hl2).symm
              clear hl1 hl2 hb' hzl
              clear hSS
              have hSS := And.intro (hvr.ldx (Ext.refl _ _ _) (byt_at hx0)) (hvr.ldx (Ext.refl _ _ _) (byt_at hy0))
              refine WL_nil ⟨hSS, ?_⟩
              refine b_v (i := 15) rfl (by kernel_rfl) hF (fun w2 hx => v_assign rfl) rfl hSS ?_; clear hF a; intro a hF
              refine b_done (by kernel_rfl) (hK _ _ ?_)
              clear hK K
              replace hF := hF.sub _ (c_ 14 rfl (c_ 13 rfl (c_ 12 rfl (c_ 0 rfl (c_ 1 rfl (c_ 2 rfl (c_ 7 rfl (c_ 8 rfl (c_ 11 rfl (c_ 15 rfl (n_)))))))))))
              refine W_reg rfl (fun K hK => ?_)
              refine sv hF (v_move rfl) rfl ?_; clear hF a; intro a hF
              refine sv hF (v_addI rfl rfl (by omega)) rfl ?_; clear hF a; intro a hF
              refine sv hF (v_assign rfl) rfl ?_; clear hF a; intro a hF
              refine WL_nil (hK _ _ ?_)
              clear hK K
              exact ⟨m - 1, by omega, i + 1, _, _, _, _, _, _, hF.sub _ (c_ 0 rfl (c_ 1 rfl (c_ 2 rfl (c_ 7 rfl (c_ 8 rfl (c_ 11 rfl (c_ 12 rfl (c_ 13 rfl (c_ 14 rfl (c_ 15 rfl (n_))))))))))), hS, hAma, hAmb, hvr, hf, hX.cast (by rw [zpart_snoc (h := 0) (by rw [Nat.zero_add]; exact hx0)]; simp [zints]), hY.cast (by rw [zpart_snoc hy0]; simp [zints]), hZ.cast (by rw [zsum_snoc hx0 hy0]; simp [zints]), hd1, hd2, hd3, by omega, by omega⟩
            · skip
              try simp only [decide_eq_true_eq, decide_eq_false_iff_not, Bool.not_eq_true', Bool.not_eq_false', Bool.not_true, Bool.not_false] at hc5
              obtain rfl : i = h := by omega
              obtain ⟨sX, cX, rfl⟩ := hX.shape
              have hrX := hX.row (by decide)
              rw [zints_length] at hrX hF
              obtain ⟨sY, cY, rfl⟩ := hY.shape
              have hrY := hY.row (by decide)
              rw [zints_length] at hrY hF
              obtain ⟨sZ, cZ, rfl⟩ := hZ.shape
              have hrZ := hZ.row (by decide)
              rw [zints_length] at hrZ hF
              clear hX hY hZ hd1 hd2 hd3 hvr
              replace hAma := hAma.mono (show M ≤ w1.heap.size from (Nat.le_trans hM hS.ext.size))
              replace hAmb := hAmb.mono (show M ≤ w1.heap.size from (Nat.le_trans hM hS.ext.size))
              have hxl := zpart_length v 0 i
              have hyl := zpart_length v i i
              have hzl := zsum_length v i i
              refine W_exit rfl ?_
              refine W_sr rfl (fun K hK => ?_)
              refine sv hF (v_move rfl) rfl ?_; clear hF a; intro a hF
              refine sv hF (v_move rfl) rfl ?_; clear hF a; intro a hF
              refine sv hF (v_move rfl) rfl ?_; clear hF a; intro a hF
              refine sc hF rfl rfl rfl en31 rfl (MulM_ok B _ (some (8, 285)) fv _ _ ma _ _ mb _ hS.inv (Nat.le_refl _) hf hAma (And.intro hlma hbma).1 (And.intro hlma hbma).2 hAmb (And.intro hlmb hbmb).1 (And.intro hlmb hbmb).2) ?_; clear hF a; intro v w' a hv hF
              obtain ⟨obP, uP, rfl, hoP, hS'⟩ := hv
              obtain ⟨sP, cP, rfl, hP⟩ := hoP.mat (by decide) (Nat.zero_le _)
              clear hoP
              replace hAma := (hAma.st hS').mono hS'.ext.size
              replace hAmb := (hAmb.st hS').mono hS'.ext.size
              replace hrX := (hrX.st hS').mono hS'.ext.size
              replace hrY := (hrY.st hS').mono hS'.ext.size
              replace hrZ := (hrZ.st hS').mono hS'.ext.size
              replace hf := hf.st hS'
              replace hS := hS.trans hS'
              clear hS'
              refine sv hF (v_move rfl) rfl ?_; clear hF a; intro a hF
              refine sv hF (v_ext rfl rfl) rfl ?_; clear hF a; intro a hF
              refine sv hF (v_ext rfl rfl) rfl ?_; clear hF a; intro a hF
              refine sv hF (v_assign rfl) rfl ?_; clear hF a; intro a hF
              refine sv hF (v_assign rfl) rfl ?_; clear hF a; intro a hF
              refine WL_nil (hK _ _ ?_)
              clear hK K
              replace hF := hF.sub _ (c_ 17 rfl (c_ 16 rfl (c_ 102 rfl (c_ 101 rfl (c_ 96 rfl (c_ 100 rfl (c_ 99 rfl (c_ 98 rfl (c_ 97 rfl (c_ 0 rfl (c_ 1 rfl (c_ 2 rfl (c_ 7 rfl (c_ 8 rfl (c_ 11 rfl (c_ 12 rfl (c_ 13 rfl (c_ 14 rfl (c_ 15 rfl (n_))))))))))))))))))))
              refine W_sr rfl (fun K hK => ?_)
              refine sv hF (v_move rfl) rfl ?_; clear hF a; intro a hF
              refine sv hF (v_move rfl) rfl ?_; clear hF a; intro a hF
              refine sv hF (v_move rfl) rfl ?_; clear hF a; intro a hF
              refine sc hF rfl rfl rfl en42 rfl (Apply_ok B _ (some (8, 285)) fv _ _ mb _ _ (zpart v 0 i) _ hS.inv (Nat.le_refl _) hf hAmb ((len1k (few20 hfmb))).1 ((len1k (few20 hfmb))).2 hrX (by omega)) ?_; clear hF a; intro v w' a hv hF
              obtain ⟨sG, obG, rfl, hOG, hS'⟩ := hv
              obtain ⟨aG, cG, rfl⟩ := hOG.shape
              have hG := hOG.row (by decide)
              rw [zints_length] at hG hF
              clear hOG
              replace hAma := (hAma.st hS').mono hS'.ext.size
              replace hAmb := (hAmb.st hS').mono hS'.ext.size
              replace hrX := (hrX.st hS').mono hS'.ext.size
              replace hrY := (hrY.st hS').mono hS'.ext.size
              replace hrZ := (hrZ.st hS').mono hS'.ext.size
              replace hf := hf.st hS'
              replace hP := (hP.st hS').mono hS'.ext.size
              replace hS := hS.trans hS'
              clear hS'
              refine sv hF (v_move rfl) rfl ?_; clear hF a; intro a hF
              refine sv hF (v_ext rfl rfl) rfl ?_; clear hF a; intro a hF
              refine sv hF (v_ext rfl rfl) rfl ?_; clear hF a; intro a hF
              refine sv hF (v_assign rfl) rfl ?_; clear hF a; intro a hF
              refine sv hF (v_assign rfl) rfl ?_; clear hF a; intro a hF
              refine WL_nil (hK _ _ ?_)
              clear hK K
              refine W_seq ?_
              refine W_sr rfl (fun K hK => ?_)
              refine sv hF (v_move rfl) rfl ?_; clear hF a; intro a hF
              refine sb hF (v_neq rfl rfl) rfl ?_ ?_
              · clear hF a; intro hc6 a hF
                try simp only [decide_eq_true_eq, decide_eq_false_iff_not, Bool.not_eq_true', Bool.not_eq_false', Bool.not_true, Bool.not_false] at hc6
                refine sv hF (v_move rfl) rfl ?_; clear hF a; intro a hF
                refine svn hF rfl rfl rfl ?_; clear hF a; intro a hF
                refine svn hF rfl rfl rfl ?_; clear hF a; intro a hF
                refine sv hF (v_pickT rfl rfl) rfl ?_; clear hF a; intro a hF
                refine WL_nil (hK _ _ ?_)
                clear hK K
                refine W_ifT hF rfl ?_
                refine W_sr rfl (fun K hK => ?_)
                refine sv hF (v_move rfl) rfl ?_; clear hF a; intro a hF
                refine sv hF (v_assign rfl) rfl ?_; clear hF a; intro a hF
                refine WL_nil (hK _ _ ?_)
                clear hK K
                refine W_ret ?_
                refine ⟨_, _, hF, rfl, ?_⟩
                exact ⟨rfl, hS⟩
              · clear hF a; intro hc6 a hF
                try simp only [decide_eq_true_eq, decide_eq_false_iff_not, Bool.not_eq_true', Bool.not_eq_false', Bool.not_true, Bool.not_false] at hc6
                refine sv hF (v_move rfl) rfl ?_; clear hF a; intro a hF
                refine svg hF rfl ?_
                refine sv hF (v_move rfl) rfl ?_; clear hF a; intro a hF
                refine svg hF rfl ?_
                refine sv hF (v_neq rfl rfl) rfl ?_; clear hF a; intro a hF
                refine sv hF (v_pickF rfl rfl) rfl ?_; clear hF a; intro a hF
                refine WL_nil (hK _ _ ?_)
                clear hK K
                refine W_if hF rfl (fun hc7 => ?_) (fun hc7 => ?_)
                · skip
                  try simp only [decide_eq_true_eq, decide_eq_false_iff_not, Bool.not_eq_true', Bool.not_eq_false', Bool.not_true, Bool.not_false] at hc7
                  refine W_sr rfl (fun K hK => ?_)
                  refine sv hF (v_move rfl) rfl ?_; clear hF a; intro a hF
                  refine sv hF (v_assign rfl) rfl ?_; clear hF a; intro a hF
                  refine WL_nil (hK _ _ ?_)
                  clear hK K
                  refine W_ret ?_
                  refine ⟨_, _, hF, rfl, ?_⟩
                  exact ⟨rfl, hS⟩
                · skip
                  try simp only [decide_eq_true_eq, decide_eq_false_iff_not, Bool.not_eq_true', Bool.not_eq_false', Bool.not_true, Bool.not_false] at hc7
                  refine W_skip ?_
                  obtain ⟨p_, hp_⟩ := errV_eq (Decidable.of_not_not hc6)
                  obtain ⟨m_, hm_⟩ := errV_eq (Decidable.of_not_not hc7)
                  have hpl := len1k (mulM_lens (some (8, 285)) ma mb)
                  rw [hp_] at hP hF hpl
                  rw [hm_] at hG hF
                  simp only [Option.getD_some] at hP hG hF hpl
                  obtain ⟨nn_, hn1, hn2⟩ := apply_apply prm_285 hp_ hm_
                  obtain ⟨q_, t_, hq1, ht1, hql, htl, hall⟩ := apply_sum prm_285 hm_ (y := zpart v i i) (s := zsum v i i) (by omega) (by omega) (zpart_lt hv8 i i) (fun j hj => by rw [hxl] at hj; exact zsum_at hj)
                  have hmll := apply_len hm_
                  have hnll := apply_len hn1
                  have hfl := (fewM_iff.1 hfma).1
                  have hfl2 := (fewM_iff.1 hfmb).1
                  refine W_sr rfl (fun K hK => ?_)
                  refine sv hF (v_move rfl) rfl ?_; clear hF a; intro a hF
                  refine sv hF (v_move rfl) rfl ?_; clear hF a; intro a hF
                  refine sv hF (v_move rfl) rfl ?_; clear hF a; intro a hF
                  refine sc hF rfl rfl rfl en42 rfl (Apply_ok B _ (some (8, 285)) fv _ _ ma _ _ m_ _ hS.inv (Nat.le_refl _) hf hAma ((len1k (few20 hfma))).1 ((len1k (few20 hfma))).2 hG (by omega)) ?_; clear hF a; intro v w' a hv hF
                  obtain ⟨sN, obN, rfl, hON, hS'⟩ := hv
                  rw [hn1] at hON hF
                  try simp only [Option.getD_some, Option.getD_none] at hON
                  obtain ⟨aN, cN, rfl⟩ := hON.shape
                  have hN := hON.row (by decide)
                  rw [zints_length] at hN hF
                  clear hON
                  replace hAma := (hAma.st hS').mono hS'.ext.size
                  replace hAmb := (hAmb.st hS').mono hS'.ext.size
                  replace hrX := (hrX.st hS').mono hS'.ext.size
                  replace hrY := (hrY.st hS').mono hS'.ext.size
                  replace hrZ := (hrZ.st hS').mono hS'.ext.size
                  replace hf := hf.st hS'
                  replace hP := (hP.st hS').mono hS'.ext.size
                  replace hG := (hG.st hS').mono hS'.ext.size
                  replace hS := hS.trans hS'
                  clear hS'
                  refine sv hF (v_move rfl) rfl ?_; clear hF a; intro a hF
                  refine sv hF (v_ext rfl rfl) rfl ?_; clear hF a; intro a hF
                  refine sv hF (v_ext rfl rfl) rfl ?_; clear hF a; intro a hF
                  refine sv hF (v_assign rfl) rfl ?_; clear hF a; intro a hF
                  refine sv hF (v_assign rfl) rfl ?_; clear hF a; intro a hF
                  refine WL_nil (hK _ _ ?_)
                  clear hK K
                  refine W_sr rfl (fun K hK => ?_)
                  refine sv hF (v_move rfl) rfl ?_; clear hF a; intro a hF
                  refine sv hF (v_move rfl) rfl ?_; clear hF a; intro a hF
                  refine sv hF (v_move rfl) rfl ?_; clear hF a; intro a hF
                  refine sc hF rfl rfl rfl en42 rfl (Apply_ok B _ (some (8, 285)) fv _ _ p_ _ _ (zpart v 0 i) _ hS.inv (Nat.le_refl _) hf hP (hpl).1 (hpl).2 hrX (by omega)) ?_; clear hF a; intro v w' a hv hF
                  obtain ⟨sO_, obO_, rfl, hOO_, hS'⟩ := hv
                  rw [hn2] at hOO_ hF
                  try simp only [Option.getD_some, Option.getD_none] at hOO_
                  obtain ⟨aO_, cO_, rfl⟩ := hOO_.shape
                  have hO_ := hOO_.row (by decide)
                  rw [zints_length] at hO_ hF
                  clear hOO_
                  replace hAma := (hAma.st hS').mono hS'.ext.size
                  replace hAmb := (hAmb.st hS').mono hS'.ext.size
                  replace hrX := (hrX.st hS').mono hS'.ext.size
                  replace hrY := (hrY.st hS').mono hS'.ext.size
                  replace hrZ := (hrZ.st hS').mono hS'.ext.size
                  replace hf := hf.st hS'
                  replace hP := (hP.st hS').mono hS'.ext.size
                  replace hG := (hG.st hS').mono hS'.ext.size
                  replace hN := (hN.st hS').mono hS'.ext.size
                  replace hS := hS.trans hS'
                  clear hS'
                  refine sv hF (v_move rfl) rfl ?_; clear hF a; intro a hF
                  refine sv hF (v_ext rfl rfl) rfl ?_; clear hF a; intro a hF
                  refine sv hF (v_ext rfl rfl) rfl ?_; clear hF a; intro a hF
                  refine sv hF (v_assign rfl) rfl ?_; clear hF a; intro a hF
                  refine sv hF (v_assign rfl) rfl ?_; clear hF a; intro a hF
                  refine WL_nil (hK _ _ ?_)
                  clear hK K
                  refine W_sr rfl (fun K hK => ?_)
                  refine sv hF (v_move rfl) rfl ?_; clear hF a; intro a hF
                  refine sv hF (v_move rfl) rfl ?_; clear hF a; intro a hF
                  refine sv hF (v_move rfl) rfl ?_; clear hF a; intro a hF
                  refine sc hF rfl rfl rfl en42 rfl (Apply_ok B _ (some (8, 285)) fv _ _ mb _ _ (zpart v i i) _ hS.inv (Nat.le_refl _) hf hAmb ((len1k (few20 hfmb))).1 ((len1k (few20 hfmb))).2 hrY (by omega)) ?_; clear hF a; intro v w' a hv hF
                  obtain ⟨sQ, obQ, rfl, hOQ, hS'⟩ := hv
                  rw [hq1] at hOQ hF
                  try simp only [Option.getD_some, Option.getD_none] at hOQ
                  obtain ⟨aQ, cQ, rfl⟩ := hOQ.shape
                  have hQ := hOQ.row (by decide)
                  rw [zints_length] at hQ hF
                  clear hOQ
                  replace hAma := (hAma.st hS').mono hS'.ext.size
                  replace hAmb := (hAmb.st hS').mono hS'.ext.size
                  replace hrX := (hrX.st hS').mono hS'.ext.size
                  replace hrY := (hrY.st hS').mono hS'.ext.size
                  replace hrZ := (hrZ.st hS').mono hS'.ext.size
                  replace hf := hf.st hS'
                  replace hP := (hP.st hS').mono hS'.ext.size
                  replace hG := (hG.st hS').mono hS'.ext.size
                  replace hN := (hN.st hS').mono hS'.ext.size
                  replace hO_ := (hO_.st hS').mono hS'.ext.size
                  replace hS := hS.trans hS'
                  clear hS'
                  refine sv hF (v_move rfl) rfl ?_; clear hF a; intro a hF
                  refine sv hF (v_ext rfl rfl) rfl ?_; clear hF a; intro a hF
                  refine sv hF (v_ext rfl rfl) rfl ?_; clear hF a; intro a hF
                  refine sv hF (v_assign rfl) rfl ?_; clear hF a; intro a hF
                  refine sv hF (v_assign rfl) rfl ?_; clear hF a; intro a hF
                  refine WL_nil (hK _ _ ?_)
                  clear hK K
                  refine W_sr rfl (fun K hK => ?_)
                  refine sv hF (v_move rfl) rfl ?_; clear hF a; intro a hF
                  refine sv hF (v_move rfl) rfl ?_; clear hF a; intro a hF
                  refine sv hF (v_move rfl) rfl ?_; clear hF a; intro a hF
                  refine sc hF rfl rfl rfl en42 rfl (Apply_ok B _ (some (8, 285)) fv _ _ mb _ _ (zsum v i i) _ hS.inv (Nat.le_refl _) hf hAmb ((len1k (few20 hfmb))).1 ((len1k (few20 hfmb))).2 hrZ (by omega)) ?_; clear hF a; intro v w' a hv hF
                  obtain ⟨sT, obT, rfl, hOT, hS'⟩ := hv
                  rw [ht1] at hOT hF
                  try simp only [Option.getD_some, Option.getD_none] at hOT
                  obtain ⟨aT, cT, rfl⟩ := hOT.shape
                  have hT := hOT.row (by decide)
                  rw [zints_length] at hT hF
                  clear hOT
                  replace hAma := (hAma.st hS').mono hS'.ext.size
                  replace hAmb := (hAmb.st hS').mono hS'.ext.size
                  replace hrX := (hrX.st hS').mono hS'.ext.size
                  replace hrY := (hrY.st hS').mono hS'.ext.size
                  replace hrZ := (hrZ.st hS').mono hS'.ext.size
                  replace hf := hf.st hS'
                  replace hP := (hP.st hS').mono hS'.ext.size
                  replace hG := (hG.st hS').mono hS'.ext.size
                  replace hN := (hN.st hS').mono hS'.ext.size
                  replace hO_ := (hO_.st hS').mono hS'.ext.size
                  replace hQ := (hQ.st hS').mono hS'.ext.size
                  replace hS := hS.trans hS'
                  clear hS'
                  refine sv hF (v_move rfl) rfl ?_; clear hF a; intro a hF
                  refine sv hF (v_ext rfl rfl) rfl ?_; clear hF a; intro a hF
                  refine sv hF (v_ext rfl rfl) rfl ?_; clear hF a; intro a hF
                  refine sv hF (v_assign rfl) rfl ?_; clear hF a; intro a hF
                  refine sv hF (v_assign rfl) rfl ?_; clear hF a; intro a hF
                  refine WL_nil (hK _ _ ?_)
                  clear hK K
                  refine W_seq ?_
                  simp only [errV_some, Option.getD_some] at hF
                  refine W_sr rfl (fun K hK => ?_)
                  refine sv hF (v_move rfl) rfl ?_; clear hF a; intro a hF
                  refine sv hF (v_move rfl) rfl ?_; clear hF a; intro a hF
                  refine sv hF (v_addI rfl rfl (by omega)) rfl ?_; clear hF a; intro a hF
                  refine sv hF (v_move rfl) rfl ?_; clear hF a; intro a hF
                  refine sv hF (v_addI rfl rfl (by omega)) rfl ?_; clear hF a; intro a hF
                  refine sv hF (v_move rfl) rfl ?_; clear hF a; intro a hF
                  refine sv hF (v_addI rfl rfl (by omega)) rfl ?_; clear hF a; intro a hF
                  refine sv hF ((v_neq rfl rfl).as (congrArg Value.bool (decide_eq_false (by decide)))) rfl ?_; clear hF a; intro a hF
                  refine sv hF (v_move rfl) rfl ?_; clear hF a; intro a hF
                  refine svg hF rfl ?_
                  refine sv hF (v_move rfl) rfl ?_; clear hF a; intro a hF
                  refine svg hF rfl ?_
                  refine sv hF (v_move rfl) rfl ?_; clear hF a; intro a hF
                  refine svg hF rfl ?_
                  refine sc hF rfl rfl rfl en22 rfl (Ints4_t B _ _ _ _ _ _ _ _ hS.inv hN hO_ (by omega) rfl) ?_; clear hF a; intro v w' a hv hF
                  obtain ⟨rfl, hS'⟩ := hv
                  replace hAma := (hAma.st hS').mono hS'.ext.size
                  replace hAmb := (hAmb.st hS').mono hS'.ext.size
                  replace hrX := (hrX.st hS').mono hS'.ext.size
                  replace hrY := (hrY.st hS').mono hS'.ext.size
                  replace hrZ := (hrZ.st hS').mono hS'.ext.size
                  replace hf := hf.st hS'
                  replace hP := (hP.st hS').mono hS'.ext.size
                  replace hG := (hG.st hS').mono hS'.ext.size
                  replace hN := (hN.st hS').mono hS'.ext.size
                  replace hO_ := (hO_.st hS').mono hS'.ext.size
                  replace hQ := (hQ.st hS').mono hS'.ext.size
                  replace hT := (hT.st hS').mono hS'.ext.size
                  replace hS := hS.trans hS'
                  clear hS'
                  refine svg hF rfl ?_
                  refine sv hF (v_not rfl) rfl ?_; clear hF a; intro a hF
                  refine sv hF (v_pickF rfl rfl) rfl ?_; clear hF a; intro a hF
                  refine sv hF (v_move rfl) rfl ?_; clear hF a; intro a hF
                  refine svg hF rfl ?_
                  refine sv hF (v_move rfl) rfl ?_; clear hF a; intro a hF
                  refine svg hF rfl ?_
                  refine sv hF (v_lenS rfl sl23 rfl) rfl ?_; clear hF a; intro a hF
                  refine svg hF rfl ?_
                  refine sv hF (v_move rfl) rfl ?_; clear hF a; intro a hF
                  refine svg hF rfl ?_
                  refine sv hF (v_lenS rfl sl23 rfl) rfl ?_; clear hF a; intro a hF
                  refine svg hF rfl ?_
                  refine sv hF ((v_neq rfl rfl).as (congrArg Value.bool (decide_eq_false (by omega)))) rfl ?_; clear hF a; intro a hF
                  refine sv hF (v_pickF rfl rfl) rfl ?_; clear hF a; intro a hF
                  refine sv hF (v_move rfl) rfl ?_; clear hF a; intro a hF
                  refine svg hF rfl ?_
                  refine sv hF (v_move rfl) rfl ?_; clear hF a; intro a hF
                  refine svg hF rfl ?_
                  refine sv hF (v_lenS rfl sl23 rfl) rfl ?_; clear hF a; intro a hF
                  refine svg hF rfl ?_
                  refine sv hF (v_move rfl) rfl ?_; clear hF a; intro a hF
                  refine svg hF rfl ?_
                  refine sv hF (v_lenS rfl sl23 rfl) rfl ?_; clear hF a; intro a hF
                  refine svg hF rfl ?_
                  refine sv hF ((v_neq rfl rfl).as (congrArg Value.bool (decide_eq_false (by omega)))) rfl ?_; clear hF a; intro a hF
                  refine sv hF (v_pickF rfl rfl) rfl ?_; clear hF a; intro a hF
                  refine WL_nil (hK _ _ ?_)
                  clear hK K
                  refine W_ifF hF rfl ?_
                  refine W_skip ?_
                  refine W_seq ?_
                  clear hAma hAmb hrX hrY hrZ hP hN hO_
                  refine W_sr rfl (fun K hK => ?_)
                  refine sv hF (v_assign rfl) rfl ?_; clear hF a; intro a hF
                  refine WL_nil (hK _ _ ?_)
                  clear hK K
                  refine W_block ?_
                  refine W_loop (fun m2 a w2 => ∃ (r : Nat), Fr 194 [(7, .bool true), (18, .slice aG m_.length cG), (24, .slice aQ q_.length cQ), (26, .slice aT t_.length cT), (28, .int .i64 (r : Int))] a ∧ (St FDx B w w2) ∧ (Row FDx B w2.heap.size w2 (.slice aG m_.length cG) (zints m_)) ∧ (Row FDx B w2.heap.size w2 (.slice aQ q_.length cQ) (zints q_)) ∧ (Row FDx B w2.heap.size w2 (.slice aT t_.length cT) (zints t_)) ∧ (r ≤ t_.length) ∧ (m2 + r = t_.length)) (t_.length) ?_ ?_
                  · skip
                    exact ⟨0, hF.sub _ (c_ 7 rfl (c_ 18 rfl (c_ 24 rfl (c_ 26 rfl (c_ 28 rfl (n_)))))), hS, hG, hQ, hT, by omega, by omega⟩
                  · skip
                    clear hF
                    clear hS hG hQ hT
                    rintro m2 a w2 ⟨r, hF, hS, hG, hQ, hT, hr, hm2⟩
                    refine W_seq ?_
                    refine W_sr rfl (fun K hK => ?_)
                    refine sv hF (v_move rfl) rfl ?_; clear hF a; intro a hF
                    refine sv hF (v_move rfl) rfl ?_; clear hF a; intro a hF
                    refine sv hF (v_lenS rfl sl23 rfl) rfl ?_; clear hF a; intro a hF
                    refine sv hF (v_lss rfl rfl) rfl ?_; clear hF a; intro a hF
                    refine WL_nil (hK _ _ ?_)
                    clear hK K
                    refine W_if hF rfl (fun hc8 => ?_) (fun hc8 => ?_)
                    · skip
                      try simp only [decide_eq_true_eq, decide_eq_false_iff_not, Bool.not_eq_true', Bool.not_eq_false', Bool.not_true, Bool.not_false] at hc8
                      obtain ⟨x, y, hx0, hy0, hz0, hxb, hyb⟩ := hall r (by omega)
                      obtain ⟨gG, oG, hgG, -⟩ := hG.kat (zints_at hx0)
                      obtain ⟨gQ, oQ, hgQ, -⟩ := hQ.kat (zints_at hy0)
                      obtain ⟨gT, oT, hgT, -⟩ := hT.kat (zints_at hz0)
                      subst hgG hgQ hgT
                      refine W_skip ?_
                      refine W_seq ?_
                      refine W_block ?_
                      refine W_sd (m := 14) rfl hmix hS.inv (fun K hK w1 hS' hh => ?_)
                      replace hG := (hG.st hS').mono hS'.ext.size
                      replace hQ := (hQ.st hS').mono hS'.ext.size
                      replace hT := (hT.st hS').mono hS'.ext.size
                      replace hS := hS.trans hS'
                      clear hS'
                      clear hh
                      refine a_v (i := 0) rfl (by kernel_rfl) hF (fun w2 hx => v_move rfl) rfl ?_; clear hF a; intro a hF
                      refine a_v (i := 1) rfl (by kernel_rfl) hF (fun w2 hx => v_move rfl) rfl ?_; clear hF a; intro a hF
                      refine a_v (i := 2) rfl (by kernel_rfl) hF (fun w2 hx => v_ixS sl23 rfl rfl (by omega) (by omega)) rfl ?_; clear hF a; intro a hF
                      refine a_v (i := 3) rfl (by kernel_rfl) hF (fun w2 hx => v_load sc3 rfl (by rw [toNat_c]; exact hT.ldx hx (zints_at hz0))) rfl ?_; clear hF a; intro a hF
                      refine a_v (i := 4) rfl (by kernel_rfl) hF (fun w2 hx => v_move rfl) rfl ?_; clear hF a; intro a hF
                      refine a_v (i := 5) rfl (by kernel_rfl) hF (fun w2 hx => v_move rfl) rfl ?_; clear hF a; intro a hF
                      refine a_v (i := 6) rfl (by kernel_rfl) hF (fun w2 hx => v_ixS sl23 rfl rfl (by omega) (by omega)) rfl ?_; clear hF a; intro a hF
                      refine a_v (i := 7) rfl (by kernel_rfl) hF (fun w2 hx => v_load sc3 rfl (by rw [toNat_c]; exact hG.ldx hx (zints_at hx0))) rfl ?_; clear hF a; intro a hF
                      refine a_v (i := 8) rfl (by kernel_rfl) hF (fun w2 hx => v_move rfl) rfl ?_; clear hF a; intro a hF
                      refine a_v (i := 9) rfl (by kernel_rfl) hF (fun w2 hx => v_move rfl) rfl ?_; clear hF a; intro a hF
                      refine a_v (i := 10) rfl (by kernel_rfl) hF (fun w2 hx => v_ixS sl23 rfl rfl (by omega) (by omega)) rfl ?_; clear hF a; intro a hF
                      refine a_v (i := 11) rfl (by kernel_rfl) hF (fun w2 hx => v_load sc3 rfl (by rw [toNat_c]; exact hQ.ldx hx (zints_at hy0))) rfl ?_; clear hF a; intro a hF
                      refine a_v (i := 12) rfl (by kernel_rfl) hF (fun w2 hx => v_xorN rfl rfl (fits_i64 (Nat.lt_of_lt_of_le hxb (by decide))) (fits_i64 (Nat.lt_of_lt_of_le hyb (by decide)))) rfl ?_; clear hF a; intro a hF
                      refine a_v (i := 13) rfl (by kernel_rfl) hF (fun w2 hx => (v_neq rfl rfl).as (congrArg Value.bool (decide_eq_false (fun h => h rfl)))) rfl ?_; clear hF a; intro a hF
                      refine a_done (by kernel_rfl) (hK _ _ ?_)
                      clear hK K
                      refine W_ifF hF rfl ?_
                      refine W_skip ?_
                      refine W_reg rfl (fun K hK => ?_)
                      refine sv hF (v_move rfl) rfl ?_; clear hF a; intro a hF
                      refine sv hF (v_addI rfl rfl (by omega)) rfl ?_; clear hF a; intro a hF
                      refine sv hF (v_assign rfl) rfl ?_; clear hF a; intro a hF
                      refine WL_nil (hK _ _ ?_)
                      clear hK K
                      exact ⟨m2 - 1, by omega, r + 1, hF.sub _ (c_ 7 rfl (c_ 18 rfl (c_ 24 rfl (c_ 26 rfl (c_ 28 rfl (n_)))))), hS, hG, hQ, hT, by omega, by omega⟩
                    · skip
                      try simp only [decide_eq_true_eq, decide_eq_false_iff_not, Bool.not_eq_true', Bool.not_eq_false', Bool.not_true, Bool.not_false] at hc8
                      refine W_exit rfl ?_
                      refine W_sr rfl (fun K hK => ?_)
                      refine sv hF (v_move rfl) rfl ?_; clear hF a; intro a hF
                      refine sv hF (v_assign rfl) rfl ?_; clear hF a; intro a hF
                      refine WL_nil (hK _ _ ?_)
                      clear hK K
                      refine W_ret ?_
                      refine ⟨_, _, hF, rfl, ?_⟩
                      exact ⟨rfl, hS⟩

end Go.Proofs.Ytlkifpmlpnaaoaa
