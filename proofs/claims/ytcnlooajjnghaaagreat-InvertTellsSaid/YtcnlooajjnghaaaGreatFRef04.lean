/- The walks of gambrelref04: what the document asks of matrices. -/
import Derived.Test.YtcnlooajjnghaaaGreatFMatA
import Derived.Test.YtcnlooajjnghaaaGreatFRef02
set_option linter.unusedVariables false
set_option linter.unusedSimpArgs false
namespace Go.Proofs.YtcnlooajjnghaaaGreat
open Go Go.Gam


namespace FxFRef04
theorem en39 : Ent Tryz.prog 39 := ent Tryz.func39 (by kernel_rfl) (by kernel_rfl)
theorem hmix : Tryz.prog.follows .mixedOrders = true := by kernel_rfl
theorem sc23 : Scalar Tryz.prog 23 := ⟨_, Tryz.underlying23, by simp, by simp⟩
theorem sc3 : Scalar Tryz.prog 3 := ⟨_, Tryz.underlying3, by simp, by simp⟩
theorem sl22 : Sl Tryz.prog 22 23 (.slice none 0 0) 24 := sl_of Tryz.underlying22 rfl (by kernel_rfl)
theorem sl23 : Sl Tryz.prog 23 3 (.int .i64 0) 8 := sl_of Tryz.underlying23 rfl (by kernel_rfl)
end FxFRef04
open FxFRef04

set_option maxRecDepth 100000 in
set_option maxHeartbeats 1000000 in
theorem rMay_ok (B M wb p : Nat) (hp : Prm wb p) (pmt : Option Addr) (cmt : Nat) (mt : Mtx) (w : World) (hI : Inv FDx B w) (hAmt : Mat FDx B M w pmt cmt mt) (hlmt : mt.length ≤ maxLen) (hbmt : ∀ r ∈ mt, r.length ≤ maxLen) : Ret Tryz.prog 31 [.int .i64 (wb : Int), .slice pmt mt.length cmt] w fun v w' => v = .bool (mayM (some (wb, p)) mt) ∧ St FDx B w w' := by
  refine enter 64 [(0, .int .i64 (wb : Int)), (1, .slice pmt mt.length cmt)] 4 Tryz.func31 rfl rfl rfl rfl rfl ?_; intro a hF
  have hS := St.refl hI
  have hl2 := hlmt
  simp only [maxLen] at hl2
  have hwb : wb ≤ 16 := by have := hp.w; omega
  refine W_sr rfl (fun K hK => ?_)
  refine sv hF (v_assign rfl) rfl ?_; clear hF a; intro a hF
  refine WL_nil (hK _ _ ?_)
  clear hK K
  refine W_seq ?_
  refine W_sr rfl (fun K hK => ?_)
  refine sv hF (v_move rfl) rfl ?_; clear hF a; intro a hF
  refine sv hF (v_lenS rfl sl22 rfl) rfl ?_; clear hF a; intro a hF
  refine sb hF (v_lss rfl rfl) rfl ?_ ?_
  · clear hF a; intro hc1 a hF
    try simp only [decide_eq_true_eq, decide_eq_false_iff_not, Bool.not_eq_true', Bool.not_eq_false', Bool.not_true, Bool.not_false] at hc1
    refine sv hF (v_move rfl) rfl ?_; clear hF a; intro a hF
    refine svn hF rfl rfl rfl ?_; clear hF a; intro a hF
    refine svn hF rfl rfl rfl ?_; clear hF a; intro a hF
    refine svn hF rfl rfl rfl ?_; clear hF a; intro a hF
    refine sv hF (v_pickT rfl rfl) rfl ?_; clear hF a; intro a hF
    refine sv hF (v_move rfl) rfl ?_; clear hF a; intro a hF
    refine svn hF rfl rfl rfl ?_; clear hF a; intro a hF
    refine svn hF rfl rfl rfl ?_; clear hF a; intro a hF
    refine svn hF rfl rfl rfl ?_; clear hF a; intro a hF
    refine svn hF rfl rfl rfl ?_; clear hF a; intro a hF
    refine svn hF rfl rfl rfl ?_; clear hF a; intro a hF
    refine sv hF (v_pickT rfl rfl) rfl ?_; clear hF a; intro a hF
    refine sv hF (v_move rfl) rfl ?_; clear hF a; intro a hF
    refine svn hF rfl rfl rfl ?_; clear hF a; intro a hF
    refine svn hF rfl rfl rfl ?_; clear hF a; intro a hF
    refine svn hF rfl rfl rfl ?_; clear hF a; intro a hF
    refine svn hF rfl rfl rfl ?_; clear hF a; intro a hF
    refine svn hF rfl rfl rfl ?_; clear hF a; intro a hF
    refine sv hF (v_pickT rfl rfl) rfl ?_; clear hF a; intro a hF
    refine WL_nil (hK _ _ ?_)
    clear hK K
    replace hF := hF.sub _ (c_ 28 rfl (c_ 4 rfl (c_ 0 rfl (c_ 1 rfl (n_)))))
    refine W_ifT hF rfl ?_
    refine W_sr rfl (fun K hK => ?_)
    refine sv hF (v_assign rfl) rfl ?_; clear hF a; intro a hF
    refine WL_nil (hK _ _ ?_)
    clear hK K
    replace hF := hF.sub _ (c_ 4 rfl (c_ 0 rfl (c_ 1 rfl (n_))))
    refine W_ret ?_
    refine ⟨_, _, hF, rfl, ?_⟩
    rw [mayM_no (fun h => by omega)]
    exact ⟨rfl, hS⟩
  · clear hF a; intro hc1 a hF
    try simp only [decide_eq_true_eq, decide_eq_false_iff_not, Bool.not_eq_true', Bool.not_eq_false', Bool.not_true, Bool.not_false] at hc1
    refine sv hF (v_move rfl) rfl ?_; clear hF a; intro a hF
    refine svg hF rfl ?_
    refine sv hF (v_move rfl) rfl ?_; clear hF a; intro a hF
    refine svg hF rfl ?_
    refine sv hF (v_lenS rfl sl22 rfl) rfl ?_; clear hF a; intro a hF
    refine svg hF rfl ?_
    refine sb hF (v_gtr rfl rfl) rfl ?_ ?_
    · clear hF a; intro hc2 a hF
      try simp only [decide_eq_true_eq, decide_eq_false_iff_not, Bool.not_eq_true', Bool.not_eq_false', Bool.not_true, Bool.not_false] at hc2
      refine sv hF (v_pickF rfl rfl) rfl ?_; clear hF a; intro a hF
      refine sv hF (v_move rfl) rfl ?_; clear hF a; intro a hF
      refine svn hF rfl rfl rfl ?_; clear hF a; intro a hF
      refine svn hF rfl rfl rfl ?_; clear hF a; intro a hF
      refine svn hF rfl rfl rfl ?_; clear hF a; intro a hF
      refine svn hF rfl rfl rfl ?_; clear hF a; intro a hF
      refine svn hF rfl rfl rfl ?_; clear hF a; intro a hF
      refine sv hF (v_pickT rfl rfl) rfl ?_; clear hF a; intro a hF
      refine sv hF (v_move rfl) rfl ?_; clear hF a; intro a hF
      refine svn hF rfl rfl rfl ?_; clear hF a; intro a hF
      refine svn hF rfl rfl rfl ?_; clear hF a; intro a hF
      refine svn hF rfl rfl rfl ?_; clear hF a; intro a hF
      refine svn hF rfl rfl rfl ?_; clear hF a; intro a hF
      refine svn hF rfl rfl rfl ?_; clear hF a; intro a hF
      refine sv hF (v_pickT rfl rfl) rfl ?_; clear hF a; intro a hF
      refine WL_nil (hK _ _ ?_)
      clear hK K
      replace hF := hF.sub _ (c_ 28 rfl (c_ 4 rfl (c_ 0 rfl (c_ 1 rfl (n_)))))
      refine W_ifT hF rfl ?_
      refine W_sr rfl (fun K hK => ?_)
      refine sv hF (v_assign rfl) rfl ?_; clear hF a; intro a hF
      refine WL_nil (hK _ _ ?_)
      clear hK K
      replace hF := hF.sub _ (c_ 4 rfl (c_ 0 rfl (c_ 1 rfl (n_))))
      refine W_ret ?_
      refine ⟨_, _, hF, rfl, ?_⟩
      rw [mayM_no (fun h => by omega)]
      exact ⟨rfl, hS⟩
    · clear hF a; intro hc2 a hF
      try simp only [decide_eq_true_eq, decide_eq_false_iff_not, Bool.not_eq_true', Bool.not_eq_false', Bool.not_true, Bool.not_false] at hc2
      refine sv hF (v_pickF rfl rfl) rfl ?_; clear hF a; intro a hF
      refine sv hF (v_move rfl) rfl ?_; clear hF a; intro a hF
      refine svg hF rfl ?_
      refine sv hF (v_move rfl) rfl ?_; clear hF a; intro a hF
      refine svg hF rfl ?_
      obtain ⟨gmt, omt, rfl⟩ := hAmt.at1 (by omega)
      obtain ⟨r0mt, h0mt⟩ : ∃ r, mt[0]? = some r := ⟨_, List.getElem?_eq_getElem (by omega)⟩
      obtain ⟨p0mt, c0mt, hk0mt, hrow0mt, -⟩ := hAmt.row2 h0mt
      have hwmt := wid_at h0mt
      refine sv hF (v_ixS sl22 rfl rfl (by decide) (by omega)) rfl ?_; clear hF a; intro a hF
      refine svg hF rfl ?_
      refine sv hF (v_load sc23 rfl hk0mt.c) rfl ?_; clear hF a; intro a hF
      refine svg hF rfl ?_
      refine sv hF (v_lenS rfl sl23 rfl) rfl ?_; clear hF a; intro a hF
      refine svg hF rfl ?_
      refine sb hF (v_lss rfl rfl) rfl ?_ ?_
      · clear hF a; intro hc3 a hF
        try simp only [decide_eq_true_eq, decide_eq_false_iff_not, Bool.not_eq_true', Bool.not_eq_false', Bool.not_true, Bool.not_false] at hc3
        refine sv hF (v_pickF rfl rfl) rfl ?_; clear hF a; intro a hF
        refine sv hF (v_move rfl) rfl ?_; clear hF a; intro a hF
        refine svn hF rfl rfl rfl ?_; clear hF a; intro a hF
        refine svn hF rfl rfl rfl ?_; clear hF a; intro a hF
        refine svn hF rfl rfl rfl ?_; clear hF a; intro a hF
        refine svn hF rfl rfl rfl ?_; clear hF a; intro a hF
        refine svn hF rfl rfl rfl ?_; clear hF a; intro a hF
        refine sv hF (v_pickT rfl rfl) rfl ?_; clear hF a; intro a hF
        refine WL_nil (hK _ _ ?_)
        clear hK K
        replace hF := hF.sub _ (c_ 28 rfl (c_ 4 rfl (c_ 0 rfl (c_ 1 rfl (n_)))))
        refine W_ifT hF rfl ?_
        refine W_sr rfl (fun K hK => ?_)
        refine sv hF (v_assign rfl) rfl ?_; clear hF a; intro a hF
        refine WL_nil (hK _ _ ?_)
        clear hK K
        replace hF := hF.sub _ (c_ 4 rfl (c_ 0 rfl (c_ 1 rfl (n_))))
        refine W_ret ?_
        refine ⟨_, _, hF, rfl, ?_⟩
        rw [mayM_no (fun h => by omega)]
        exact ⟨rfl, hS⟩
      · clear hF a; intro hc3 a hF
        try simp only [decide_eq_true_eq, decide_eq_false_iff_not, Bool.not_eq_true', Bool.not_eq_false', Bool.not_true, Bool.not_false] at hc3
        refine sv hF (v_pickF rfl rfl) rfl ?_; clear hF a; intro a hF
        refine sv hF (v_move rfl) rfl ?_; clear hF a; intro a hF
        refine svg hF rfl ?_
        refine sv hF (v_move rfl) rfl ?_; clear hF a; intro a hF
        refine svg hF rfl ?_
        refine sv hF (v_ixS sl22 rfl rfl (by decide) (by omega)) rfl ?_; clear hF a; intro a hF
        refine svg hF rfl ?_
        refine sv hF (v_load sc23 rfl hk0mt.c) rfl ?_; clear hF a; intro a hF
        refine svg hF rfl ?_
        refine sv hF (v_lenS rfl sl23 rfl) rfl ?_; clear hF a; intro a hF
        refine svg hF rfl ?_
        refine sv hF (v_gtr rfl rfl) rfl ?_; clear hF a; intro a hF
        refine sv hF (v_pickF rfl rfl) rfl ?_; clear hF a; intro a hF
        refine WL_nil (hK _ _ ?_)
        clear hK K
        replace hF := hF.sub _ (c_ 28 rfl (c_ 4 rfl (c_ 0 rfl (c_ 1 rfl (n_)))))
        refine W_if hF rfl (fun hc4 => ?_) (fun hc4 => ?_)
        · skip
          try simp only [decide_eq_true_eq, decide_eq_false_iff_not, Bool.not_eq_true', Bool.not_eq_false', Bool.not_true, Bool.not_false] at hc4
          refine W_sr rfl (fun K hK => ?_)
          refine sv hF (v_assign rfl) rfl ?_; clear hF a; intro a hF
          refine WL_nil (hK _ _ ?_)
          clear hK K
          replace hF := hF.sub _ (c_ 4 rfl (c_ 0 rfl (c_ 1 rfl (n_))))
          refine W_ret ?_
          refine ⟨_, _, hF, rfl, ?_⟩
          rw [mayM_no (fun h => by omega)]
          exact ⟨rfl, hS⟩
        · skip
          try simp only [decide_eq_true_eq, decide_eq_false_iff_not, Bool.not_eq_true', Bool.not_eq_false', Bool.not_true, Bool.not_false] at hc4
          refine W_skip ?_
          refine W_seq ?_
          refine W_sr rfl (fun K hK => ?_)
          refine sv hF (v_assign rfl) rfl ?_; clear hF a; intro a hF
          refine WL_nil (hK _ _ ?_)
          clear hK K
          replace hF := hF.sub _ (c_ 5 rfl (c_ 4 rfl (c_ 0 rfl (c_ 1 rfl (n_)))))
          refine W_block ?_
          refine W_loop (fun m a w1 => ∃ (i : Nat), Fr 64 [(0, .int .i64 (wb : Int)), (1, .slice (some ⟨gmt, omt, none⟩) mt.length cmt), (5, .int .i64 (i : Int))] a ∧ (St FDx B w w1) ∧ (Mat FDx B M w1 (some ⟨gmt, omt, none⟩) cmt mt) ∧ (i ≤ mt.length) ∧ (∀ r ∈ mt.take i, r.length = wid mt ∧ ∀ x ∈ r, inF (some (wb, p)) x = true) ∧ (m + i = mt.length)) (mt.length) ?_ ?_
          · skip
            exact ⟨0, hF.sub _ (c_ 0 rfl (c_ 1 rfl (c_ 5 rfl (n_)))), hS, hAmt, by omega, by simp, by omega⟩
          · skip
            clear hF
            clear hS hAmt hk0mt hrow0mt
            rintro m a w1 ⟨i, hF, hS, hAmt, hi, hn, hm⟩
            refine W_seq ?_
            refine W_sr rfl (fun K hK => ?_)
            refine sv hF (v_move rfl) rfl ?_; clear hF a; intro a hF
            refine sv hF (v_move rfl) rfl ?_; clear hF a; intro a hF
            refine sv hF (v_lenS rfl sl22 rfl) rfl ?_; clear hF a; intro a hF
            refine sv hF (v_lss rfl rfl) rfl ?_; clear hF a; intro a hF
            refine WL_nil (hK _ _ ?_)
            clear hK K
            replace hF := hF.sub _ (c_ 32 rfl (c_ 0 rfl (c_ 1 rfl (c_ 5 rfl (n_)))))
            refine W_if hF rfl (fun hc5 => ?_) (fun hc5 => ?_)
            · skip
              try simp only [decide_eq_true_eq, decide_eq_false_iff_not, Bool.not_eq_true', Bool.not_eq_false', Bool.not_true, Bool.not_false] at hc5
              have hlt : i < mt.length := by omega
              obtain ⟨r, hr⟩ : ∃ z, mt[i]? = some z := ⟨_, List.getElem?_eq_getElem (by omega)⟩
              obtain ⟨pr, cr, hkr, hrowr, -⟩ := hAmt.row2 hr
              obtain ⟨p0, c0, hk0, -⟩ := hAmt.row2 h0mt
              refine W_skip ?_
              refine W_seq ?_
              refine W_block ?_
              refine W_seq ?_
              refine W_sd (m := 10) rfl hmix hS.inv (fun K hK w1 hS' hh => ?_)
              replace hAmt := hAmt.st hS'
              replace hkr := hkr.st hS'
              replace hk0 := hk0.st hS'
              replace hrowr := hrowr.st hS'
              replace hS := hS.trans hS'
              clear hS'
              clear hh
              refine a_v (i := 0) rfl (by kernel_rfl) hF (fun w2 hx => v_move rfl) rfl ?_; clear hF a; intro a hF
              refine a_v (i := 1) rfl (by kernel_rfl) hF (fun w2 hx => v_move rfl) rfl ?_; clear hF a; intro a hF
              refine a_v (i := 2) rfl (by kernel_rfl) hF (fun w2 hx => v_ixS sl22 rfl rfl (by omega) (by omega)) rfl ?_; clear hF a; intro a hF
              refine a_v (i := 3) rfl (by kernel_rfl) hF (fun w2 hx => v_load sc23 rfl (by rw [toNat_c]; exact hkr.ld hx)) rfl ?_; clear hF a; intro a hF
              refine a_v (i := 4) rfl (by kernel_rfl) hF (fun w2 hx => v_lenS rfl sl23 rfl) rfl ?_; clear hF a; intro a hF
              refine a_v (i := 5) rfl (by kernel_rfl) hF (fun w2 hx => v_move rfl) rfl ?_; clear hF a; intro a hF
              refine a_v (i := 6) rfl (by kernel_rfl) hF (fun w2 hx => v_ixS sl22 rfl rfl (by decide) (by omega)) rfl ?_; clear hF a; intro a hF
              refine a_v (i := 7) rfl (by kernel_rfl) hF (fun w2 hx => v_load sc23 rfl (hk0.ld hx)) rfl ?_; clear hF a; intro a hF
              refine a_v (i := 8) rfl (by kernel_rfl) hF (fun w2 hx => v_lenS rfl sl23 rfl) rfl ?_; clear hF a; intro a hF
              refine a_v (i := 9) rfl (by kernel_rfl) hF (fun w2 hx => v_neq rfl rfl) rfl ?_; clear hF a; intro a hF
              refine a_done (by kernel_rfl) (hK _ _ ?_)
              clear hK K
              replace hF := hF.sub _ (c_ 44 rfl (c_ 0 rfl (c_ 1 rfl (c_ 5 rfl (n_)))))
              refine W_if hF rfl (fun hc6 => ?_) (fun hc6 => ?_)
              · skip
                try simp only [decide_eq_true_eq, decide_eq_false_iff_not, Bool.not_eq_true', Bool.not_eq_false', Bool.not_true, Bool.not_false] at hc6
                refine W_sr rfl (fun K hK => ?_)
                refine sv hF (v_assign rfl) rfl ?_; clear hF a; intro a hF
                refine WL_nil (hK _ _ ?_)
                clear hK K
                replace hF := hF.sub _ (c_ 4 rfl (c_ 0 rfl (c_ 1 rfl (c_ 5 rfl (n_)))))
                refine W_ret ?_
                refine ⟨_, _, hF, rfl, ?_⟩
                rw [mayM_no (fun h => by have := (h.2.2.2.2 r (List.mem_of_getElem? hr)).1; omega)]
                exact ⟨rfl, hS⟩
              · skip
                try simp only [decide_eq_true_eq, decide_eq_false_iff_not, Bool.not_eq_true', Bool.not_eq_false', Bool.not_true, Bool.not_false] at hc6
                refine W_skip ?_
                refine W_sr rfl (fun K hK => ?_)
                refine sv hF (v_assign rfl) rfl ?_; clear hF a; intro a hF
                refine WL_nil (hK _ _ ?_)
                clear hK K
                replace hF := hF.sub _ (c_ 6 rfl (c_ 0 rfl (c_ 1 rfl (c_ 5 rfl (n_)))))
                refine W_block ?_
                refine W_loop (fun m2 a w2 => ∃ (j : Nat), Fr 64 [(0, .int .i64 (wb : Int)), (1, .slice (some ⟨gmt, omt, none⟩) mt.length cmt), (5, .int .i64 (i : Int)), (6, .int .i64 (j : Int))] a ∧ (St FDx B w w2) ∧ (Mat FDx B M w2 (some ⟨gmt, omt, none⟩) cmt mt) ∧ (j ≤ r.length) ∧ (∀ x ∈ r.take j, inF (some (wb, p)) x = true) ∧ (m2 + j = r.length)) (r.length) ?_ ?_
                · skip
                  exact ⟨0, hF.sub _ (c_ 0 rfl (c_ 1 rfl (c_ 5 rfl (c_ 6 rfl (n_))))), hS, hAmt, by omega, by simp, by omega⟩
                · skip
                  clear hF
                  clear hS hAmt hkr hrowr
                  rintro m2 a w2 ⟨j, hF, hS, hAmt, hj, hn2, hm2⟩
                  refine W_seq ?_
                  obtain ⟨pr, cr, hkr, hrowr, -⟩ := hAmt.row2 hr
                  refine W_sr rfl (fun K hK => ?_)
                  refine sv hF (v_move rfl) rfl ?_; clear hF a; intro a hF
                  refine sv hF (v_move rfl) rfl ?_; clear hF a; intro a hF
                  refine sv hF (v_move rfl) rfl ?_; clear hF a; intro a hF
                  refine sv hF (v_ixS sl22 rfl rfl (by omega) (by omega)) rfl ?_; clear hF a; intro a hF
                  refine sv hF (v_load sc23 rfl (by rw [toNat_c]; exact hkr.c)) rfl ?_; clear hF a; intro a hF
                  refine sv hF (v_lenS rfl sl23 rfl) rfl ?_; clear hF a; intro a hF
                  refine sv hF (v_lss rfl rfl) rfl ?_; clear hF a; intro a hF
                  refine WL_nil (hK _ _ ?_)
                  clear hK K
                  replace hF := hF.sub _ (c_ 51 rfl (c_ 0 rfl (c_ 1 rfl (c_ 5 rfl (c_ 6 rfl (n_))))))
                  refine W_if hF rfl (fun hc7 => ?_) (fun hc7 => ?_)
                  · skip
                    try simp only [decide_eq_true_eq, decide_eq_false_iff_not, Bool.not_eq_true', Bool.not_eq_false', Bool.not_true, Bool.not_false] at hc7
                    have hlt2 : j < r.length := by omega
                    obtain ⟨x, hx⟩ : ∃ z, r[j]? = some z := ⟨_, List.getElem?_eq_getElem (by omega)⟩
                    obtain ⟨gxx, oxx, hgxx, hkx, -⟩ := hrowr.kat (zints_at hx)
                    subst hgxx
                    refine W_skip ?_
                    refine W_seq ?_
                    refine W_block ?_
                    refine W_sr rfl (fun K hK => ?_)
                    refine sv hF (v_move rfl) rfl ?_; clear hF a; intro a hF
                    refine sv hF (v_move rfl) rfl ?_; clear hF a; intro a hF
                    refine sv hF (v_move rfl) rfl ?_; clear hF a; intro a hF
                    refine sv hF (v_ixS sl22 rfl rfl (by omega) (by omega)) rfl ?_; clear hF a; intro a hF
                    refine sv hF (v_load sc23 rfl (by rw [toNat_c]; exact hkr.c)) rfl ?_; clear hF a; intro a hF
                    refine sv hF (v_move rfl) rfl ?_; clear hF a; intro a hF
                    refine sv hF (v_ixS sl23 rfl rfl (by omega) (by omega)) rfl ?_; clear hF a; intro a hF
                    refine sv hF (v_load sc3 rfl (by rw [toNat_c]; exact hkx.c)) rfl ?_; clear hF a; intro a hF
                    refine sc hF rfl rfl rfl en39 rfl (rIn_ok B wb p x _ hS.inv (by omega)) ?_; clear hF a; intro v w' a hv hF
                    obtain ⟨rfl, hw⟩ := hv
                    obtain rfl := hw.symm
                    have hS' := St.refl hS.inv
                    replace hAmt := hAmt.st hS'
                    replace hS := hS.trans hS'
                    clear hS'
                    refine sv hF (v_not rfl) rfl ?_; clear hF a; intro a hF
                    refine WL_nil (hK _ _ ?_)
                    clear hK K
                    replace hF := hF.sub _ (c_ 63 rfl (c_ 0 rfl (c_ 1 rfl (c_ 5 rfl (c_ 6 rfl (n_))))))
                    refine W_if hF rfl (fun hc8 => ?_) (fun hc8 => ?_)
                    · skip
                      try simp only [decide_eq_true_eq, decide_eq_false_iff_not, Bool.not_eq_true', Bool.not_eq_false', Bool.not_true, Bool.not_false] at hc8
                      refine W_sr rfl (fun K hK => ?_)
                      refine sv hF (v_assign rfl) rfl ?_; clear hF a; intro a hF
                      refine WL_nil (hK _ _ ?_)
                      clear hK K
                      replace hF := hF.sub _ (c_ 4 rfl (c_ 0 rfl (c_ 1 rfl (c_ 5 rfl (c_ 6 rfl (n_))))))
                      refine W_ret ?_
                      refine ⟨_, _, hF, rfl, ?_⟩
                      rw [mayM_no (fun h => by have := (h.2.2.2.2 r (List.mem_of_getElem? hr)).2 x (List.mem_of_getElem? hx); rw [hc8] at this; cases this)]
                      exact ⟨rfl, hS⟩
                    · skip
                      try simp only [decide_eq_true_eq, decide_eq_false_iff_not, Bool.not_eq_true', Bool.not_eq_false', Bool.not_true, Bool.not_false] at hc8
                      refine W_skip ?_
                      refine W_reg rfl (fun K hK => ?_)
                      refine sv hF (v_move rfl) rfl ?_; clear hF a; intro a hF
                      refine sv hF (v_addI rfl rfl (by omega)) rfl ?_; clear hF a; intro a hF
                      refine sv hF (v_assign rfl) rfl ?_; clear hF a; intro a hF
                      refine WL_nil (hK _ _ ?_)
                      clear hK K
                      replace hF := hF.sub _ (c_ 6 rfl (c_ 53 rfl (c_ 52 rfl (c_ 0 rfl (c_ 1 rfl (c_ 5 rfl (n_)))))))
                      exact ⟨m2 - 1, by omega, j + 1, hF.sub _ (c_ 0 rfl (c_ 1 rfl (c_ 5 rfl (c_ 6 rfl (n_))))), hS, hAmt, by omega, take_snoc_all hn2 hx (by assumption), by omega⟩
                  · skip
                    try simp only [decide_eq_true_eq, decide_eq_false_iff_not, Bool.not_eq_true', Bool.not_eq_false', Bool.not_true, Bool.not_false] at hc7
                    obtain rfl : j = r.length := by omega
                    rw [List.take_length] at hn2
                    refine W_exit rfl ?_
                    refine W_reg rfl (fun K hK => ?_)
                    refine sv hF (v_move rfl) rfl ?_; clear hF a; intro a hF
                    refine sv hF (v_addI rfl rfl (by omega)) rfl ?_; clear hF a; intro a hF
                    refine sv hF (v_assign rfl) rfl ?_; clear hF a; intro a hF
                    refine WL_nil (hK _ _ ?_)
                    clear hK K
                    replace hF := hF.sub _ (c_ 5 rfl (c_ 34 rfl (c_ 33 rfl (c_ 0 rfl (c_ 1 rfl (c_ 6 rfl (n_)))))))
                    exact ⟨m - 1, by omega, i + 1, hF.sub _ (c_ 0 rfl (c_ 1 rfl (c_ 5 rfl (n_)))), hS, hAmt, by omega, take_snoc_all hn hr ⟨by omega, hn2⟩, by omega⟩
            · skip
              try simp only [decide_eq_true_eq, decide_eq_false_iff_not, Bool.not_eq_true', Bool.not_eq_false', Bool.not_true, Bool.not_false] at hc5
              refine W_exit rfl ?_
              refine W_sr rfl (fun K hK => ?_)
              refine sv hF (v_assign rfl) rfl ?_; clear hF a; intro a hF
              refine WL_nil (hK _ _ ?_)
              clear hK K
              replace hF := hF.sub _ (c_ 4 rfl (c_ 0 rfl (c_ 1 rfl (c_ 5 rfl (n_)))))
              refine W_ret ?_
              refine ⟨_, _, hF, rfl, ?_⟩
              obtain rfl : i = mt.length := by omega
              rw [List.take_length] at hn
              rw [mayM_of (by omega) (by omega) (by omega) (by omega) hn]
              exact ⟨rfl, hS⟩

set_option maxRecDepth 100000 in
set_option maxHeartbeats 1000000 in
theorem Few04_ok (B M : Nat) (pmt : Option Addr) (cmt : Nat) (mt : Mtx) (w : World) (hAmt : Mat FDx B M w pmt cmt mt) (hlmt : mt.length ≤ maxLen) (hbmt : ∀ r ∈ mt, r.length ≤ maxLen) : Ret Tryz.prog 6 [.slice pmt mt.length cmt] w fun v w' => v = .bool (fewM mt) ∧ w' = w := by
  refine enter 23 [(0, .slice pmt mt.length cmt)] 2 Tryz.func6 rfl rfl rfl rfl rfl ?_; intro a hF
  have hl2 := hlmt
  simp only [maxLen] at hl2
  refine W_sr rfl (fun K hK => ?_)
  refine sv hF (v_assign rfl) rfl ?_; clear hF a; intro a hF
  refine WL_nil (hK _ _ ?_)
  clear hK K
  refine W_seq ?_
  refine W_sr rfl (fun K hK => ?_)
  refine sv hF (v_assign rfl) rfl ?_; clear hF a; intro a hF
  refine WL_nil (hK _ _ ?_)
  clear hK K
  refine W_block ?_
  refine W_loop (fun m a w1 => ∃ (i : Nat), Fr 23 [(0, .slice pmt mt.length cmt), (3, .int .i64 (i : Int))] a ∧ (w = w1) ∧ (i ≤ mt.length) ∧ (i ≤ 11) ∧ (∀ r ∈ mt.take i, r.length ≤ 10) ∧ (m + i = 11)) (11) ?_ ?_
  · skip
    exact ⟨0, hF.sub _ (c_ 0 rfl (c_ 3 rfl (n_))), rfl, by omega, by omega, by simp, by omega⟩
  · skip
    clear hF
    rintro m a w1 ⟨i, hF, rfl, hi, hi2, hn, hm⟩
    refine W_seq ?_
    refine W_sr rfl (fun K hK => ?_)
    refine sv hF (v_move rfl) rfl ?_; clear hF a; intro a hF
    refine sv hF (v_move rfl) rfl ?_; clear hF a; intro a hF
    refine sv hF (v_lenS rfl sl22 rfl) rfl ?_; clear hF a; intro a hF
    refine sb hF (v_lss rfl rfl) rfl ?_ ?_
    · clear hF a; intro hc1 a hF
      try simp only [decide_eq_true_eq, decide_eq_false_iff_not, Bool.not_eq_true', Bool.not_eq_false', Bool.not_true, Bool.not_false] at hc1
      refine sv hF (v_move rfl) rfl ?_; clear hF a; intro a hF
      refine svg hF rfl ?_
      refine sv hF (v_move rfl) rfl ?_; clear hF a; intro a hF
      refine svg hF rfl ?_
      refine sv hF (v_lss rfl rfl) rfl ?_; clear hF a; intro a hF
      refine sv hF (v_pickT rfl rfl) rfl ?_; clear hF a; intro a hF
      refine WL_nil (hK _ _ ?_)
      clear hK K
      replace hF := hF.sub _ (c_ 11 rfl (c_ 0 rfl (c_ 3 rfl (n_))))
      refine W_if hF rfl (fun hc2 => ?_) (fun hc2 => ?_)
      · skip
        try simp only [decide_eq_true_eq, decide_eq_false_iff_not, Bool.not_eq_true', Bool.not_eq_false', Bool.not_true, Bool.not_false] at hc2
        refine W_skip ?_
        refine W_seq ?_
        refine W_block ?_
        have hlt : i < mt.length := by omega
        obtain ⟨r, hr⟩ : ∃ z, mt[i]? = some z := ⟨_, List.getElem?_eq_getElem hlt⟩
        obtain ⟨gx, ox, pr, cr, hgx, hkr, hrowr, -⟩ := hAmt.row hr
        subst hgx
        refine W_sr rfl (fun K hK => ?_)
        refine sv hF (v_move rfl) rfl ?_; clear hF a; intro a hF
        refine sv hF (v_move rfl) rfl ?_; clear hF a; intro a hF
        refine sv hF (v_ixS sl22 rfl rfl (by omega) (by omega)) rfl ?_; clear hF a; intro a hF
        refine sv hF (v_load sc23 rfl (by rw [toNat_c]; exact hkr.c)) rfl ?_; clear hF a; intro a hF
        refine sv hF (v_lenS rfl sl23 rfl) rfl ?_; clear hF a; intro a hF
        refine sv hF (v_gtr rfl rfl) rfl ?_; clear hF a; intro a hF
        refine WL_nil (hK _ _ ?_)
        clear hK K
        replace hF := hF.sub _ (c_ 19 rfl (c_ 0 rfl (c_ 3 rfl (n_))))
        refine W_if hF rfl (fun hc3 => ?_) (fun hc3 => ?_)
        · skip
          try simp only [decide_eq_true_eq, decide_eq_false_iff_not, Bool.not_eq_true', Bool.not_eq_false', Bool.not_true, Bool.not_false] at hc3
          refine W_sr rfl (fun K hK => ?_)
          refine sv hF (v_assign rfl) rfl ?_; clear hF a; intro a hF
          refine WL_nil (hK _ _ ?_)
          clear hK K
          replace hF := hF.sub _ (c_ 2 rfl (c_ 0 rfl (c_ 3 rfl (n_))))
          refine W_ret ?_
          refine ⟨_, _, hF, rfl, ?_⟩
          have hf : fewM mt = false := by rw [Bool.eq_false_iff, Ne, fewM_iff]; intro h; have := h.2 r (List.mem_of_getElem? hr); omega
          rw [hf]
          exact ⟨rfl, rfl⟩
        · skip
          try simp only [decide_eq_true_eq, decide_eq_false_iff_not, Bool.not_eq_true', Bool.not_eq_false', Bool.not_true, Bool.not_false] at hc3
          refine W_skip ?_
          refine W_reg rfl (fun K hK => ?_)
          refine sv hF (v_move rfl) rfl ?_; clear hF a; intro a hF
          refine sv hF (v_addI rfl rfl (by omega)) rfl ?_; clear hF a; intro a hF
          refine sv hF (v_assign rfl) rfl ?_; clear hF a; intro a hF
          refine WL_nil (hK _ _ ?_)
          clear hK K
          replace hF := hF.sub _ (c_ 3 rfl (c_ 13 rfl (c_ 12 rfl (c_ 0 rfl (n_)))))
          exact ⟨m - 1, by omega, i + 1, hF.sub _ (c_ 0 rfl (c_ 3 rfl (n_))), rfl, by omega, by omega, take_snoc_all hn hr (by omega), by omega⟩
      · skip
        try simp only [decide_eq_true_eq, decide_eq_false_iff_not, Bool.not_eq_true', Bool.not_eq_false', Bool.not_true, Bool.not_false] at hc2
        refine W_exit rfl ?_
        refine W_sr rfl (fun K hK => ?_)
        refine sv hF (v_move rfl) rfl ?_; clear hF a; intro a hF
        refine sv hF (v_lenS rfl sl22 rfl) rfl ?_; clear hF a; intro a hF
        refine sv hF (v_leq rfl rfl) rfl ?_; clear hF a; intro a hF
        refine sv hF (v_assign rfl) rfl ?_; clear hF a; intro a hF
        refine WL_nil (hK _ _ ?_)
        clear hK K
        replace hF := hF.sub _ (c_ 2 rfl (c_ 22 rfl (c_ 21 rfl (c_ 20 rfl (c_ 0 rfl (c_ 3 rfl (n_)))))))
        refine W_ret ?_
        refine ⟨_, _, hF, rfl, ?_⟩
        refine ⟨congrArg _ ?_, rfl⟩
        rw [Bool.eq_iff_iff, decide_eq_true_iff, fewM_iff]
        constructor
        · intro h
          refine ⟨by omega, ?_⟩
          rw [List.take_of_length_le (by omega)] at hn
          exact hn
        · intro h; omega
    · clear hF a; intro hc1 a hF
      try simp only [decide_eq_true_eq, decide_eq_false_iff_not, Bool.not_eq_true', Bool.not_eq_false', Bool.not_true, Bool.not_false] at hc1
      refine sv hF (v_move rfl) rfl ?_; clear hF a; intro a hF
      refine svn hF rfl rfl rfl ?_; clear hF a; intro a hF
      refine svn hF rfl rfl rfl ?_; clear hF a; intro a hF
      refine sv hF (v_pickF rfl rfl) rfl ?_; clear hF a; intro a hF
      refine WL_nil (hK _ _ ?_)
      clear hK K
      replace hF := hF.sub _ (c_ 11 rfl (c_ 0 rfl (c_ 3 rfl (n_))))
      refine W_ifF hF rfl ?_
      refine W_exit rfl ?_
      refine W_sr rfl (fun K hK => ?_)
      refine sv hF (v_move rfl) rfl ?_; clear hF a; intro a hF
      refine sv hF (v_lenS rfl sl22 rfl) rfl ?_; clear hF a; intro a hF
      refine sv hF (v_leq rfl rfl) rfl ?_; clear hF a; intro a hF
      refine sv hF (v_assign rfl) rfl ?_; clear hF a; intro a hF
      refine WL_nil (hK _ _ ?_)
      clear hK K
      replace hF := hF.sub _ (c_ 2 rfl (c_ 22 rfl (c_ 21 rfl (c_ 20 rfl (c_ 0 rfl (c_ 3 rfl (n_)))))))
      refine W_ret ?_
      refine ⟨_, _, hF, rfl, ?_⟩
      refine ⟨congrArg _ ?_, rfl⟩
      rw [Bool.eq_iff_iff, decide_eq_true_iff, fewM_iff]
      constructor
      · intro h
        refine ⟨by omega, ?_⟩
        rw [List.take_of_length_le (by omega)] at hn
        exact hn
      · intro h; omega

set_option maxRecDepth 100000 in
set_option maxHeartbeats 1000000 in
theorem Same04_ok (B M : Nat) (pma : Option Addr) (cma : Nat) (ma : Mtx) (pmb : Option Addr) (cmb : Nat) (mb : Mtx) (w : World) (hI : Inv FDx B w) (hAma : Mat FDx B M w pma cma ma) (hAmb : Mat FDx B M w pmb cmb mb) (hlma : ma.length ≤ 1000) (hbma : ∀ r ∈ ma, r.length ≤ 1000) : Ret Tryz.prog 14 [.slice pma ma.length cma, .slice pmb mb.length cmb] w fun v w' => v = .bool (decide (ma = mb)) ∧ St FDx B w w' := by
  refine enter 53 [(0, .slice pma ma.length cma), (1, .slice pmb mb.length cmb)] 4 Tryz.func14 rfl rfl rfl rfl rfl ?_; intro a hF
  have hS := St.refl hI
  refine W_sr rfl (fun K hK => ?_)
  refine sv hF (v_assign rfl) rfl ?_; clear hF a; intro a hF
  refine WL_nil (hK _ _ ?_)
  clear hK K
  refine W_seq ?_
  refine W_sr rfl (fun K hK => ?_)
  refine sv hF (v_move rfl) rfl ?_; clear hF a; intro a hF
  refine sv hF (v_lenS rfl sl22 rfl) rfl ?_; clear hF a; intro a hF
  refine sv hF (v_move rfl) rfl ?_; clear hF a; intro a hF
  refine sv hF (v_lenS rfl sl22 rfl) rfl ?_; clear hF a; intro a hF
  refine sv hF (v_neq rfl rfl) rfl ?_; clear hF a; intro a hF
  refine WL_nil (hK _ _ ?_)
  clear hK K
  replace hF := hF.sub _ (c_ 11 rfl (c_ 4 rfl (c_ 0 rfl (c_ 1 rfl (n_)))))
  refine W_if hF rfl (fun hc1 => ?_) (fun hc1 => ?_)
  · skip
    try simp only [decide_eq_true_eq, decide_eq_false_iff_not, Bool.not_eq_true', Bool.not_eq_false', Bool.not_true, Bool.not_false] at hc1
    refine W_sr rfl (fun K hK => ?_)
    refine sv hF (v_assign rfl) rfl ?_; clear hF a; intro a hF
    refine WL_nil (hK _ _ ?_)
    clear hK K
    replace hF := hF.sub _ (c_ 4 rfl (c_ 0 rfl (c_ 1 rfl (n_))))
    refine W_ret ?_
    refine ⟨_, _, hF, rfl, ?_⟩
    refine ⟨congrArg _ (Eq.symm (decide_eq_false ?_)), hS⟩
    rintro rfl
    omega
  · skip
    try simp only [decide_eq_true_eq, decide_eq_false_iff_not, Bool.not_eq_true', Bool.not_eq_false', Bool.not_true, Bool.not_false] at hc1
    refine W_skip ?_
    refine W_seq ?_
    have hle : ma.length = mb.length := by omega
    refine W_sr rfl (fun K hK => ?_)
    refine sv hF (v_assign rfl) rfl ?_; clear hF a; intro a hF
    refine WL_nil (hK _ _ ?_)
    clear hK K
    replace hF := hF.sub _ (c_ 5 rfl (c_ 4 rfl (c_ 0 rfl (c_ 1 rfl (n_)))))
    refine W_block ?_
    refine W_loop (fun m a w1 => ∃ (i : Nat), Fr 53 [(0, .slice pma ma.length cma), (1, .slice pmb mb.length cmb), (5, .int .i64 (i : Int))] a ∧ (St FDx B w w1) ∧ (Mat FDx B M w1 pma cma ma) ∧ (Mat FDx B M w1 pmb cmb mb) ∧ (i ≤ ma.length) ∧ (ma.take i = mb.take i) ∧ (m + i = ma.length)) (ma.length) ?_ ?_
    · skip
      exact ⟨0, hF.sub _ (c_ 0 rfl (c_ 1 rfl (c_ 5 rfl (n_)))), hS, hAma, hAmb, by omega, by simp, by omega⟩
    · skip
      clear hF
      clear hS hAma hAmb
      rintro m a w1 ⟨i, hF, hS, hAma, hAmb, hi, hn, hm⟩
      refine W_seq ?_
      refine W_sr rfl (fun K hK => ?_)
      refine sv hF (v_move rfl) rfl ?_; clear hF a; intro a hF
      refine sv hF (v_move rfl) rfl ?_; clear hF a; intro a hF
      refine sv hF (v_lenS rfl sl22 rfl) rfl ?_; clear hF a; intro a hF
      refine sv hF (v_lss rfl rfl) rfl ?_; clear hF a; intro a hF
      refine WL_nil (hK _ _ ?_)
      clear hK K
      replace hF := hF.sub _ (c_ 15 rfl (c_ 0 rfl (c_ 1 rfl (c_ 5 rfl (n_)))))
      refine W_if hF rfl (fun hc2 => ?_) (fun hc2 => ?_)
      · skip
        try simp only [decide_eq_true_eq, decide_eq_false_iff_not, Bool.not_eq_true', Bool.not_eq_false', Bool.not_true, Bool.not_false] at hc2
        have hlt : i < ma.length := by omega
        obtain ⟨gma, oma, rfl⟩ := hAma.at1 (by omega)
        obtain ⟨gmb, omb, rfl⟩ := hAmb.at1 (by omega)
        obtain ⟨r, hr⟩ : ∃ z, ma[i]? = some z := ⟨_, List.getElem?_eq_getElem (by omega)⟩
        obtain ⟨pr, cr, hkr, hrowr, -⟩ := hAma.row2 hr
        obtain ⟨s, hs⟩ : ∃ z, mb[i]? = some z := ⟨_, List.getElem?_eq_getElem (by omega)⟩
        obtain ⟨ps, cs, hks, hrows, -⟩ := hAmb.row2 hs
        have hrl := hbma r (List.mem_of_getElem? hr)
        refine W_skip ?_
        refine W_seq ?_
        refine W_block ?_
        refine W_seq ?_
        refine W_sd (m := 11) rfl hmix hS.inv (fun K hK w1 hS' hh => ?_)
        replace hAma := hAma.st hS'
        replace hAmb := hAmb.st hS'
        replace hkr := hkr.st hS'
        replace hks := hks.st hS'
        replace hS := hS.trans hS'
        clear hS'
        clear hh
        refine a_v (i := 0) rfl (by kernel_rfl) hF (fun w2 hx => v_move rfl) rfl ?_; clear hF a; intro a hF
        refine a_v (i := 1) rfl (by kernel_rfl) hF (fun w2 hx => v_move rfl) rfl ?_; clear hF a; intro a hF
        refine a_v (i := 2) rfl (by kernel_rfl) hF (fun w2 hx => v_ixS sl22 rfl rfl (by omega) (by omega)) rfl ?_; clear hF a; intro a hF
        refine a_v (i := 3) rfl (by kernel_rfl) hF (fun w2 hx => v_load sc23 rfl (by rw [toNat_c]; exact hkr.ld hx)) rfl ?_; clear hF a; intro a hF
        refine a_v (i := 4) rfl (by kernel_rfl) hF (fun w2 hx => v_lenS rfl sl23 rfl) rfl ?_; clear hF a; intro a hF
        refine a_v (i := 5) rfl (by kernel_rfl) hF (fun w2 hx => v_move rfl) rfl ?_; clear hF a; intro a hF
        refine a_v (i := 6) rfl (by kernel_rfl) hF (fun w2 hx => v_move rfl) rfl ?_; clear hF a; intro a hF
        refine a_v (i := 7) rfl (by kernel_rfl) hF (fun w2 hx => v_ixS sl22 rfl rfl (by omega) (by omega)) rfl ?_; clear hF a; intro a hF
        refine a_v (i := 8) rfl (by kernel_rfl) hF (fun w2 hx => v_load sc23 rfl (by rw [toNat_c]; exact hks.ld hx)) rfl ?_; clear hF a; intro a hF
        refine a_v (i := 9) rfl (by kernel_rfl) hF (fun w2 hx => v_lenS rfl sl23 rfl) rfl ?_; clear hF a; intro a hF
        refine a_v (i := 10) rfl (by kernel_rfl) hF (fun w2 hx => v_neq rfl rfl) rfl ?_; clear hF a; intro a hF
        refine a_done (by kernel_rfl) (hK _ _ ?_)
        clear hK K
        replace hF := hF.sub _ (c_ 28 rfl (c_ 0 rfl (c_ 1 rfl (c_ 5 rfl (n_)))))
        refine W_if hF rfl (fun hc3 => ?_) (fun hc3 => ?_)
        · skip
          try simp only [decide_eq_true_eq, decide_eq_false_iff_not, Bool.not_eq_true', Bool.not_eq_false', Bool.not_true, Bool.not_false] at hc3
          refine W_sr rfl (fun K hK => ?_)
          refine sv hF (v_assign rfl) rfl ?_; clear hF a; intro a hF
          refine WL_nil (hK _ _ ?_)
          clear hK K
          replace hF := hF.sub _ (c_ 4 rfl (c_ 0 rfl (c_ 1 rfl (c_ 5 rfl (n_)))))
          refine W_ret ?_
          refine ⟨_, _, hF, rfl, ?_⟩
          refine ⟨congrArg _ (Eq.symm (decide_eq_false ?_)), hS⟩
          rintro rfl
          rw [hr] at hs
          obtain rfl := Option.some.inj hs
          omega
        · skip
          try simp only [decide_eq_true_eq, decide_eq_false_iff_not, Bool.not_eq_true', Bool.not_eq_false', Bool.not_true, Bool.not_false] at hc3
          refine W_skip ?_
          have hls : r.length = s.length := by omega
          refine W_sr rfl (fun K hK => ?_)
          refine sv hF (v_assign rfl) rfl ?_; clear hF a; intro a hF
          refine WL_nil (hK _ _ ?_)
          clear hK K
          replace hF := hF.sub _ (c_ 6 rfl (c_ 0 rfl (c_ 1 rfl (c_ 5 rfl (n_)))))
          refine W_block ?_
          refine W_loop (fun m2 a w2 => ∃ (j : Nat), Fr 53 [(0, .slice (some ⟨gma, oma, none⟩) ma.length cma), (1, .slice (some ⟨gmb, omb, none⟩) mb.length cmb), (5, .int .i64 (i : Int)), (6, .int .i64 (j : Int))] a ∧ (St FDx B w w2) ∧ (Mat FDx B M w2 (some ⟨gma, oma, none⟩) cma ma) ∧ (Mat FDx B M w2 (some ⟨gmb, omb, none⟩) cmb mb) ∧ (j ≤ r.length) ∧ (r.take j = s.take j) ∧ (m2 + j = r.length)) (r.length) ?_ ?_
          · skip
            exact ⟨0, hF.sub _ (c_ 0 rfl (c_ 1 rfl (c_ 5 rfl (c_ 6 rfl (n_))))), hS, hAma, hAmb, by omega, by simp, by omega⟩
          · skip
            clear hF
            clear hS hAma hAmb hkr hrowr hks hrows
            rintro m2 a w2 ⟨j, hF, hS, hAma, hAmb, hj, hn2, hm2⟩
            refine W_seq ?_
            obtain ⟨pr, cr, hkr, hrowr, -⟩ := hAma.row2 hr
            obtain ⟨ps, cs, hks, hrows, -⟩ := hAmb.row2 hs
            refine W_sr rfl (fun K hK => ?_)
            refine sv hF (v_move rfl) rfl ?_; clear hF a; intro a hF
            refine sv hF (v_move rfl) rfl ?_; clear hF a; intro a hF
            refine sv hF (v_move rfl) rfl ?_; clear hF a; intro a hF
            refine sv hF (v_ixS sl22 rfl rfl (by omega) (by omega)) rfl ?_; clear hF a; intro a hF
            refine sv hF (v_load sc23 rfl (by rw [toNat_c]; exact hkr.c)) rfl ?_; clear hF a; intro a hF
            refine sv hF (v_lenS rfl sl23 rfl) rfl ?_; clear hF a; intro a hF
            refine sv hF (v_lss rfl rfl) rfl ?_; clear hF a; intro a hF
            refine WL_nil (hK _ _ ?_)
            clear hK K
            replace hF := hF.sub _ (c_ 35 rfl (c_ 0 rfl (c_ 1 rfl (c_ 5 rfl (c_ 6 rfl (n_))))))
            refine W_if hF rfl (fun hc4 => ?_) (fun hc4 => ?_)
            · skip
              try simp only [decide_eq_true_eq, decide_eq_false_iff_not, Bool.not_eq_true', Bool.not_eq_false', Bool.not_true, Bool.not_false] at hc4
              have hlt2 : j < r.length := by omega
              obtain ⟨x, hx⟩ : ∃ z, r[j]? = some z := ⟨_, List.getElem?_eq_getElem (by omega)⟩
              obtain ⟨gxx, oxx, hgxx, hkx, -⟩ := hrowr.kat (zints_at hx)
              subst hgxx
              obtain ⟨y, hy⟩ : ∃ z, s[j]? = some z := ⟨_, List.getElem?_eq_getElem (by omega)⟩
              obtain ⟨gxy, oxy, hgxy, hky, -⟩ := hrows.kat (zints_at hy)
              subst hgxy
              refine W_skip ?_
              refine W_seq ?_
              refine W_block ?_
              refine W_sd (m := 15) rfl hmix hS.inv (fun K hK w1 hS' hh => ?_)
              replace hAma := hAma.st hS'
              replace hAmb := hAmb.st hS'
              replace hkr := hkr.st hS'
              replace hks := hks.st hS'
              replace hkx := hkx.st hS'
              replace hky := hky.st hS'
              replace hS := hS.trans hS'
              clear hS'
              clear hh
              refine a_v (i := 0) rfl (by kernel_rfl) hF (fun w2 hx => v_move rfl) rfl ?_; clear hF a; intro a hF
              refine a_v (i := 1) rfl (by kernel_rfl) hF (fun w2 hx => v_move rfl) rfl ?_; clear hF a; intro a hF
              refine a_v (i := 2) rfl (by kernel_rfl) hF (fun w2 hx => v_ixS sl22 rfl rfl (by omega) (by omega)) rfl ?_; clear hF a; intro a hF
              refine a_v (i := 3) rfl (by kernel_rfl) hF (fun w2 hx => v_load sc23 rfl (by rw [toNat_c]; exact hkr.ld hx)) rfl ?_; clear hF a; intro a hF
              refine a_v (i := 4) rfl (by kernel_rfl) hF (fun w2 hx => v_move rfl) rfl ?_; clear hF a; intro a hF
              refine a_v (i := 5) rfl (by kernel_rfl) hF (fun w2 hx => v_ixS sl23 rfl rfl (by omega) (by omega)) rfl ?_; clear hF a; intro a hF
              refine a_v (i := 6) rfl (by kernel_rfl) hF (fun w2 hx => v_load sc3 rfl (by rw [toNat_c]; exact hkx.ld hx)) rfl ?_; clear hF a; intro a hF
              refine a_v (i := 7) rfl (by kernel_rfl) hF (fun w2 hx => v_move rfl) rfl ?_; clear hF a; intro a hF
              refine a_v (i := 8) rfl (by kernel_rfl) hF (fun w2 hx => v_move rfl) rfl ?_; clear hF a; intro a hF
              refine a_v (i := 9) rfl (by kernel_rfl) hF (fun w2 hx => v_ixS sl22 rfl rfl (by omega) (by omega)) rfl ?_; clear hF a; intro a hF
              refine a_v (i := 10) rfl (by kernel_rfl) hF (fun w2 hx => v_load sc23 rfl (by rw [toNat_c]; exact hks.ld hx)) rfl ?_; clear hF a; intro a hF
              refine a_v (i := 11) rfl (by kernel_rfl) hF (fun w2 hx => v_move rfl) rfl ?_; clear hF a; intro a hF
              refine a_v (i := 12) rfl (by kernel_rfl) hF (fun w2 hx => v_ixS sl23 rfl rfl (by omega) (by omega)) rfl ?_; clear hF a; intro a hF
              refine a_v (i := 13) rfl (by kernel_rfl) hF (fun w2 hx => v_load sc3 rfl (by rw [toNat_c]; exact hky.ld hx)) rfl ?_; clear hF a; intro a hF
              refine a_v (i := 14) rfl (by kernel_rfl) hF (fun w2 hx => v_neq rfl rfl) rfl ?_; clear hF a; intro a hF
              refine a_done (by kernel_rfl) (hK _ _ ?_)
              clear hK K
              replace hF := hF.sub _ (c_ 52 rfl (c_ 0 rfl (c_ 1 rfl (c_ 5 rfl (c_ 6 rfl (n_))))))
              refine W_if hF rfl (fun hc5 => ?_) (fun hc5 => ?_)
              · skip
                try simp only [decide_eq_true_eq, decide_eq_false_iff_not, Bool.not_eq_true', Bool.not_eq_false', Bool.not_true, Bool.not_false] at hc5
                refine W_sr rfl (fun K hK => ?_)
                refine sv hF (v_assign rfl) rfl ?_; clear hF a; intro a hF
                refine WL_nil (hK _ _ ?_)
                clear hK K
                replace hF := hF.sub _ (c_ 4 rfl (c_ 0 rfl (c_ 1 rfl (c_ 5 rfl (c_ 6 rfl (n_))))))
                refine W_ret ?_
                refine ⟨_, _, hF, rfl, ?_⟩
                refine ⟨congrArg _ (Eq.symm (decide_eq_false ?_)), hS⟩
                rintro rfl
                rw [hr] at hs
                obtain rfl := Option.some.inj hs
                rw [hx] at hy
                obtain rfl := Option.some.inj hy
                omega
              · skip
                try simp only [decide_eq_true_eq, decide_eq_false_iff_not, Bool.not_eq_true', Bool.not_eq_false', Bool.not_true, Bool.not_false] at hc5
                refine W_skip ?_
                refine W_reg rfl (fun K hK => ?_)
                refine sv hF (v_move rfl) rfl ?_; clear hF a; intro a hF
                refine sv hF (v_addI rfl rfl (by omega)) rfl ?_; clear hF a; intro a hF
                refine sv hF (v_assign rfl) rfl ?_; clear hF a; intro a hF
                refine WL_nil (hK _ _ ?_)
                clear hK K
                replace hF := hF.sub _ (c_ 6 rfl (c_ 37 rfl (c_ 36 rfl (c_ 0 rfl (c_ 1 rfl (c_ 5 rfl (n_)))))))
                exact ⟨m2 - 1, by omega, j + 1, hF.sub _ (c_ 0 rfl (c_ 1 rfl (c_ 5 rfl (c_ 6 rfl (n_))))), hS, hAma, hAmb, by omega, take_snoc_eq hn2 hx (by rw [hy]; congr 1; omega), by omega⟩
            · skip
              try simp only [decide_eq_true_eq, decide_eq_false_iff_not, Bool.not_eq_true', Bool.not_eq_false', Bool.not_true, Bool.not_false] at hc4
              obtain rfl : j = r.length := by omega
              obtain rfl : r = s := by rw [List.take_length, List.take_of_length_le (by omega)] at hn2; exact hn2
              refine W_exit rfl ?_
              refine W_reg rfl (fun K hK => ?_)
              refine sv hF (v_move rfl) rfl ?_; clear hF a; intro a hF
              refine sv hF (v_addI rfl rfl (by omega)) rfl ?_; clear hF a; intro a hF
              refine sv hF (v_assign rfl) rfl ?_; clear hF a; intro a hF
              refine WL_nil (hK _ _ ?_)
              clear hK K
              replace hF := hF.sub _ (c_ 5 rfl (c_ 17 rfl (c_ 16 rfl (c_ 0 rfl (c_ 1 rfl (c_ 6 rfl (n_)))))))
              exact ⟨m - 1, by omega, i + 1, hF.sub _ (c_ 0 rfl (c_ 1 rfl (c_ 5 rfl (n_)))), hS, hAma, hAmb, by omega, take_snoc_eq hn hr hs, by omega⟩
      · skip
        try simp only [decide_eq_true_eq, decide_eq_false_iff_not, Bool.not_eq_true', Bool.not_eq_false', Bool.not_true, Bool.not_false] at hc2
        refine W_exit rfl ?_
        refine W_sr rfl (fun K hK => ?_)
        refine sv hF (v_assign rfl) rfl ?_; clear hF a; intro a hF
        refine WL_nil (hK _ _ ?_)
        clear hK K
        replace hF := hF.sub _ (c_ 4 rfl (c_ 0 rfl (c_ 1 rfl (c_ 5 rfl (n_)))))
        refine W_ret ?_
        refine ⟨_, _, hF, rfl, ?_⟩
        refine ⟨congrArg _ (Eq.symm (decide_eq_true ?_)), hS⟩
        obtain rfl : i = ma.length := by omega
        rw [List.take_length, List.take_of_length_le (by omega)] at hn
        exact hn

end Go.Proofs.YtcnlooajjnghaaaGreat
