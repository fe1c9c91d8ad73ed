/- Texts of the claim VanderTells (part 10), put together in the order of their imports. -/
import Derived.Test.YtcnlooajjnghaaaGreatKVanderTells9
/- The walks of gambrelref04: what the document asks of matrices. -/
set_option linter.unusedVariables false
set_option linter.unusedSimpArgs false
namespace Go.Proofs.YtcnlooajjnghaaaGreat
open Go Go.Gam


namespace FxFRef04
theorem en39 : Ent Tryz.prog 39 := ent Tryz.func39 (by kernel_rfl) (by kernel_rfl)
theorem hmix : Tryz.prog.follows .mixedOrders = true := by kernel_rfl
theorem sc23 : Scalar Tryz.prog 23 := ⟨_, Tryz.underlying23, by simp, by simp⟩
theorem sc3 : Scalar Tryz.prog 3 := ⟨_, Tryz.underlying3, by simp, by simp⟩
theorem sl22 : Sl Tryz.prog 22 23 (.slice none 0 0) 24 := sl_of Tryz.underlying22 rfl (by kernel_rfl)
theorem sl23 : Sl Tryz.prog 23 3 (.int .i64 0) 8 := sl_of Tryz.underlying23 rfl (by kernel_rfl)
end FxFRef04
open FxFRef04

set_option maxRecDepth 100000 in
set_option maxHeartbeats 1000000 in
theorem rMay_ok (B M wb p : Nat) (hp : Prm wb p) (pmt : Option Addr) (cmt : Nat) (mt : Mtx) (w : World) (hI : Inv FDx B w) (hAmt : Mat FDx B M w pmt cmt mt) (hlmt : mt.length ≤ maxLen) (hbmt : ∀ r ∈ mt, r.length ≤ maxLen) : Ret Tryz.prog 31 [.int .i64 (wb : Int), .slice pmt mt.length cmt] w fun v w' => v = .bool (mayM (some (wb, p)) mt) ∧ St FDx B w w' := by
  refine enter 64 [(0, .int .i64 (wb : Int)), (1, .slice pmt mt.length cmt)] 4 Tryz.func31 rfl rfl rfl rfl rfl ?_; intro a hF
  have hS := St.refl hI
  have hl2 := hlmt
  simp only [maxLen] at hl2
  have hwb : wb ≤ 16 := by have := hp.w; omega
  refine W_sr rfl (fun K hK => ?_)
  refine sv hF (v_assign rfl) rfl ?_; clear hF a; intro a hF
  refine WL_nil (hK _ _ ?_)
  clear hK K
  refine W_seq ?_
  refine W_sr rfl (fun K hK => ?_)
  refine sv hF (v_move rfl) rfl ?_; clear hF a; intro a hF
  refine sv hF (v_lenS rfl sl22 rfl) rfl ?_; clear hF a; intro a hF
  refine sb hF (v_lss rfl rfl) rfl ?_ ?_
  · clear hF a; intro hc1 a hF
    try simp only [decide_eq_true_eq, decide_eq_false_iff_not, Bool.not_eq_true', Bool.not_eq_false', Bool.not_true, Bool.not_false] at hc1
    refine sv hF (v_move rfl) rfl ?_; clear hF a; intro a hF
    refine svn hF rfl rfl rfl ?_; clear hF a; intro a hF
    refine svn hF rfl rfl rfl ?_; clear hF a; intro a hF
    refine svn hF rfl rfl rfl ?_; clear hF a; intro a hF
    refine sv hF (v_pickT rfl rfl) rfl ?_; clear hF a; intro a hF
    refine sv hF (v_move rfl) rfl ?_; clear hF a; intro a hF
    refine svn hF rfl rfl rfl ?_; clear hF a; intro a hF
    refine svn hF rfl rfl rfl ?_; clear hF a; intro a hF
    refine svn hF rfl rfl rfl ?_; clear hF a; intro a hF
    refine svn hF rfl rfl rfl ?_; clear hF a; intro a hF
    refine svn hF rfl rfl rfl ?_; clear hF a; intro a hF
    refine sv hF (v_pickT rfl rfl) rfl ?_; clear hF a; intro a hF
    refine sv hF (v_move rfl) rfl ?_; clear hF a; intro a hF
    refine svn hF rfl rfl rfl ?_; clear hF a; intro a hF
    refine svn hF rfl rfl rfl ?_; clear hF a; intro a hF
    refine svn hF rfl rfl rfl ?_; clear hF a; intro a hF
    refine svn hF rfl rfl rfl ?_; clear hF a; intro a hF
    refine svn hF rfl rfl rfl ?_; clear hF a; intro a hF
    refine sv hF (v_pickT rfl rfl) rfl ?_; clear hF a; intro a hF
    refine WL_nil (hK _ _ ?_)
    clear hK K
    replace hF := hF.sub _ (c_ 28 rfl (c_ 4 rfl (c_ 0 rfl (c_ 1 rfl (n_)))))
    refine W_ifT hF rfl ?_
    refine W_sr rfl (fun K hK => ?_)
    refine sv hF (v_assign rfl) rfl ?_; clear hF a; intro a hF
    refine WL_nil (hK _ _ ?_)
    clear hK K
    replace hF := hF.sub _ (c_ 4 rfl (c_ 0 rfl (c_ 1 rfl (n_))))
    refine W_ret ?_
    refine ⟨_, _, hF, rfl, ?_⟩
    rw [mayM_no (fun h => by omega)]
    exact ⟨rfl, hS⟩
  · clear hF a; intro hc1 a hF
    try simp only [decide_eq_true_eq, decide_eq_false_iff_not, Bool.not_eq_true', Bool.not_eq_false', Bool.not_true, Bool.not_false] at hc1
    refine sv hF (v_move rfl) rfl ?_; clear hF a; intro a hF
    refine svg hF rfl ?_
    refine sv hF (v_move rfl) rfl ?_; clear hF a; intro a hF
    refine svg hF rfl ?_
    refine sv hF (v_lenS rfl sl22 rfl) rfl ?_; clear hF a; intro a hF
    refine svg hF rfl ?_
    refine sb hF (v_gtr rfl rfl) rfl ?_ ?_
    · clear hF a; intro hc2 a hF
      try simp only [decide_eq_true_eq, decide_eq_false_iff_not, Bool.not_eq_true', Bool.not_eq_false', Bool.not_true, Bool.not_false] at hc2
      refine sv hF (v_pickF rfl rfl) rfl ?_; clear hF a; intro a hF
      refine sv hF (v_move rfl) rfl ?_; clear hF a; intro a hF
      refine svn hF rfl rfl rfl ?_; clear hF a; intro a hF
      refine svn hF rfl rfl rfl ?_; clear hF a; intro a hF
      refine svn hF rfl rfl rfl ?_; clear hF a; intro a hF
      refine svn hF rfl rfl rfl ?_; clear hF a; intro a hF
      refine svn hF rfl rfl rfl ?_; clear hF a; intro a hF
      refine sv hF (v_pickT rfl rfl) rfl ?_; clear hF a; intro a hF
      refine sv hF (v_move rfl) rfl ?_; clear hF a; intro a hF
      refine svn hF rfl rfl rfl ?_; clear hF a; intro a hF
      refine svn hF rfl rfl rfl ?_; clear hF a; intro a hF
      refine svn hF rfl rfl rfl ?_; clear hF a; intro a hF
      refine svn hF rfl rfl rfl ?_; clear hF a; intro a hF
      refine svn hF rfl rfl rfl ?_; clear hF a; intro a hF
      refine sv hF (v_pickT rfl rfl) rfl ?_; clear hF a; intro a hF
      refine WL_nil (hK _ _ ?_)
      clear hK K
      replace hF := hF.sub _ (c_ 28 rfl (c_ 4 rfl (c_ 0 rfl (c_ 1 rfl (n_)))))
      refine W_ifT hF rfl ?_
      refine W_sr rfl (fun K hK => ?_)
      refine sv hF (v_assign rfl) rfl ?_; clear hF a; intro a hF
      refine WL_nil (hK _ _ ?_)
      clear hK K
      replace hF := hF.sub _ (c_ 4 rfl (c_ 0 rfl (c_ 1 rfl (n_))))
      refine W_ret ?_
      refine ⟨_, _, hF, rfl, ?_⟩
      rw [mayM_no (fun h => by omega)]
      exact ⟨rfl, hS⟩
    · clear hF a; intro hc2 a hF
      try simp only [decide_eq_true_eq, decide_eq_false_iff_not, Bool.not_eq_true', Bool.not_eq_false', Bool.not_true, Bool.not_false] at hc2
      refine sv hF (v_pickF rfl rfl) rfl ?_; clear hF a; intro a hF
      refine sv hF (v_move rfl) rfl ?_; clear hF a; intro a hF
      refine svg hF rfl ?_
      refine sv hF (v_move rfl) rfl ?_; clear hF a; intro a hF
      refine svg hF rfl ?_
      obtain ⟨gmt, omt, rfl⟩ := hAmt.at1 (by omega)
      obtain ⟨r0mt, h0mt⟩ : ∃ r, mt[0]? = some r := ⟨_, List.getElem?_eq_getElem (by omega)⟩
      obtain ⟨p0mt, c0mt, hk0mt, hrow0mt, -⟩ := hAmt.row2 h0mt
      have hwmt := wid_at h0mt
      refine sv hF (v_ixS sl22 rfl rfl (by decide) (by omega)) rfl ?_; clear hF a; intro a hF
      refine svg hF rfl ?_
      refine sv hF (v_load sc23 rfl hk0mt.c) rfl ?_; clear hF a; intro a hF
      refine svg hF rfl ?_
      refine sv hF (v_lenS rfl sl23 rfl) rfl ?_; clear hF a; intro a hF
      refine svg hF rfl ?_
      refine sb hF (v_lss rfl rfl) rfl ?_ ?_
      · clear hF a; intro hc3 a hF
        try simp only [decide_eq_true_eq, decide_eq_false_iff_not, Bool.not_eq_true', Bool.not_eq_false', Bool.not_true, Bool.not_false] at hc3
        refine sv hF (v_pickF rfl rfl) rfl ?_; clear hF a; intro a hF
        refine sv hF (v_move rfl) rfl ?_; clear hF a; intro a hF
        refine svn hF rfl rfl rfl ?_; clear hF a; intro a hF
        refine svn hF rfl rfl rfl ?_; clear hF a; intro a hF
        refine svn hF rfl rfl rfl ?_; clear hF a; intro a hF
        refine svn hF rfl rfl rfl ?_; clear hF a; intro a hF
        refine svn hF rfl rfl rfl ?_; clear hF a; intro a hF
        refine sv hF (v_pickT rfl rfl) rfl ?_; clear hF a; intro a hF
        refine WL_nil (hK _ _ ?_)
        clear hK K
        replace hF := hF.sub _ (c_ 28 rfl (c_ 4 rfl (c_ 0 rfl (c_ 1 rfl (n_)))))
        refine W_ifT hF rfl ?_
        refine W_sr rfl (fun K hK => ?_)
        refine sv hF (v_assign rfl) rfl ?_; clear hF a; intro a hF
        refine WL_nil (hK _ _ ?_)
        clear hK K
        replace hF := hF.sub _ (c_ 4 rfl (c_ 0 rfl (c_ 1 rfl (n_))))
        refine W_ret ?_
        refine ⟨_, _, hF, rfl, ?_⟩
        rw [mayM_no (fun h => by omega)]
        exact ⟨rfl, hS⟩
      · clear hF a; intro hc3 a hF
        try simp only [decide_eq_true_eq, decide_eq_false_iff_not, Bool.not_eq_true', Bool.not_eq_false', Bool.not_true, Bool.not_false] at hc3
        refine sv hF (v_pickF rfl rfl) rfl ?_; clear hF a; intro a hF
        refine sv hF (v_move rfl) rfl ?_; clear hF a; intro a hF
        refine svg hF rfl ?_
        refine sv hF (v_move rfl) rfl ?_; clear hF a; intro a hF
        refine svg hF rfl ?_
        refine sv hF (v_ixS sl22 rfl rfl (by decide) (by omega)) rfl ?_; clear hF a; intro a hF
        refine svg hF rfl ?_
        refine sv hF (v_load sc23 rfl hk0mt.c) rfl ?_; clear hF a; intro a hF
        refine svg hF rfl ?_
        refine sv hF (v_lenS rfl sl23 rfl) rfl ?_; clear hF a; intro a hF
        refine svg hF rfl ?_
        refine sv hF (v_gtr rfl rfl) rfl ?_; clear hF a; intro a hF
        refine sv hF (v_pickF rfl rfl) rfl ?_; clear hF a; intro a hF
        refine WL_nil (hK _ _ ?_)
        clear hK K
        replace hF := hF.sub _ (c_ 28 rfl (c_ 4 rfl (c_ 0 rfl (c_ 1 rfl (n_)))))
        refine W_if hF rfl (fun hc4 => ?_) (fun hc4 => ?_)
        · skip
          try simp only [decide_eq_true_eq, decide_eq_false_iff_not, Bool.not_eq_true', Bool.not_eq_false', Bool.not_true, Bool.not_false] at hc4
          refine W_sr rfl (fun K hK => ?_)
          refine sv hF (v_assign rfl) rfl ?_; clear hF a; intro a hF
          refine WL_nil (hK _ _ ?_)
          clear hK K
          replace hF := hF.sub _ (c_ 4 rfl (c_ 0 rfl (c_ 1 rfl (n_))))
          refine W_ret ?_
          refine ⟨_, _, hF, rfl, ?_⟩
          rw [mayM_no (fun h => by omega)]
          exact ⟨rfl, hS⟩
        · skip
          try simp only [decide_eq_true_eq, decide_eq_false_iff_not, Bool.not_eq_true', Bool.not_eq_false', Bool.not_true, Bool.not_false] at hc4
          refine W_skip ?_
          refine W_seq ?_
          refine W_sr rfl (fun K hK => ?_)
          refine sv hF (v_assign rfl) rfl ?_; clear hF a; intro a hF
          refine WL_nil (hK _ _ ?_)
          clear hK K
          replace hF := hF.sub _ (c_ 5 rfl (c_ 4 rfl (c_ 0 rfl (c_ 1 rfl (n_)))))
          refine W_block ?_
          refine W_loop (fun m a w1 => ∃ (i : Nat), Fr 64 [(0, .int .i64 (wb : Int)), (1, .slice (some ⟨gmt, omt, none⟩) mt.length cmt), (5, .int .i64 (i : Int))] a ∧ (St FDx B w w1) ∧ (Mat FDx B M w1 (some ⟨gmt, omt, none⟩) cmt mt) ∧ (i ≤ mt.length) ∧ (∀ r ∈ mt.take i, r.length = wid mt ∧ ∀ x ∈ r, inF (some (wb, p)) x = true) ∧ (m + i = mt.length)) (mt.length) ?_ ?_
          · skip
            exact ⟨0, hF.sub _ (c_ 0 rfl (c_ 1 rfl (c_ 5 rfl (n_)))), hS, hAmt, by omega, by simp, by omega⟩
          · skip
            clear hF
            clear hS hAmt hk0mt hrow0mt
            rintro m a w1 ⟨i, hF, hS, hAmt, hi, hn, hm⟩
            refine W_seq ?_
            refine W_sr rfl (fun K hK => ?_)
            refine sv hF (v_move rfl) rfl ?_; clear hF a; intro a hF
            refine sv hF (v_move rfl) rfl ?_; clear hF a; intro a hF
            refine sv hF (v_lenS rfl sl22 rfl) rfl ?_; clear hF a; intro a hF
            refine sv hF (v_lss rfl rfl) rfl ?_; clear hF a; intro a hF
            refine WL_nil (hK _ _ ?_)
            clear hK K
            replace hF := hF.sub _ (c_ 32 rfl (c_ 0 rfl (c_ 1 rfl (c_ 5 rfl (n_)))))
            refine W_if hF rfl (fun hc5 => ?_) (fun hc5 => ?_)
            · skip
              try simp only [decide_eq_true_eq, decide_eq_false_iff_not, Bool.not_eq_true', Bool.not_eq_false', Bool.not_true, Bool.not_false] at hc5
              have hlt : i < mt.length := by omega
              obtain ⟨r, hr⟩ : ∃ z, mt[i]? = some z := ⟨_, List.getElem?_eq_getElem (by omega)⟩
              obtain ⟨pr, cr, hkr, hrowr, -⟩ := hAmt.row2 hr
              obtain ⟨p0, c0, hk0, -⟩ := hAmt.row2 h0mt
              refine W_skip ?_
              refine W_seq ?_
              refine W_block ?_
              refine W_seq ?_
              refine W_sd (m := 10) rfl hmix hS.inv (fun K hK w1 hS' hh => ?_)
              replace hAmt := hAmt.st hS'
              replace hkr := hkr.st hS'
              replace hk0 := hk0.st hS'
              replace hrowr := hrowr.st hS'
              replace hS := hS.trans hS'
              clear hS'
              clear hh
              refine a_v (i := 0) rfl (by kernel_rfl) hF (fun w2 hx => v_move rfl) rfl ?_; clear hF a; intro a hF
              refine a_v (i := 1) rfl (by kernel_rfl) hF (fun w2 hx => v_move rfl) rfl ?_; clear hF a; intro a hF
              refine a_v (i := 2) rfl (by kernel_rfl) hF (fun w2 hx => v_ixS sl22 rfl rfl (by omega) (by omega)) rfl ?_; clear hF a; intro a hF
              refine a_v (i := 3) rfl (by kernel_rfl) hF (fun w2 hx => v_load sc23 rfl (by rw [toNat_c]; exact hkr.ld hx)) rfl ?_; clear hF a; intro a hF
              refine a_v (i := 4) rfl (by kernel_rfl) hF (fun w2 hx => v_lenS rfl sl23 rfl) rfl ?_; clear hF a; intro a hF
              refine a_v (i := 5) rfl (by kernel_rfl) hF (fun w2 hx => v_move rfl) rfl ?_; clear hF a; intro a hF
              refine a_v (i := 6) rfl (by kernel_rfl) hF (fun w2 hx => v_ixS sl22 rfl rfl (by decide) (by omega)) rfl ?_; clear hF a; intro a hF
              refine a_v (i := 7) rfl (by kernel_rfl) hF (fun w2 hx => v_load sc23 rfl (hk0.ld hx)) rfl ?_; clear hF a; intro a hF
              refine a_v (i := 8) rfl (by kernel_rfl) hF (fun w2 hx => v_lenS rfl sl23 rfl) rfl ?_; clear hF a; intro a hF
              refine a_v (i := 9) rfl (by kernel_rfl) hF (fun w2 hx => v_neq rfl rfl) rfl ?_; clear hF a; intro a hF
              refine a_done (by kernel_rfl) (hK _ _ ?_)
              clear hK K
              replace hF := hF.sub _ (c_ 44 rfl (c_ 0 rfl (c_ 1 rfl (c_ 5 rfl (n_)))))
              refine W_if hF rfl (fun hc6 => ?_) (fun hc6 => ?_)
              · skip
                try simp only [decide_eq_true_eq, decide_eq_false_iff_not, Bool.not_eq_true', Bool.not_eq_false', Bool.not_true, Bool.not_false] at hc6
                refine W_sr rfl (fun K hK => ?_)
                refine sv hF (v_assign rfl) rfl ?_; clear hF a; intro a hF
                refine WL_nil (hK _ _ ?_)
                clear hK K
                replace hF := hF.sub _ (c_ 4 rfl (c_ 0 rfl (c_ 1 rfl (c_ 5 rfl (n_)))))
                refine W_ret ?_
                refine ⟨_, _, hF, rfl, ?_⟩
                rw [mayM_no (fun h => by have := (h.2.2.2.2 r (List.mem_of_getElem? hr)).1; omega)]
                exact ⟨rfl, hS⟩
              · skip
                try simp only [decide_eq_true_eq, decide_eq_false_iff_not, Bool.not_eq_true', Bool.not_eq_false', Bool.not_true, Bool.not_false] at hc6
                refine W_skip ?_
                refine W_sr rfl (fun K hK => ?_)
                refine sv hF (v_assign rfl) rfl ?_; clear hF a; intro a hF
                refine WL_nil (hK _ _ ?_)
                clear hK K
                replace hF := hF.sub _ (c_ 6 rfl (c_ 0 rfl (c_ 1 rfl (c_ 5 rfl (n_)))))
                refine W_block ?_
                refine W_loop (fun m2 a w2 => ∃ (j : Nat), Fr 64 [(0, .int .i64 (wb : Int)), (1, .slice (some ⟨gmt, omt, none⟩) mt.length cmt), (5, .int .i64 (i : Int)), (6, .int .i64 (j : Int))] a ∧ (St FDx B w w2) ∧ (Mat FDx B M w2 (some ⟨gmt, omt, none⟩) cmt mt) ∧ (j ≤ r.length) ∧ (∀ x ∈ r.take j, inF (some (wb, p)) x = true) ∧ (m2 + j = r.length)) (r.length) ?_ ?_
                · skip
                  exact ⟨0, hF.sub _ (c_ 0 rfl (c_ 1 rfl (c_ 5 rfl (c_ 6 rfl (n_))))), hS, hAmt, by omega, by simp, by omega⟩
                · skip
                  clear hF
                  clear hS hAmt hkr hrowr
                  rintro m2 a w2 ⟨j, hF, hS, hAmt, hj, hn2, hm2⟩
                  refine W_seq ?_
                  obtain ⟨pr, cr, hkr, hrowr, -⟩ := hAmt.row2 hr
                  refine W_sr rfl (fun K hK => ?_)
                  refine sv hF (v_move rfl) rfl ?_; clear hF a; intro a hF
                  refine sv hF (v_move rfl) rfl ?_; clear hF a; intro a hF
                  refine sv hF (v_move rfl) rfl ?_; clear hF a; intro a hF
                  refine sv hF (v_ixS sl22 rfl rfl (by omega) (by omega)) rfl ?_; clear hF a; intro a hF
                  refine sv hF (v_load sc23 rfl (by rw [toNat_c]; exact hkr.c)) rfl ?_; clear hF a; intro a hF
                  refine sv hF (v_lenS rfl sl23 rfl) rfl ?_; clear hF a; intro a hF
                  refine sv hF (v_lss rfl rfl) rfl ?_; clear hF a; intro a hF
                  refine WL_nil (hK _ _ ?_)
                  clear hK K
                  replace hF := hF.sub _ (c_ 51 rfl (c_ 0 rfl (c_ 1 rfl (c_ 5 rfl (c_ 6 rfl (n_))))))
                  refine W_if hF rfl (fun hc7 => ?_) (fun hc7 => ?_)
                  · skip
                    try simp only [decide_eq_true_eq, decide_eq_false_iff_not, Bool.not_eq_true', Bool.not_eq_false', Bool.not_true, Bool.not_false] at hc7
                    have hlt2 : j < r.length := by omega
                    obtain ⟨x, hx⟩ : ∃ z, r[j]? = some z := ⟨_, List.getElem?_eq_getElem (by omega)⟩
                    obtain ⟨gxx, oxx, hgxx, hkx, -⟩ := hrowr.kat (zints_at hx)
                    subst hgxx
                    refine W_skip ?_
                    refine W_seq ?_
                    refine W_block ?_
                    refine W_sr rfl (fun K hK => ?_)
                    refine sv hF (v_move rfl) rfl ?_; clear hF a; intro a hF
                    refine sv hF (v_move rfl) rfl ?_; clear hF a; intro a hF
                    refine sv hF (v_move rfl) rfl ?_; clear hF a; intro a hF
                    refine sv hF (v_ixS sl22 rfl rfl (by omega) (by omega)) rfl ?_; clear hF a; intro a hF
                    refine sv hF (v_load sc23 rfl (by rw [toNat_c]; exact hkr.c)) rfl ?_; clear hF a; intro a hF
                    refine sv hF (v_move rfl) rfl ?_; clear hF a; intro a hF
                    refine sv hF (v_ixS sl23 rfl rfl (by omega) (by omega)) rfl ?_; clear hF a; intro a hF
                    refine sv hF (v_load sc3 rfl (by rw [toNat_c]; exact hkx.c)) rfl ?_; clear hF a; intro a hF
                    refine sc hF rfl rfl rfl en39 rfl (rIn_ok B wb p x _ hS.inv (by omega)) ?_; clear hF a; intro v w' a hv hF
                    obtain ⟨rfl, hw⟩ := hv
                    obtain rfl := hw.symm
                    have hS' := St.refl hS.inv
                    replace hAmt := hAmt.st hS'
                    replace hS := hS.trans hS'
                    clear hS'
                    refine sv hF (v_not rfl) rfl ?_; clear hF a; intro a hF
                    refine WL_nil (hK _ _ ?_)
                    clear hK K
                    replace hF := hF.sub _ (c_ 63 rfl (c_ 0 rfl (c_ 1 rfl (c_ 5 rfl (c_ 6 rfl (n_))))))
                    refine W_if hF rfl (fun hc8 => ?_) (fun hc8 => ?_)
                    · skip
                      try simp only [decide_eq_true_eq, decide_eq_false_iff_not, Bool.not_eq_true', Bool.not_eq_false', Bool.not_true, Bool.not_false] at hc8
                      refine W_sr rfl (fun K hK => ?_)
                      refine sv hF (v_assign rfl) rfl ?_; clear hF a; intro a hF
                      refine WL_nil (hK _ _ ?_)
                      clear hK K
                      replace hF := hF.sub _ (c_ 4 rfl (c_ 0 rfl (c_ 1 rfl (c_ 5 rfl (c_ 6 rfl (n_))))))
                      refine W_ret ?_
                      refine ⟨_, _, hF, rfl, ?_⟩
                      rw [mayM_no (fun h => by have := (h.2.2.2.2 r (List.mem_of_getElem? hr)).2 x (List.mem_of_getElem? hx); rw [hc8] at this; cases this)]
                      exact ⟨rfl, hS⟩
                    · skip
                      try simp only [decide_eq_true_eq, decide_eq_false_iff_not, Bool.not_eq_true', Bool.not_eq_false', Bool.not_true, Bool.not_false] at hc8
                      refine W_skip ?_
                      refine W_reg rfl (fun K hK => ?_)
                      refine sv hF (v_move rfl) rfl ?_; clear hF a; intro a hF
                      refine sv hF (v_addI rfl rfl (by omega)) rfl ?_; clear hF a; intro a hF
                      refine sv hF (v_assign rfl) rfl ?_; clear hF a; intro a hF
                      refine WL_nil (hK _ _ ?_)
                      clear hK K
                      replace hF := hF.sub _ (c_ 6 rfl (c_ 53 rfl (c_ 52 rfl (c_ 0 rfl (c_ 1 rfl (c_ 5 rfl (n_)))))))
                      exact ⟨m2 - 1, by omega, j + 1, hF.sub _ (c_ 0 rfl (c_ 1 rfl (c_ 5 rfl (c_ 6 rfl (n_))))), hS, hAmt, by omega, take_snoc_all hn2 hx (by assumption), by omega⟩
                  · skip
                    try simp only [decide_eq_true_eq, decide_eq_false_iff_not, Bool.not_eq_true', Bool.not_eq_false', Bool.not_true, Bool.not_false] at hc7
                    obtain rfl : j = r.length := by omega
                    rw [List.take_length] at hn2
                    refine W_exit rfl ?_
                    refine W_reg rfl (fun K hK => ?_)
                    refine sv hF (v_move rfl) rfl ?_; clear hF a; intro a hF
                    refine sv hF (v_addI rfl rfl (by omega)) rfl ?_; clear hF a; intro a hF
                    refine sv hF (v_assign rfl) rfl ?_; clear hF a; intro a hF
                    refine WL_nil (hK _ _ ?_)
                    clear hK K
                    replace hF := hF.sub _ (c_ 5 rfl (c_ 34 rfl (c_ 33 rfl (c_ 0 rfl (c_ 1 rfl (c_ 6 rfl (n_)))))))
                    exact ⟨m - 1, by omega, i + 1, hF.sub _ (c_ 0 rfl (c_ 1 rfl (c_ 5 rfl (n_)))), hS, hAmt, by omega, take_snoc_all hn hr ⟨by omega, hn2⟩, by omega⟩
            · skip
              try simp only [decide_eq_true_eq, decide_eq_false_iff_not, Bool.not_eq_true', Bool.not_eq_false', Bool.not_true, Bool.not_false] at hc5
              refine W_exit rfl ?_
              refine W_sr rfl (fun K hK => ?_)
              refine sv hF (v_assign rfl) rfl ?_; clear hF a; intro a hF
              refine WL_nil (hK _ _ ?_)
              clear hK K
              replace hF := hF.sub _ (c_ 4 rfl (c_ 0 rfl (c_ 1 rfl (c_ 5 rfl (n_)))))
              refine W_ret ?_
              refine ⟨_, _, hF, rfl, ?_⟩
              obtain rfl : i = mt.length := by omega
              rw [List.take_length] at hn
              rw [mayM_of (by omega) (by omega) (by omega) (by omega) hn]
              exact ⟨rfl, hS⟩

set_option maxRecDepth 100000 in
set_option maxHeartbeats 1000000 in
theorem Few04_ok (B M : Nat) (pmt : Option Addr) (cmt : Nat) (mt : Mtx) (w : World) (hAmt : Mat FDx B M w pmt cmt mt) (hlmt : mt.length ≤ maxLen) (hbmt : ∀ r ∈ mt, r.length ≤ maxLen) : Ret Tryz.prog 6 [.slice pmt mt.length cmt] w fun v w' => v = .bool (fewM mt) ∧ w' = w := by
  refine enter 23 [(0, .slice pmt mt.length cmt)] 2 Tryz.func6 rfl rfl rfl rfl rfl ?_; intro a hF
  have hl2 := hlmt
  simp only [maxLen] at hl2
  refine W_sr rfl (fun K hK => ?_)
  refine sv hF (v_assign rfl) rfl ?_; clear hF a; intro a hF
  refine WL_nil (hK _ _ ?_)
  clear hK K
  refine W_seq ?_
  refine W_sr rfl (fun K hK => ?_)
  refine sv hF (v_assign rfl) rfl ?_; clear hF a; intro a hF
  refine WL_nil (hK _ _ ?_)
  clear hK K
  refine W_block ?_
  refine W_loop (fun m a w1 => ∃ (i : Nat), Fr 23 [(0, .slice pmt mt.length cmt), (3, .int .i64 (i : Int))] a ∧ (w = w1) ∧ (i ≤ mt.length) ∧ (i ≤ 11) ∧ (∀ r ∈ mt.take i, r.length ≤ 10) ∧ (m + i = 11)) (11) ?_ ?_
  · skip
    exact ⟨0, hF.sub _ (c_ 0 rfl (c_ 3 rfl (n_))), rfl, by omega, by omega, by simp, by omega⟩
  · skip
    clear hF
    rintro m a w1 ⟨i, hF, rfl, hi, hi2, hn, hm⟩
    refine W_seq ?_
    refine W_sr rfl (fun K hK => ?_)
    refine sv hF (v_move rfl) rfl ?_; clear hF a; intro a hF
    refine sv hF (v_move rfl) rfl ?_; clear hF a; intro a hF
    refine sv hF (v_lenS rfl sl22 rfl) rfl ?_; clear hF a; intro a hF
    refine sb hF (v_lss rfl rfl) rfl ?_ ?_
    · clear hF a; intro hc1 a hF
      try simp only [decide_eq_true_eq, decide_eq_false_iff_not, Bool.not_eq_true', Bool.not_eq_false', Bool.not_true, Bool.not_false] at hc1
      refine sv hF (v_move rfl) rfl ?_; clear hF a; intro a hF
      refine svg hF rfl ?_
      refine sv hF (v_move rfl) rfl ?_; clear hF a; intro a hF
      refine svg hF rfl ?_
      refine sv hF (v_lss rfl rfl) rfl ?_; clear hF a; intro a hF
      refine sv hF (v_pickT rfl rfl) rfl ?_; clear hF a; intro a hF
      refine WL_nil (hK _ _ ?_)
      clear hK K
      replace hF := hF.sub _ (c_ 11 rfl (c_ 0 rfl (c_ 3 rfl (n_))))
      refine W_if hF rfl (fun hc2 => ?_) (fun hc2 => ?_)
      · skip
        try simp only [decide_eq_true_eq, decide_eq_false_iff_not, Bool.not_eq_true', Bool.not_eq_false', Bool.not_true, Bool.not_false] at hc2
        refine W_skip ?_
        refine W_seq ?_
        refine W_block ?_
        have hlt : i < mt.length := by omega
        obtain ⟨r, hr⟩ : ∃ z, mt[i]? = some z := ⟨_, List.getElem?_eq_getElem hlt⟩
        obtain ⟨gx, ox, pr, cr, hgx, hkr, hrowr, -⟩ := hAmt.row hr
        subst hgx
        refine W_sr rfl (fun K hK => ?_)
        refine sv hF (v_move rfl) rfl ?_; clear hF a; intro a hF
        refine sv hF (v_move rfl) rfl ?_; clear hF a; intro a hF
        refine sv hF (v_ixS sl22 rfl rfl (by omega) (by omega)) rfl ?_; clear hF a; intro a hF
        refine sv hF (v_load sc23 rfl (by rw [toNat_c]; exact hkr.c)) rfl ?_; clear hF a; intro a hF
        refine sv hF (v_lenS rfl sl23 rfl) rfl ?_; clear hF a; intro a hF
        refine sv hF (v_gtr rfl rfl) rfl ?_; clear hF a; intro a hF
        refine WL_nil (hK _ _ ?_)
        clear hK K
        replace hF := hF.sub _ (c_ 19 rfl (c_ 0 rfl (c_ 3 rfl (n_))))
        refine W_if hF rfl (fun hc3 => ?_) (fun hc3 => ?_)
        · skip
          try simp only [decide_eq_true_eq, decide_eq_false_iff_not, Bool.not_eq_true', Bool.not_eq_false', Bool.not_true, Bool.not_false] at hc3
          refine W_sr rfl (fun K hK => ?_)
          refine sv hF (v_assign rfl) rfl ?_; clear hF a; intro a hF
          refine WL_nil (hK _ _ ?_)
          clear hK K
          replace hF := hF.sub _ (c_ 2 rfl (c_ 0 rfl (c_ 3 rfl (n_))))
          refine W_ret ?_
          refine ⟨_, _, hF, rfl, ?_⟩
          have hf : fewM mt = false := by rw [Bool.eq_false_iff, Ne, fewM_iff]; intro h; have := h.2 r (List.mem_of_getElem? hr); omega
          rw [hf]
          exact ⟨rfl, rfl⟩
        · skip
          try simp only [decide_eq_true_eq, decide_eq_false_iff_not, Bool.not_eq_true', Bool.not_eq_false', Bool.not_true, Bool.not_false] at hc3
          refine W_skip ?_
          refine W_reg rfl (fun K hK => ?_)
          refine sv hF (v_move rfl) rfl ?_; clear hF a; intro a hF
          refine sv hF (v_addI rfl rfl (by omega)) rfl ?_; clear hF a; intro a hF
          refine sv hF (v_assign rfl) rfl ?_; clear hF a; intro a hF
          refine WL_nil (hK _ _ ?_)
          clear hK K
          replace hF := hF.sub _ (c_ 3 rfl (c_ 13 rfl (c_ 12 rfl (c_ 0 rfl (n_)))))
          exact ⟨m - 1, by omega, i + 1, hF.sub _ (c_ 0 rfl (c_ 3 rfl (n_))), rfl, by omega, by omega, take_snoc_all hn hr (by omega), by omega⟩
      · skip
        try simp only [decide_eq_true_eq, decide_eq_false_iff_not, Bool.not_eq_true', Bool.not_eq_false', Bool.not_true, Bool.not_false] at hc2
        refine W_exit rfl ?_
        refine W_sr rfl (fun K hK => ?_)
        refine sv hF (v_move rfl) rfl ?_; clear hF a; intro a hF
        refine sv hF (v_lenS rfl sl22 rfl) rfl ?_; clear hF a; intro a hF
        refine sv hF (v_leq rfl rfl) rfl ?_; clear hF a; intro a hF
        refine sv hF (v_assign rfl) rfl ?_; clear hF a; intro a hF
        refine WL_nil (hK _ _ ?_)
        clear hK K
        replace hF := hF.sub _ (c_ 2 rfl (c_ 22 rfl (c_ 21 rfl (c_ 20 rfl (c_ 0 rfl (c_ 3 rfl (n_)))))))
        refine W_ret ?_
        refine ⟨_, _, hF, rfl, ?_⟩
        refine ⟨congrArg _ ?_, rfl⟩
        rw [Bool.eq_iff_iff, decide_eq_true_iff, fewM_iff]
        constructor
        · intro h
          refine ⟨by omega, ?_⟩
          rw [List.take_of_length_le (by omega)] at hn
          exact hn
        · intro h; omega
    · clear hF a; intro hc1 a hF
      try simp only [decide_eq_true_eq, decide_eq_false_iff_not, Bool.not_eq_true', Bool.not_eq_false', Bool.not_true, Bool.not_false] at hc1
      refine sv hF (v_move rfl) rfl ?_; clear hF a; intro a hF
      refine svn hF rfl rfl rfl ?_; clear hF a; intro a hF
      refine svn hF rfl rfl rfl ?_; clear hF a; intro a hF
      refine sv hF (v_pickF rfl rfl) rfl ?_; clear hF a; intro a hF
      refine WL_nil (hK _ _ ?_)
      clear hK K
      replace hF := hF.sub _ (c_ 11 rfl (c_ 0 rfl (c_ 3 rfl (n_))))
      refine W_ifF hF rfl ?_
      refine W_exit rfl ?_
      refine W_sr rfl (fun K hK => ?_)
      refine sv hF (v_move rfl) rfl ?_; clear hF a; intro a hF
      refine sv hF (v_lenS rfl sl22 rfl) rfl ?_; clear hF a; intro a hF
      refine sv hF (v_leq rfl rfl) rfl ?_; clear hF a; intro a hF
      refine sv hF (v_assign rfl) rfl ?_; clear hF a; intro a hF
      refine WL_nil (hK _ _ ?_)
      clear hK K
      replace hF := hF.sub _ (c_ 2 rfl (c_ 22 rfl (c_ 21 rfl (c_ 20 rfl (c_ 0 rfl (c_ 3 rfl (n_)))))))
      refine W_ret ?_
      refine ⟨_, _, hF, rfl, ?_⟩
      refine ⟨congrArg _ ?_, rfl⟩
      rw [Bool.eq_iff_iff, decide_eq_true_iff, fewM_iff]
      constructor
      · intro h
        refine ⟨by omega, ?_⟩
        rw [List.take_of_length_le (by omega)] at hn
        exact hn
      · intro h; omega

set_option maxRecDepth 100000 in
set_option maxHeartbeats 1000000 in
theorem Same04_ok (B M : Nat) (pma : Option Addr) (cma : Nat) (ma : Mtx) (pmb : Option Addr) (cmb : Nat) (mb : Mtx) (w : World) (hI : Inv FDx B w) (hAma : Mat FDx B M w pma cma ma) (hAmb : Mat FDx B M w pmb cmb mb) (hlma : ma.length ≤ 1000) (hbma : ∀ r ∈ ma, r.length ≤ 1000) : Ret Tryz.prog 14 [.slice pma ma.length cma, .slice pmb mb.length cmb] w fun v w' => v = .bool (decide (ma = mb)) ∧ St FDx B w w' := by
  refine enter 53 [(0, .slice pma ma.length cma), (1, .slice pmb mb.length cmb)] 4 Tryz.func14 rfl rfl rfl rfl rfl ?_; intro a hF
  have hS := St.refl hI
  refine W_sr rfl (fun K hK => ?_)
  refine sv hF (v_assign rfl) rfl ?_; clear hF a; intro a hF
  refine WL_nil (hK _ _ ?_)
  clear hK K
  refine W_seq ?_
  refine W_sr rfl (fun K hK => ?_)
  refine sv hF (v_move rfl) rfl ?_; clear hF a; intro a hF
  refine sv hF (v_lenS rfl sl22 rfl) rfl ?_; clear hF a; intro a hF
  refine sv hF (v_move rfl) rfl ?_; clear hF a; intro a hF
  refine sv hF (v_lenS rfl sl22 rfl) rfl ?_; clear hF a; intro a hF
  refine sv hF (v_neq rfl rfl) rfl ?_; clear hF a; intro a hF
  refine WL_nil (hK _ _ ?_)
  clear hK K
  replace hF := hF.sub _ (c_ 11 rfl (c_ 4 rfl (c_ 0 rfl (c_ 1 rfl (n_)))))
  refine W_if hF rfl (fun hc1 => ?_) (fun hc1 => ?_)
  · skip
    try simp only [decide_eq_true_eq, decide_eq_false_iff_not, Bool.not_eq_true', Bool.not_eq_false', Bool.not_true, Bool.not_false] at hc1
    refine W_sr rfl (fun K hK => ?_)
    refine sv hF (v_assign rfl) rfl ?_; clear hF a; intro a hF
    refine WL_nil (hK _ _ ?_)
    clear hK K
    replace hF := hF.sub _ (c_ 4 rfl (c_ 0 rfl (c_ 1 rfl (n_))))
    refine W_ret ?_
    refine ⟨_, _, hF, rfl, ?_⟩
    refine ⟨congrArg _ (Eq.symm (decide_eq_false ?_)), hS⟩
    rintro rfl
    omega
  · skip
    try simp only [decide_eq_true_eq, decide_eq_false_iff_not, Bool.not_eq_true', Bool.not_eq_false', Bool.not_true, Bool.not_false] at hc1
    refine W_skip ?_
    refine W_seq ?_
    have hle : ma.length = mb.length := by omega
    refine W_sr rfl (fun K hK => ?_)
    refine sv hF (v_assign rfl) rfl ?_; clear hF a; intro a hF
    refine WL_nil (hK _ _ ?_)
    clear hK K
    replace hF := hF.sub _ (c_ 5 rfl (c_ 4 rfl (c_ 0 rfl (c_ 1 rfl (n_)))))
    refine W_block ?_
    refine W_loop (fun m a w1 => ∃ (i : Nat), Fr 53 [(0, .slice pma ma.length cma), (1, .slice pmb mb.length cmb), (5, .int .i64 (i : Int))] a ∧ (St FDx B w w1) ∧ (Mat FDx B M w1 pma cma ma) ∧ (Mat FDx B M w1 pmb cmb mb) ∧ (i ≤ ma.length) ∧ (ma.take i = mb.take i) ∧ (m + i = ma.length)) (ma.length) ?_ ?_
    · skip
      exact ⟨0, hF.sub _ (c_ 0 rfl (c_ 1 rfl (c_ 5 rfl (n_)))), hS, hAma, hAmb, by omega, by simp, by omega⟩
    · skip
      clear hF
      clear hS hAma hAmb
      rintro m a w1 ⟨i, hF, hS, hAma, hAmb, hi, hn, hm⟩
      refine W_seq ?_
      refine W_sr rfl (fun K hK => ?_)
      refine sv hF (v_move rfl) rfl ?_; clear hF a; intro a hF
      refine sv hF (v_move rfl) rfl ?_; clear hF a; intro a hF
      refine sv hF (v_lenS rfl sl22 rfl) rfl ?_; clear hF a; intro a hF
      refine sv hF (v_lss rfl rfl) rfl ?_; clear hF a; intro a hF
      refine WL_nil (hK _ _ ?_)
      clear hK K
      replace hF := hF.sub _ (c_ 15 rfl (c_ 0 rfl (c_ 1 rfl (c_ 5 rfl (n_)))))
      refine W_if hF rfl (fun hc2 => ?_) (fun hc2 => ?_)
      · skip
        try simp only [decide_eq_true_eq, decide_eq_false_iff_not, Bool.not_eq_true', Bool.not_eq_false', Bool.not_true, Bool.not_false] at hc2
        have hlt : i < ma.length := by omega
        obtain ⟨gma, oma, rfl⟩ := hAma.at1 (by omega)
        obtain ⟨gmb, omb, rfl⟩ := hAmb.at1 (by omega)
        obtain ⟨r, hr⟩ : ∃ z, ma[i]? = some z := ⟨_, List.getElem?_eq_getElem (by omega)⟩
        obtain ⟨pr, cr, hkr, hrowr, -⟩ := hAma.row2 hr
        obtain ⟨s, hs⟩ : ∃ z, mb[i]? = some z := ⟨_, List.getElem?_eq_getElem (by omega)⟩
        obtain ⟨ps, cs, hks, hrows, -⟩ := hAmb.row2 hs
        have hrl := hbma r (List.mem_of_getElem? hr)
        refine W_skip ?_
        refine W_seq ?_
        refine W_block ?_
        refine W_seq ?_
        refine W_sd (m := 11) rfl hmix hS.inv (fun K hK w1 hS' hh => ?_)
        replace hAma := hAma.st hS'
        replace hAmb := hAmb.st hS'
        replace hkr := hkr.st hS'
        replace hks := hks.st hS'
        replace hS := hS.trans hS'
        clear hS'
        clear hh
        refine a_v (i := 0) rfl (by kernel_rfl) hF (fun w2 hx => v_move rfl) rfl ?_; clear hF a; intro a hF
        refine a_v (i := 1) rfl (by kernel_rfl) hF (fun w2 hx => v_move rfl) rfl ?_; clear hF a; intro a hF
        refine a_v (i := 2) rfl (by kernel_rfl) hF (fun w2 hx => v_ixS sl22 rfl rfl (by omega) (by omega)) rfl ?_; clear hF a; intro a hF
        refine a_v (i := 3) rfl (by kernel_rfl) hF (fun w2 hx => v_load sc23 rfl (by rw [toNat_c]; exact hkr.ld hx)) rfl ?_; clear hF a; intro a hF
        refine a_v (i := 4) rfl (by kernel_rfl) hF (fun w2 hx => v_lenS rfl sl23 rfl) rfl ?_; clear hF a; intro a hF
        refine a_v (i := 5) rfl (by kernel_rfl) hF (fun w2 hx => v_move rfl) rfl ?_; clear hF a; intro a hF
        refine a_v (i := 6) rfl (by kernel_rfl) hF (fun w2 hx => v_move rfl) rfl ?_; clear hF a; intro a hF
        refine a_v (i := 7) rfl (by kernel_rfl) hF (fun w2 hx => v_ixS sl22 rfl rfl (by omega) (by omega)) rfl ?_; clear hF a; intro a hF
        refine a_v (i := 8) rfl (by kernel_rfl) hF (fun w2 hx => v_load sc23 rfl (by rw [toNat_c]; exact hks.ld hx)) rfl ?_; clear hF a; intro a hF
        refine a_v (i := 9) rfl (by kernel_rfl) hF (fun w2 hx => v_lenS rfl sl23 rfl) rfl ?_; clear hF a; intro a hF
        refine a_v (i := 10) rfl (by kernel_rfl) hF (fun w2 hx => v_neq rfl rfl) rfl ?_; clear hF a; intro a hF
        refine a_done (by kernel_rfl) (hK _ _ ?_)
        clear hK K
        replace hF := hF.sub _ (c_ 28 rfl (c_ 0 rfl (c_ 1 rfl (c_ 5 rfl (n_)))))
        refine W_if hF rfl (fun hc3 => ?_) (fun hc3 => ?_)
        · skip
          try simp only [decide_eq_true_eq, decide_eq_false_iff_not, Bool.not_eq_true', Bool.not_eq_false', Bool.not_true, Bool.not_false] at hc3
          refine W_sr rfl (fun K hK => ?_)
          refine sv hF (v_assign rfl) rfl ?_; clear hF a; intro a hF
          refine WL_nil (hK _ _ ?_)
          clear hK K
          replace hF := hF.sub _ (c_ 4 rfl (c_ 0 rfl (c_ 1 rfl (c_ 5 rfl (n_)))))
          refine W_ret ?_
          refine ⟨_, _, hF, rfl, ?_⟩
          refine ⟨congrArg _ (Eq.symm (decide_eq_false ?_)), hS⟩
          rintro rfl
          rw [hr] at hs
          obtain rfl := Option.some.inj hs
          omega
        · skip
          try simp only [decide_eq_true_eq, decide_eq_false_iff_not, Bool.not_eq_true', Bool.not_eq_false', Bool.not_true, Bool.not_false] at hc3
          refine W_skip ?_
          have hls : r.length = s.length := by omega
          refine W_sr rfl (fun K hK => ?_)
          refine sv hF (v_assign rfl) rfl ?_; clear hF a; intro a hF
          refine WL_nil (hK _ _ ?_)
          clear hK K
          replace hF := hF.sub _ (c_ 6 rfl (c_ 0 rfl (c_ 1 rfl (c_ 5 rfl (n_)))))
          refine W_block ?_
          refine W_loop (fun m2 a w2 => ∃ (j : Nat), Fr 53 [(0, .slice (some ⟨gma, oma, none⟩) ma.length cma), (1, .slice (some ⟨gmb, omb, none⟩) mb.length cmb), (5, .int .i64 (i : Int)), (6, .int .i64 (j : Int))] a ∧ (St FDx B w w2) ∧ (Mat FDx B M w2 (some ⟨gma, oma, none⟩) cma ma) ∧ (Mat FDx B M w2 (some ⟨gmb, omb, none⟩) cmb mb) ∧ (j ≤ r.length) ∧ (r.take j = s.take j) ∧ (m2 + j = r.length)) (r.length) ?_ ?_
          · skip
            exact ⟨0, hF.sub _ (c_ 0 rfl (c_ 1 rfl (c_ 5 rfl (c_ 6 rfl (n_))))), hS, hAma, hAmb, by omega, by simp, by omega⟩
          · skip
            clear hF
            clear hS hAma hAmb hkr hrowr hks hrows
            rintro m2 a w2 ⟨j, hF, hS, hAma, hAmb, hj, hn2, hm2⟩
            refine W_seq ?_
            obtain ⟨pr, cr, hkr, hrowr, -⟩ := hAma.row2 hr
            obtain ⟨ps, cs, hks, hrows, -⟩ := hAmb.row2 hs
            refine W_sr rfl (fun K hK => ?_)
            refine sv hF (v_move rfl) rfl ?_; clear hF a; intro a hF
            refine sv hF (v_move rfl) rfl ?_; clear hF a; intro a hF
            refine sv hF (v_move rfl) rfl ?_; clear hF a; intro a hF
            refine sv hF (v_ixS sl22 rfl rfl (by omega) (by omega)) rfl ?_; clear hF a; intro a hF
            refine sv hF (v_load sc23 rfl (by rw [toNat_c]; exact hkr.c)) rfl ?_; clear hF a; intro a hF
            refine sv hF (v_lenS rfl sl23 rfl) rfl ?_; clear hF a; intro a hF
            refine sv hF (v_lss rfl rfl) rfl ?_; clear hF a; intro a hF
            refine WL_nil (hK _ _ ?_)
            clear hK K
            replace hF := hF.sub _ (c_ 35 rfl (c_ 0 rfl (c_ 1 rfl (c_ 5 rfl (c_ 6 rfl (n_))))))
            refine W_if hF rfl (fun hc4 => ?_) (fun hc4 => ?_)
            · skip
              try simp only [decide_eq_true_eq, decide_eq_false_iff_not, Bool.not_eq_true', Bool.not_eq_false', Bool.not_true, Bool.not_false] at hc4
              have hlt2 : j < r.length := by omega
              obtain ⟨x, hx⟩ : ∃ z, r[j]? = some z := ⟨_, List.getElem?_eq_getElem (by omega)⟩
              obtain ⟨gxx, oxx, hgxx, hkx, -⟩ := hrowr.kat (zints_at hx)
              subst hgxx
              obtain ⟨y, hy⟩ : ∃ z, s[j]? = some z := ⟨_, List.getElem?_eq_getElem (by omega)⟩
              obtain ⟨gxy, oxy, hgxy, hky, -⟩ := hrows.kat (zints_at hy)
              subst hgxy
              refine W_skip ?_
              refine W_seq ?_
              refine W_block ?_
              refine W_sd (m := 15) rfl hmix hS.inv (fun K hK w1 hS' hh => ?_)
              replace hAma := hAma.st hS'
              replace hAmb := hAmb.st hS'
              replace hkr := hkr.st hS'
              replace hks := hks.st hS'
              replace hkx := hkx.st hS'
              replace hky := hky.st hS'
              replace hS := hS.trans hS'
              clear hS'
              clear hh
              refine a_v (i := 0) rfl (by kernel_rfl) hF (fun w2 hx => v_move rfl) rfl ?_; clear hF a; intro a hF
              refine a_v (i := 1) rfl (by kernel_rfl) hF (fun w2 hx => v_move rfl) rfl ?_; clear hF a; intro a hF
              refine a_v (i := 2) rfl (by kernel_rfl) hF (fun w2 hx => v_ixS sl22 rfl rfl (by omega) (by omega)) rfl ?_; clear hF a; intro a hF
              refine a_v (i := 3) rfl (by kernel_rfl) hF (fun w2 hx => v_load sc23 rfl (by rw [toNat_c]; exact hkr.ld hx)) rfl ?_; clear hF a; intro a hF
              refine a_v (i := 4) rfl (by kernel_rfl) hF (fun w2 hx => v_move rfl) rfl ?_; clear hF a; intro a hF
              refine a_v (i := 5) rfl (by kernel_rfl) hF (fun w2 hx => v_ixS sl23 rfl rfl (by omega) (by omega)) rfl ?_; clear hF a; intro a hF
              refine a_v (i := 6) rfl (by kernel_rfl) hF (fun w2 hx => v_load sc3 rfl (by rw [toNat_c]; exact hkx.ld hx)) rfl ?_; clear hF a; intro a hF
              refine a_v (i := 7) rfl (by kernel_rfl) hF (fun w2 hx => v_move rfl) rfl ?_; clear hF a; intro a hF
              refine a_v (i := 8) rfl (by kernel_rfl) hF (fun w2 hx => v_move rfl) rfl ?_; clear hF a; intro a hF
              refine a_v (i := 9) rfl (by kernel_rfl) hF (fun w2 hx => v_ixS sl22 rfl rfl (by omega) (by omega)) rfl ?_; clear hF a; intro a hF
              refine a_v (i := 10) rfl (by kernel_rfl) hF (fun w2 hx => v_load sc23 rfl (by rw [toNat_c]; exact hks.ld hx)) rfl ?_; clear hF a; intro a hF
              refine a_v (i := 11) rfl (by kernel_rfl) hF (fun w2 hx => v_move rfl) rfl ?_; clear hF a; intro a hF
              refine a_v (i := 12) rfl (by kernel_rfl) hF (fun w2 hx => v_ixS sl23 rfl rfl (by omega) (by omega)) rfl ?_; clear hF a; intro a hF
              refine a_v (i := 13) rfl (by kernel_rfl) hF (fun w2 hx => v_load sc3 rfl (by rw [toNat_c]; exact hky.ld hx)) rfl ?_; clear hF a; intro a hF
              refine a_v (i := 14) rfl (by kernel_rfl) hF (fun w2 hx => v_neq rfl rfl) rfl ?_; clear hF a; intro a hF
              refine a_done (by kernel_rfl) (hK _ _ ?_)
              clear hK K
              replace hF := hF.sub _ (c_ 52 rfl (c_ 0 rfl (c_ 1 rfl (c_ 5 rfl (c_ 6 rfl (n_))))))
              refine W_if hF rfl (fun hc5 => ?_) (fun hc5 => ?_)
              · skip
                try simp only [decide_eq_true_eq, decide_eq_false_iff_not, Bool.not_eq_true', Bool.not_eq_false', Bool.not_true, Bool.not_false] at hc5
                refine W_sr rfl (fun K hK => ?_)
                refine sv hF (v_assign rfl) rfl ?_; clear hF a; intro a hF
                refine WL_nil (hK _ _ ?_)
                clear hK K
                replace hF := hF.sub _ (c_ 4 rfl (c_ 0 rfl (c_ 1 rfl (c_ 5 rfl (c_ 6 rfl (n_))))))
                refine W_ret ?_
                refine ⟨_, _, hF, rfl, ?_⟩
                refine ⟨congrArg _ (Eq.symm (decide_eq_false ?_)), hS⟩
                rintro rfl
                rw [hr] at hs
                obtain rfl := Option.some.inj hs
                rw [hx] at hy
                obtain rfl := Option.some.inj hy
                omega
              · skip
                try simp only [decide_eq_true_eq, decide_eq_false_iff_not, Bool.not_eq_true', Bool.not_eq_false', Bool.not_true, Bool.not_false] at hc5
                refine W_skip ?_
                refine W_reg rfl (fun K hK => ?_)
                refine sv hF (v_move rfl) rfl ?_; clear hF a; intro a hF
                refine sv hF (v_addI rfl rfl (by omega)) rfl ?_; clear hF a; intro a hF
                refine sv hF (v_assign rfl) rfl ?_; clear hF a; intro a hF
                refine WL_nil (hK _ _ ?_)
                clear hK K
                replace hF := hF.sub _ (c_ 6 rfl (c_ 37 rfl (c_ 36 rfl (c_ 0 rfl (c_ 1 rfl (c_ 5 rfl (n_)))))))
                exact ⟨m2 - 1, by omega, j + 1, hF.sub _ (c_ 0 rfl (c_ 1 rfl (c_ 5 rfl (c_ 6 rfl (n_))))), hS, hAma, hAmb, by omega, take_snoc_eq hn2 hx (by rw [hy]; congr 1; omega), by omega⟩
            · skip
              try simp only [decide_eq_true_eq, decide_eq_false_iff_not, Bool.not_eq_true', Bool.not_eq_false', Bool.not_true, Bool.not_false] at hc4
              obtain rfl : j = r.length := by omega
              obtain rfl : r = s := by rw [List.take_length, List.take_of_length_le (by omega)] at hn2; exact hn2
              refine W_exit rfl ?_
              refine W_reg rfl (fun K hK => ?_)
              refine sv hF (v_move rfl) rfl ?_; clear hF a; intro a hF
              refine sv hF (v_addI rfl rfl (by omega)) rfl ?_; clear hF a; intro a hF
              refine sv hF (v_assign rfl) rfl ?_; clear hF a; intro a hF
              refine WL_nil (hK _ _ ?_)
              clear hK K
              replace hF := hF.sub _ (c_ 5 rfl (c_ 17 rfl (c_ 16 rfl (c_ 0 rfl (c_ 1 rfl (c_ 6 rfl (n_)))))))
              exact ⟨m - 1, by omega, i + 1, hF.sub _ (c_ 0 rfl (c_ 1 rfl (c_ 5 rfl (n_)))), hS, hAma, hAmb, by omega, take_snoc_eq hn hr hs, by omega⟩
      · skip
        try simp only [decide_eq_true_eq, decide_eq_false_iff_not, Bool.not_eq_true', Bool.not_eq_false', Bool.not_true, Bool.not_false] at hc2
        refine W_exit rfl ?_
        refine W_sr rfl (fun K hK => ?_)
        refine sv hF (v_assign rfl) rfl ?_; clear hF a; intro a hF
        refine WL_nil (hK _ _ ?_)
        clear hK K
        replace hF := hF.sub _ (c_ 4 rfl (c_ 0 rfl (c_ 1 rfl (c_ 5 rfl (n_)))))
        refine W_ret ?_
        refine ⟨_, _, hF, rfl, ?_⟩
        refine ⟨congrArg _ (Eq.symm (decide_eq_true ?_)), hS⟩
        obtain rfl : i = ma.length := by omega
        rw [List.take_length, List.take_of_length_le (by omega)] at hn
        exact hn

end Go.Proofs.YtcnlooajjnghaaaGreat

/- The walks of gambrelref04: identity, rows picked, joined, products. -/
set_option linter.unusedVariables false
set_option linter.unusedSimpArgs false
namespace Go.Proofs.YtcnlooajjnghaaaGreat
open Go Go.Gam


namespace FxFRef04b
theorem sl22 : Sl Tryz.prog 22 23 (.slice none 0 0) 24 := sl_of Tryz.underlying22 rfl (by kernel_rfl)
theorem sl23 : Sl Tryz.prog 23 3 (.int .i64 0) 8 := sl_of Tryz.underlying23 rfl (by kernel_rfl)
end FxFRef04b
open FxFRef04b

set_option maxRecDepth 100000 in
set_option maxHeartbeats 1000000 in
theorem rIdentity_ok (B : Nat) (n : Int) (w : World) (hI : Inv FDx B w) (hn : -9223372036854775808 ≤ n ∧ n < 9223372036854775808) : Ret Tryz.prog 32 [.int .i64 n] w fun v w' => ∃ ob, MOwn FDx B w.heap.size 0 w'.heap.size w' 23 v ob (identM n) ∧ St FDx B w w' := by
  refine enter 34 [(0, .int .i64 n)] 2 Tryz.func32 rfl rfl rfl rfl rfl ?_; intro a hF
  have hS := St.refl hI
  refine W_sr rfl (fun K hK => ?_)
  refine sv hF (v_assign rfl) rfl ?_; clear hF a; intro a hF
  refine WL_nil (hK _ _ ?_)
  clear hK K
  refine W_sr rfl (fun K hK => ?_)
  refine sv hF (v_assign rfl) rfl ?_; clear hF a; intro a hF
  refine WL_nil (hK _ _ ?_)
  clear hK K
  refine W_seq ?_
  refine W_sr rfl (fun K hK => ?_)
  refine sv hF (v_assign rfl) rfl ?_; clear hF a; intro a hF
  refine WL_nil (hK _ _ ?_)
  clear hK K
  refine W_block ?_
  refine W_loop (fun m a w1 => ∃ (i : Nat) (v3 : Value) (b3 : Option Nat), Fr 34 [(0, .int .i64 n), (3, v3), (4, .int .i64 (i : Int))] a ∧ (St FDx B w w1) ∧ (MOwn FDx B w.heap.size 0 w1.heap.size w1 23 v3 b3 ((List.range i).map (unitR n.toNat))) ∧ (i ≤ n.toNat) ∧ (i = 0 ∨ n ≤ 20) ∧ (m + i = n.toNat)) (n.toNat) ?_ ?_
  · skip
    exact ⟨0, _, none, hF.sub _ (c_ 0 rfl (c_ 3 rfl (c_ 4 rfl (n_)))), hS, MOwn.nil _ _ _ _ _ _ _ (Nat.zero_le _), by omega, by omega, by omega⟩
  · skip
    clear hF
    clear hS
    rintro m a w1 ⟨i, v3, b3, hF, hS, hMO, hi, hi2, hm⟩
    refine W_seq ?_
    obtain ⟨KM, hKe⟩ : ∃ KM, KM = w1.heap.size := ⟨_, rfl⟩
    rw [← hKe] at hMO
    have hKs : KM ≤ w1.heap.size := by omega
    have hNK : w.heap.size ≤ KM := by have := hS.ext.size; omega
    clear hKe
    refine W_sr rfl (fun K hK => ?_)
    refine sv hF (v_move rfl) rfl ?_; clear hF a; intro a hF
    refine sv hF (v_move rfl) rfl ?_; clear hF a; intro a hF
    refine sb hF (v_lss rfl rfl) rfl ?_ ?_
    · clear hF a; intro hc1 a hF
      try simp only [decide_eq_true_eq, decide_eq_false_iff_not, Bool.not_eq_true', Bool.not_eq_false', Bool.not_true, Bool.not_false] at hc1
      refine sv hF (v_move rfl) rfl ?_; clear hF a; intro a hF
      refine svg hF rfl ?_
      refine sv hF (v_move rfl) rfl ?_; clear hF a; intro a hF
      refine svg hF rfl ?_
      refine sv hF (v_leq rfl rfl) rfl ?_; clear hF a; intro a hF
      refine sv hF (v_pickT rfl rfl) rfl ?_; clear hF a; intro a hF
      refine WL_nil (hK _ _ ?_)
      clear hK K
      replace hF := hF.sub _ (c_ 14 rfl (c_ 0 rfl (c_ 3 rfl (c_ 4 rfl (n_)))))
      refine W_if hF rfl (fun hc2 => ?_) (fun hc2 => ?_)
      · skip
        try simp only [decide_eq_true_eq, decide_eq_false_iff_not, Bool.not_eq_true', Bool.not_eq_false', Bool.not_true, Bool.not_false] at hc2
        refine W_skip ?_
        refine W_seq ?_
        refine W_block ?_
        refine W_sr rfl (fun K hK => ?_)
        refine sv hF (v_assign rfl) rfl ?_; clear hF a; intro a hF
        refine WL_nil (hK _ _ ?_)
        clear hK K
        replace hF := hF.sub _ (c_ 5 rfl (c_ 0 rfl (c_ 3 rfl (c_ 4 rfl (n_)))))
        refine W_seq ?_
        refine W_sr rfl (fun K hK => ?_)
        refine sv hF (v_assign rfl) rfl ?_; clear hF a; intro a hF
        refine WL_nil (hK _ _ ?_)
        clear hK K
        refine W_block ?_
        refine W_loop (fun m2 a w2 => ∃ (j : Nat) (v5 : Value) (b5 : Option Nat), Fr 34 [(0, .int .i64 n), (3, v3), (4, .int .i64 (i : Int)), (5, v5), (6, .int .i64 (j : Int))] a ∧ (St FDx B w w2) ∧ (MOwn FDx B w.heap.size 0 KM w2 23 v3 b3 ((List.range i).map (unitR n.toNat))) ∧ (KM ≤ w2.heap.size) ∧ (Gam.Own FDx B KM w2 FDx.E v5 b5 (zints ((unitR n.toNat i).take j))) ∧ (j ≤ n.toNat) ∧ (m2 + j = n.toNat)) (n.toNat) ?_ ?_
        · skip
          exact ⟨0, _, none, hF.sub _ (c_ 0 rfl (c_ 3 rfl (c_ 4 rfl (c_ 5 rfl (c_ 6 rfl (n_)))))), hS, hMO, hKs, Gam.Own.nil _ _ _ _ _, by omega, by omega⟩
        · skip
          clear hF
          clear hS hMO hKs
          rintro m2 a w2 ⟨j, v5, b5, hF, hS, hMO, hKs, hO, hj, hm2⟩
          refine W_seq ?_
          refine W_sr rfl (fun K hK => ?_)
          refine sv hF (v_move rfl) rfl ?_; clear hF a; intro a hF
          refine sv hF (v_move rfl) rfl ?_; clear hF a; intro a hF
          refine sv hF (v_lss rfl rfl) rfl ?_; clear hF a; intro a hF
          refine WL_nil (hK _ _ ?_)
          clear hK K
          replace hF := hF.sub _ (c_ 19 rfl (c_ 0 rfl (c_ 3 rfl (c_ 4 rfl (c_ 5 rfl (c_ 6 rfl (n_)))))))
          refine W_if hF rfl (fun hc3 => ?_) (fun hc3 => ?_)
          · skip
            try simp only [decide_eq_true_eq, decide_eq_false_iff_not, Bool.not_eq_true', Bool.not_eq_false', Bool.not_true, Bool.not_false] at hc3
            refine W_skip ?_
            refine W_seq ?_
            refine W_block ?_
            refine W_sr rfl (fun K hK => ?_)
            refine sv hF (v_assign rfl) rfl ?_; clear hF a; intro a hF
            refine WL_nil (hK _ _ ?_)
            clear hK K
            replace hF := hF.sub _ (c_ 7 rfl (c_ 0 rfl (c_ 3 rfl (c_ 4 rfl (c_ 5 rfl (c_ 6 rfl (n_)))))))
            refine W_seq ?_
            refine W_sr rfl (fun K hK => ?_)
            refine sv hF (v_move rfl) rfl ?_; clear hF a; intro a hF
            refine sv hF (v_move rfl) rfl ?_; clear hF a; intro a hF
            refine sv hF (v_eql rfl rfl) rfl ?_; clear hF a; intro a hF
            refine WL_nil (hK _ _ ?_)
            clear hK K
            replace hF := hF.sub _ (c_ 24 rfl (c_ 7 rfl (c_ 0 rfl (c_ 3 rfl (c_ 4 rfl (c_ 5 rfl (c_ 6 rfl (n_))))))))
            refine W_if hF rfl (fun hc4 => ?_) (fun hc4 => ?_)
            · skip
              try simp only [decide_eq_true_eq, decide_eq_false_iff_not, Bool.not_eq_true', Bool.not_eq_false', Bool.not_true, Bool.not_false] at hc4
              refine W_reg rfl (fun K hK => ?_)
              refine sv hF (v_assign rfl) rfl ?_; clear hF a; intro a hF
              refine WL_nil (hK _ _ ?_)
              clear hK K
              replace hF := hF.sub _ (c_ 7 rfl (c_ 0 rfl (c_ 3 rfl (c_ 4 rfl (c_ 5 rfl (c_ 6 rfl (n_)))))))
              have hul := unitR_length n.toNat i
              refine W_reg rfl (fun K hK => ?_)
              refine sv hF (v_move rfl) rfl ?_; clear hF a; intro a hF
              refine sv hF (v_move rfl) rfl ?_; clear hF a; intro a hF
              refine s_bs (D := FDx) (B := B) hF sl23 rfl rfl (by decide) (by simp [Value.cells]) (by decide) hS.inv rfl ?_; clear hF a; intro w' a hm hI' hL hF
              replace hMO := hMO.mb0 hm
              replace hKs := Nat.le_trans hKs hm.size
              replace hO := hO.mb hm (fun _ _ => by simp)
              replace hS := hS.mb0 hm
              clear hm hI'
              refine s_app (D := FDx) (B := B) hF rfl sl23 rfl rfl hO (hL.row (by decide)) (by simp [Value.oneCell']) (by simp; omega) (by simp [maxLen]; omega) (hKs) (by decide) hS.inv rfl ?_; clear hF a; intro v' b' w' a ho' hm hI' hb' hF
              replace hMO := hMO.mbo hm hO (by decide) (Nat.le_refl _) (Nat.zero_le _)
              replace hKs := Nat.le_trans hKs hm.size
              replace hS := hS.mb hm (fun k h => Nat.le_trans (hNK) (hO.lt k h).1)
              replace hO := ho'
              clear hm hI' ho'
              refine sv hF (v_assign rfl) rfl ?_; clear hF a; intro a hF
              refine WL_nil (hK _ _ ?_)
              clear hK K
              replace hF := hF.sub _ (c_ 5 rfl (c_ 0 rfl (c_ 3 rfl (c_ 4 rfl (c_ 6 rfl (n_))))))
              refine W_reg rfl (fun K hK => ?_)
              refine sv hF (v_move rfl) rfl ?_; clear hF a; intro a hF
              refine sv hF (v_addI rfl rfl (by omega)) rfl ?_; clear hF a; intro a hF
              refine sv hF (v_assign rfl) rfl ?_; clear hF a; intro a hF
              refine WL_nil (hK _ _ ?_)
              clear hK K
              exact ⟨m2 - 1, by omega, j + 1, _, _, hF.sub _ (c_ 0 rfl (c_ 3 rfl (c_ 4 rfl (c_ 5 rfl (c_ 6 rfl (n_)))))), hS, hMO, hKs, hO.cast (by rw [unitR_snoc _ _ _ (by omega)]; (first | rw [if_pos (by omega)] | rw [if_neg (by omega)]); simp [zints]), by omega, by omega⟩
            · skip
              try simp only [decide_eq_true_eq, decide_eq_false_iff_not, Bool.not_eq_true', Bool.not_eq_false', Bool.not_true, Bool.not_false] at hc4
              refine W_skip ?_
              have hul := unitR_length n.toNat i
              refine W_reg rfl (fun K hK => ?_)
              refine sv hF (v_move rfl) rfl ?_; clear hF a; intro a hF
              refine sv hF (v_move rfl) rfl ?_; clear hF a; intro a hF
              refine s_bs (D := FDx) (B := B) hF sl23 rfl rfl (by decide) (by simp [Value.cells]) (by decide) hS.inv rfl ?_; clear hF a; intro w' a hm hI' hL hF
              replace hMO := hMO.mb0 hm
              replace hKs := Nat.le_trans hKs hm.size
              replace hO := hO.mb hm (fun _ _ => by simp)
              replace hS := hS.mb0 hm
              clear hm hI'
              refine s_app (D := FDx) (B := B) hF rfl sl23 rfl rfl hO (hL.row (by decide)) (by simp [Value.oneCell']) (by simp; omega) (by simp [maxLen]; omega) (hKs) (by decide) hS.inv rfl ?_; clear hF a; intro v' b' w' a ho' hm hI' hb' hF
              replace hMO := hMO.mbo hm hO (by decide) (Nat.le_refl _) (Nat.zero_le _)
              replace hKs := Nat.le_trans hKs hm.size
              replace hS := hS.mb hm (fun k h => Nat.le_trans (hNK) (hO.lt k h).1)
              replace hO := ho'
              clear hm hI' ho'
              refine sv hF (v_assign rfl) rfl ?_; clear hF a; intro a hF
              refine WL_nil (hK _ _ ?_)
              clear hK K
              replace hF := hF.sub _ (c_ 5 rfl (c_ 0 rfl (c_ 3 rfl (c_ 4 rfl (c_ 6 rfl (n_))))))
              refine W_reg rfl (fun K hK => ?_)
              refine sv hF (v_move rfl) rfl ?_; clear hF a; intro a hF
              refine sv hF (v_addI rfl rfl (by omega)) rfl ?_; clear hF a; intro a hF
              refine sv hF (v_assign rfl) rfl ?_; clear hF a; intro a hF
              refine WL_nil (hK _ _ ?_)
              clear hK K
              exact ⟨m2 - 1, by omega, j + 1, _, _, hF.sub _ (c_ 0 rfl (c_ 3 rfl (c_ 4 rfl (c_ 5 rfl (c_ 6 rfl (n_)))))), hS, hMO, hKs, hO.cast (by rw [unitR_snoc _ _ _ (by omega)]; (first | rw [if_pos (by omega)] | rw [if_neg (by omega)]); simp [zints]), by omega, by omega⟩
          · skip
            try simp only [decide_eq_true_eq, decide_eq_false_iff_not, Bool.not_eq_true', Bool.not_eq_false', Bool.not_true, Bool.not_false] at hc3
            refine W_exit rfl ?_
            obtain rfl : j = n.toNat := by omega
            rw [List.take_of_length_le (by rw [unitR_length]; omega)] at hO
            refine W_reg rfl (fun K hK => ?_)
            refine sv hF (v_move rfl) rfl ?_; clear hF a; intro a hF
            refine sv hF (v_move rfl) rfl ?_; clear hF a; intro a hF
            obtain ⟨a_, c_r, rfl⟩ := hO.shape
            refine s_bs (D := FDx) (B := B) hF sl22 rfl rfl (by decide) (by simp [Value.cells]) (by decide) hS.inv rfl ?_; clear hF a; intro w' a hm hI' hL hF
            replace hMO := hMO.mb0 hm
            replace hKs := Nat.le_trans hKs hm.size
            replace hO := hO.mb hm (fun _ _ => by simp)
            replace hS := hS.mb0 hm
            clear hm hI'
            replace hMO := hMO.up hKs
            clear hKs
            refine s_appM (D := FDx) (B := B) hF rfl sl22 rfl rfl hMO hL (.of hO (Nat.zero_le _)) rfl rfl (by simp; omega) (hS.ext.size) (by decide) (by decide) hS.inv rfl ?_; clear hF a; intro v' b' w' a ho' hm hI' hF
            replace hS := hS.mb hm (fun k h => (hMO.lt k h).1)
            have hKm := hm.size
            replace hMO := ho'
            clear hm hI' ho' hL
            refine sv hF (v_assign rfl) rfl ?_; clear hF a; intro a hF
            refine WL_nil (hK _ _ ?_)
            clear hK K
            replace hF := hF.sub _ (c_ 3 rfl (c_ 32 rfl (c_ 31 rfl (c_ 30 rfl (c_ 29 rfl (c_ 0 rfl (c_ 4 rfl (c_ 5 rfl (c_ 6 rfl (n_))))))))))
            refine W_reg rfl (fun K hK => ?_)
            refine sv hF (v_move rfl) rfl ?_; clear hF a; intro a hF
            refine sv hF (v_addI rfl rfl (by omega)) rfl ?_; clear hF a; intro a hF
            refine sv hF (v_assign rfl) rfl ?_; clear hF a; intro a hF
            refine WL_nil (hK _ _ ?_)
            clear hK K
            exact ⟨m - 1, by omega, i + 1, _, _, hF.sub _ (c_ 0 rfl (c_ 3 rfl (c_ 4 rfl (n_)))), hS, (hMO.up hKm).cast (idM_snoc _ _).symm, by omega, by omega, by omega⟩
      · skip
        try simp only [decide_eq_true_eq, decide_eq_false_iff_not, Bool.not_eq_true', Bool.not_eq_false', Bool.not_true, Bool.not_false] at hc2
        refine W_exit rfl ?_
        refine W_sr rfl (fun K hK => ?_)
        refine sv hF (v_move rfl) rfl ?_; clear hF a; intro a hF
        refine sv hF (v_assign rfl) rfl ?_; clear hF a; intro a hF
        refine WL_nil (hK _ _ ?_)
        clear hK K
        replace hF := hF.sub _ (c_ 2 rfl (c_ 33 rfl (c_ 0 rfl (c_ 3 rfl (c_ 4 rfl (n_))))))
        refine W_ret ?_
        refine ⟨_, _, hF, rfl, ?_⟩
        rw [ident_done (by omega)] at hMO
        exact ⟨_, hMO.up hKs, hS⟩
    · clear hF a; intro hc1 a hF
      try simp only [decide_eq_true_eq, decide_eq_false_iff_not, Bool.not_eq_true', Bool.not_eq_false', Bool.not_true, Bool.not_false] at hc1
      refine sv hF (v_move rfl) rfl ?_; clear hF a; intro a hF
      refine svn hF rfl rfl rfl ?_; clear hF a; intro a hF
      refine svn hF rfl rfl rfl ?_; clear hF a; intro a hF
      refine sv hF (v_pickF rfl rfl) rfl ?_; clear hF a; intro a hF
      refine WL_nil (hK _ _ ?_)
      clear hK K
      replace hF := hF.sub _ (c_ 14 rfl (c_ 0 rfl (c_ 3 rfl (c_ 4 rfl (n_)))))
      refine W_ifF hF rfl ?_
      refine W_exit rfl ?_
      refine W_sr rfl (fun K hK => ?_)
      refine sv hF (v_move rfl) rfl ?_; clear hF a; intro a hF
      refine sv hF (v_assign rfl) rfl ?_; clear hF a; intro a hF
      refine WL_nil (hK _ _ ?_)
      clear hK K
      replace hF := hF.sub _ (c_ 2 rfl (c_ 33 rfl (c_ 0 rfl (c_ 3 rfl (c_ 4 rfl (n_))))))
      refine W_ret ?_
      refine ⟨_, _, hF, rfl, ?_⟩
      rw [ident_done (by omega)] at hMO
      exact ⟨_, hMO.up hKs, hS⟩

end Go.Proofs.YtcnlooajjnghaaaGreat

/- Rows of the identity with other rows behind it: which of them, as many as columns, have an inverse; minors. No program in sight. -/
set_option linter.unusedVariables false
set_option linter.unusedSimpArgs false
namespace Go.Gam
open Px

/-! ### sums over a list -/
def xsumL : List Nat → (Nat → Nat) → Nat
  | [], _ => 0
  | j :: r, f => f j ^^^ xsumL r f
theorem xsumL_app (f : Nat → Nat) : ∀ (a b : List Nat), xsumL (a ++ b) f = xsumL a f ^^^ xsumL b f
  | [], b => by simp [xsumL]
  | j :: r, b => by rw [List.cons_append, xsumL, xsumL_app f r b, xsumL, Nat.xor_assoc]
theorem xsumL_range (f : Nat → Nat) : ∀ n, xsumL (List.range n) f = xsum n f
  | 0 => rfl
  | n + 1 => by rw [List.range_succ, xsumL_app, xsumL_range f n, xsum]; simp [xsumL]
theorem xsumL_filter {f : Nat → Nat} {p : Nat → Bool} : ∀ {L : List Nat}, (∀ j ∈ L, p j = false → f j = 0) → xsumL L f = xsumL (L.filter p) f
  | [], _ => rfl
  | j :: r, h => by
    have ih := xsumL_filter (L := r) fun j hj => h j (List.mem_cons_of_mem _ hj)
    cases hp : p j with
    | true => rw [List.filter_cons_of_pos hp, xsumL, xsumL, ih]
    | false => rw [List.filter_cons_of_neg (by simp [hp]), xsumL, ih, h j (List.mem_cons_self ..) hp, Nat.zero_xor]
theorem xsumL_len (f : Nat → Nat) : ∀ J : List Nat, xsumL J f = xsum J.length fun b => f (J.getD b 0)
  | [] => rfl
  | j :: r => by
    rw [xsumL, xsumL_len f r, List.length_cons, Nat.add_comm r.length 1, xsum_add]
    congr 1
    · show f j = 0 ^^^ f j; rw [Nat.zero_xor]
    · exact xsum_congr fun i _ => by rw [Nat.add_comm 1 i]; rfl
theorem sub_len {a b : List Nat} (ha : a.Nodup) (h : ∀ x ∈ a, x ∈ b) : a.length ≤ b.length := by
  by_cases hl : b.length ≤ a.length
  · exact Nat.le_of_eq (Fld.perm_of_sub a b ha h hl).length_eq
  · omega
theorem filter_two {α : Type} (p : α → Bool) : ∀ l : List α, (l.filter p).length + (l.filter fun x => !p x).length = l.length
  | [] => rfl
  | x :: r => by
    have ih := filter_two p r
    cases h : p x <;> simp [h] <;> omega

/-! ### minors -/
/-- The rows behind the identity that are chosen; the columns that no chosen row of the identity has. -/
def parR (k : Nat) (l : List Nat) : List Nat := (l.filter fun x => decide (k ≤ x)).map (· - k)
def misJ (k : Nat) (l : List Nat) : List Nat := (List.range k).filter fun j => !decide (j ∈ l)
theorem par_mis {k : Nat} {l : List Nat} (hl : l.length = k) (hn : l.Nodup) : (parR k l).length = (misJ k l).length := by
  have h1 := filter_two (fun x => decide (k ≤ x)) l
  have h2 := filter_two (fun j => decide (j ∈ l)) (List.range k)
  have e : (l.filter fun x => !decide (k ≤ x)).length = ((List.range k).filter fun j => decide (j ∈ l)).length := by
    apply Nat.le_antisymm
    · exact sub_len (hn.filter _) fun x hx => by
        simp only [List.mem_filter, Bool.not_eq_true', decide_eq_false_iff_not] at hx
        simp only [List.mem_filter, List.mem_range, decide_eq_true_iff]
        exact ⟨by omega, hx.1⟩
    · exact sub_len (List.nodup_range.filter _) fun x hx => by
        simp only [List.mem_filter, List.mem_range, decide_eq_true_iff] at hx
        simp only [List.mem_filter, Bool.not_eq_true', decide_eq_false_iff_not]
        exact ⟨hx.2, by omega⟩
  unfold parR misJ
  rw [List.length_map]
  rw [List.length_range] at h2
  omega
theorem parR_nodup {k : Nat} {l : List Nat} (hn : l.Nodup) : (parR k l).Nodup := by
  refine List.Pairwise.map _ (R := fun a b => k ≤ a ∧ k ≤ b ∧ a ≠ b) (fun a b h e => h.2.2 (by omega)) ?_
  refine List.Pairwise.imp_of_mem (fun ha hb hne => ?_) (hn.filter _)
  simp only [List.mem_filter, decide_eq_true_iff] at ha hb
  exact ⟨ha.2, hb.2, hne⟩
theorem misJ_nodup (k : Nat) (l : List Nat) : (misJ k l).Nodup := List.nodup_range.filter _
theorem parR_lt {k m : Nat} {l : List Nat} (h : ∀ x ∈ l, x < k + m) : ∀ r ∈ parR k l, r < m := fun r hr => by
  obtain ⟨x, hx, rfl⟩ := List.mem_map.1 hr
  simp only [List.mem_filter, decide_eq_true_iff] at hx
  have := h x hx.1
  omega
theorem misJ_lt {k : Nat} {l : List Nat} : ∀ j ∈ misJ k l, j < k := fun j hj => List.mem_range.1 (List.mem_filter.1 hj).1
def mnr (C : Tb) (R J : List Nat) : Tb := fun a b => C (R.getD a 0) (J.getD b 0)
/-- The identity's k rows, with others behind it. -/
def beh (k : Nat) (C : Tb) : Tb := fun i j => if i < k then I1 i j else C (i - k) j
namespace Fld
variable (F : Fld)
theorem mnr_bd {C : Tb} (h : F.Bd C) (R J : List Nat) : F.Bd (mnr C R J) := fun a b => h _ _
theorem beh_bd {k : Nat} {C : Tb} (h : F.Bd C) : F.Bd (beh k C) := fun i j => by unfold beh; split; exact F.I1_bd _ _; exact h _ _
theorem getD_mem {L : List Nat} {i : Nat} (h : i < L.length) : L.getD i 0 ∈ L := by rw [getD_of h]; exact List.getElem_mem h
theorem row_par {k : Nat} {C : Tb} {l : List Nat} {y : Nat → Nat} (hy : ∀ j, j < k → j ∈ l → y j = 0) (r : Nat) :
    (xsum k fun j => F.mul (C r j) (y j)) = xsum (misJ k l).length fun b => F.mul (C r ((misJ k l).getD b 0)) (y ((misJ k l).getD b 0)) := by
  rw [← xsumL_range, xsumL_filter (p := fun j => !decide (j ∈ l)) (fun j hj hp => by
    rw [hy j (List.mem_range.1 hj) (by simpa using hp), F.mul_zero])]
  exact xsumL_len _ _
/-- Chosen rows have an inverse, if the minor that they leave has. -/
theorem mds_of {k m : Nat} {C : Tb} {l : List Nat} (hC : F.Bd C) (hl : l.length = k) (hn : l.Nodup) (h : (F.iv (parR k l).length (mnr C (parR k l) (misJ k l))).isSome = true) :
    ∃ g, F.iv k (fun i j => beh k C (l.getD i 0) j) = some g := by
  obtain ⟨g, hg⟩ := Option.isSome_iff_exists.1 h
  have hI := F.iv_some (F.mnr_bd hC _ _) hg
  have hlen := par_mis hl hn
  refine F.iv_ofR (fun i j => F.beh_bd hC _ _) fun y h1 h2 => ?_
  have hin : ∀ x ∈ l, (xsum k fun j => F.mul (beh k C x j) (y j)) = 0 := fun x hx => by
    obtain ⟨i, hi⟩ := List.getElem?_of_mem hx
    have hil := (List.getElem?_eq_some_iff.1 hi).1
    have := h2 i (by omega)
    rw [List.getD_eq_getElem?_getD, hi] at this
    exact this
  have hid : ∀ j, j < k → j ∈ l → y j = 0 := fun j hj hjl => by
    have := hin j hjl
    rw [xsum_congr (g := fun s => F.mul (I1 j s) (y s)) fun s _ => by unfold beh; rw [if_pos hj]] at this
    have e := F.mm_idl (n := k) (f := fun s _ => y s) (i := j) (j := 0) hj (h1 j)
    unfold mm at e
    rw [← e]; exact this
  have hz : ∀ b, b < (parR k l).length → y ((misJ k l).getD b 0) = 0 := by
    refine hI.right F (y := fun b => y ((misJ k l).getD b 0)) (fun b => h1 _) fun a ha => ?_
    have hr := getD_mem ha
    obtain ⟨x, hx, hxe⟩ := List.mem_map.1 hr
    simp only [List.mem_filter, decide_eq_true_iff] at hx
    have := hin x hx.1
    rw [xsum_congr (g := fun s => F.mul (C (x - k) s) (y s)) fun s _ => by unfold beh; rw [if_neg (by omega)], F.row_par hid, ← hlen] at this
    unfold mnr
    rw [← hxe]
    exact this
  intro j hj
  by_cases hjl : j ∈ l
  · exact hid j hj hjl
  · have hm : j ∈ misJ k l := List.mem_filter.2 ⟨List.mem_range.2 hj, by simpa using hjl⟩
    obtain ⟨b, hb⟩ := List.getElem?_of_mem hm
    have hbl := (List.getElem?_eq_some_iff.1 hb).1
    have := hz b (by omega)
    rw [List.getD_eq_getElem?_getD, hb] at this
    exact this
/-- And the other way. -/
theorem mds_to {k m : Nat} {C : Tb} {l : List Nat} (hC : F.Bd C) (hl : l.length = k) (hn : l.Nodup) (h : (F.iv k (fun i j => beh k C (l.getD i 0) j)).isSome = true) :
    ∃ g, F.iv (parR k l).length (mnr C (parR k l) (misJ k l)) = some g := by
  obtain ⟨g, hg⟩ := Option.isSome_iff_exists.1 h
  have hI := F.iv_some (fun i j => F.beh_bd hC _ _) hg
  have hlen := par_mis hl hn
  refine F.iv_ofR (F.mnr_bd hC _ _) fun z h1 h2 => ?_
  let y : Nat → Nat := fun j => if j ∈ misJ k l then z ((misJ k l).idxOf j) else 0
  have hyb : ∀ j, y j < 2 ^ F.w := fun j => by
    show (if _ then _ else _) < _
    split
    · exact h1 _
    · exact F.zero_lt
  have hid : ∀ j, j < k → j ∈ l → y j = 0 := fun j hj hjl => if_neg fun hm => by
    have := (List.mem_filter.1 hm).2
    simp [hjl] at this
  have hyz : ∀ b, b < (misJ k l).length → y ((misJ k l).getD b 0) = z b := fun b hb => by
    show (if _ then _ else _) = _
    rw [if_pos (getD_mem hb), getD_of hb, List.Nodup.idxOf_getElem (misJ_nodup k l) b hb]
  have hy0 := hI.right F hyb fun i hi => by
    have hx := getD_mem (L := l) (i := i) (by omega)
    generalize l.getD i 0 = x at hx
    by_cases hxk : x < k
    · rw [xsum_congr (g := fun s => F.mul (I1 x s) (y s)) fun s _ => by unfold beh; rw [if_pos hxk]]
      have e := F.mm_idl (n := k) (f := fun s _ => y s) (i := x) (j := 0) hxk (hyb x)
      unfold mm at e
      rw [e]; exact hid x hxk hx
    · rw [xsum_congr (g := fun s => F.mul (C (x - k) s) (y s)) fun s _ => by unfold beh; rw [if_neg hxk], F.row_par hid]
      have hxp : x - k ∈ parR k l := List.mem_map.2 ⟨x, List.mem_filter.2 ⟨hx, by simpa using hxk⟩, rfl⟩
      obtain ⟨a, ha⟩ := List.getElem?_of_mem hxp
      have hal := (List.getElem?_eq_some_iff.1 ha).1
      have := h2 a hal
      unfold mnr at this
      rw [List.getD_eq_getElem?_getD, ha, hlen] at this
      exact Eq.trans (xsum_congr fun b hb => by rw [hyz b hb]; rfl) this
  intro b hb
  rw [← hyz b (by omega)]
  exact hy0 _ (misJ_lt _ (getD_mem (by omega)))

/-! ### rows of powers, columns for rows -/
theorem pow_tr {r : Nat} {x z : Nat → Nat} (hx : ∀ b, x b < 2 ^ F.w) (hu : ∀ a b, a < r → b < r → x a = x b → a = b) (hz : ∀ b, z b < 2 ^ F.w) (h : ∀ e, e < r → (xsum r fun b => F.mul (F.pow (x b) e) (z b)) = 0) : ∀ b, b < r → z b = 0 := by
  obtain ⟨g, hg⟩ := F.vander hx hu
  have hI := F.iv_some (fun i j => F.pow_lt _ _) hg
  exact hI.left F hz fun e he => by rw [← h e he]; exact xsum_congr fun b _ => F.comm _ _
theorem sq_inj {a b : Nat} (ha : a < 2 ^ F.w) (hb : b < 2 ^ F.w) (h : F.mul a a = F.mul b b) : a = b := by
  have h1 := F.sq_xor a b
  rw [h, Nat.xor_self] at h1
  rcases F.nzd _ _ (Px.xor_lt ha hb) (Px.xor_lt ha hb) h1 with h2 | h2 <;> exact Px.xor_eq_zero h2
theorem pow_two (a : Nat) (h : a < 2 ^ F.w) : F.pow a 2 = F.mul a a := by rw [show 2 = 1 + 1 from rfl, F.pow_add, F.pow_one a h]
/-- Three rows at most of powers of unlike numbers, the first three: any of them, of as many columns. -/
theorem three {R J : List Nat} {x : Nat → Nat} (hx : ∀ j, x j < 2 ^ F.w) (hx0 : ∀ j ∈ J, x j ≠ 0) (hu : ∀ i ∈ J, ∀ j ∈ J, x i = x j → i = j) (hR : R.Nodup) (hR3 : ∀ e ∈ R, e < 3) (hJ : J.Nodup) (hl : R.length = J.length) :
    ∃ g, F.iv R.length (mnr (fun i j => F.pow (x j) i) R J) = some g := by
  refine F.iv_ofR (fun a b => F.pow_lt _ _) fun z hz h => ?_
  have hrow : ∀ e ∈ R, (xsum R.length fun b => F.mul (F.pow (x (J.getD b 0)) e) (z b)) = 0 := fun e he => by
    obtain ⟨a, ha⟩ := List.getElem?_of_mem he
    have := h a (List.getElem?_eq_some_iff.1 ha).1
    unfold mnr at this
    rw [List.getD_eq_getElem?_getD, ha] at this
    exact this
  have hJu : ∀ a b, a < R.length → b < R.length → x (J.getD a 0) = x (J.getD b 0) → a = b := fun a b ha hb e => by
    have h1 := hu _ (getD_mem (L := J) (by omega)) _ (getD_mem (L := J) (by omega)) e
    rw [getD_of (show a < J.length by omega), getD_of (show b < J.length by omega)] at h1
    refine Classical.byContradiction fun hne => ?_
    rcases Nat.lt_or_gt_of_ne hne with h' | h'
    · exact List.pairwise_iff_getElem.1 hJ a b _ _ h' h1
    · exact List.pairwise_iff_getElem.1 hJ b a _ _ h' h1.symm
  have hJ0 : ∀ b, b < R.length → x (J.getD b 0) ≠ 0 := fun b hb => hx0 _ (getD_mem (by omega))
  generalize hX : (fun b => x (J.getD b 0)) = X
  have hXe : ∀ b, x (J.getD b 0) = X b := fun b => by rw [← hX]
  have hXb : ∀ b, X b < 2 ^ F.w := fun b => by rw [← hXe]; exact hx _
  simp only [hXe] at hrow hJu hJ0
  clear hX hXe hl h
  -- all rows from 0 on
  have full : (∀ e, e < R.length → e ∈ R) → ∀ b, b < R.length → z b = 0 := fun hf => F.pow_tr hXb hJu hz fun e he => hrow e (hf e he)
  match R, hR, hR3, hrow, hJu, hJ0, full with
  | [], _, _, _, _, _, _ => intro b hb; simp at hb
  | [e], _, _, hrow, _, hJ0, _ =>
    intro b hb
    have hb0 : b = 0 := by simpa using hb
    subst hb0
    have h1 := hrow e (by simp)
    simp only [List.length_singleton, xsum, Nat.zero_xor] at h1
    rcases F.nzd _ _ (F.pow_lt _ _) (hz 0) h1 with h2 | h2
    · exact absurd h2 (F.pow_ne (hXb 0) (hJ0 0 (by simp)) e)
    · exact h2
  | [e, f], hR, hR3, hrow, hJu, hJ0, full =>
    have hef : e ≠ f := by simpa using hR
    have he := hR3 e (by simp)
    have hf := hR3 f (by simp)
    have cases3 : (0 ∈ [e, f] ∧ 1 ∈ [e, f]) ∨ (0 ∈ [e, f] ∧ 2 ∈ [e, f]) ∨ (1 ∈ [e, f] ∧ 2 ∈ [e, f]) := by
      simp only [List.mem_cons, List.mem_nil_iff, or_false]; omega
    rcases cases3 with ⟨h0, h1⟩ | ⟨h0, h1⟩ | ⟨h0, h1⟩
    · exact full fun s hs => by
        have : s = 0 ∨ s = 1 := by simp at hs; omega
        rcases this with rfl | rfl
        · exact h0
        · exact h1
    · refine F.pow_tr (x := fun b => F.mul (X b) (X b)) (fun b => F.lt _ _) (fun a b ha hb h => hJu a b ha hb (F.sq_inj (hXb a) (hXb b) h)) hz fun s hs => ?_
      have : s = 0 ∨ s = 1 := by simp at hs; omega
      rcases this with rfl | rfl
      · exact hrow 0 h0
      · exact Eq.trans (xsum_congr fun b _ => by rw [F.pow_one _ (F.lt _ _), F.pow_two _ (hXb b)]) (hrow 2 h1)
    · have := F.pow_tr (x := X) (z := fun b => F.mul (X b) (z b)) hXb hJu (fun b => F.lt _ _) fun s hs => by
        have : s = 0 ∨ s = 1 := by simp at hs; omega
        rcases this with rfl | rfl
        · exact Eq.trans (xsum_congr fun b _ => by rw [F.pow_one _ (hXb b)]; exact F.one _ (F.lt _ _)) (hrow 1 h0)
        · exact Eq.trans (xsum_congr fun b _ => by rw [F.pow_one _ (hXb b), F.pow_two _ (hXb b), F.assoc]) (hrow 2 h1)
      intro b hb
      rcases F.nzd _ _ (hXb b) (hz b) (this b hb) with h2 | h2
      · exact absurd h2 (hJ0 b hb)
      · exact h2
  | [e, f, g], hR, hR3, _, _, _, full =>
    have he := hR3 e (by simp)
    have hf := hR3 f (by simp)
    have hg := hR3 g (by simp)
    simp at hR
    exact full fun s hs => by
      have : s = 0 ∨ s = 1 ∨ s = 2 := by simp at hs; omega
      simp only [List.mem_cons, List.mem_nil_iff, or_false]
      omega
  | e :: f :: g :: i :: r, hR, hR3, _, _, _, _ =>
    have he := hR3 e (by simp)
    have hf := hR3 f (by simp)
    have hg := hR3 g (by simp)
    have hi := hR3 i (by simp)
    simp at hR
    omega
end Fld
end Go.Gam

/- What the statements of layer 6 ask of matrices of powers. No program in sight. -/
set_option linter.unusedVariables false
set_option linter.unusedSimpArgs false
namespace Go.Gam
open Px

def casts (l : List Nat) : List Int := l.map fun (x : Nat) => (x : Int)
theorem casts_length (l : List Nat) : (casts l).length = l.length := by simp [casts]
section
variable {wb p : Nat} (hp : Prm wb p)
theorem tab_lens {n m : Nat} {f : Tb} (hn : n ≤ 20) (hm : m ≤ 20) : (tab n m f).length ≤ 20 ∧ ∀ r ∈ tab n m f, r.length ≤ 20 :=
  ⟨by rw [tab_length]; exact hn, fun r hr => by obtain ⟨i, _, rfl⟩ := List.mem_map.1 hr; simpa using hm⟩
theorem inv0 {k : Nat} {f : Tb} (hb : hp.fld.Bd f) (h1 : 1 ≤ k) (h2 : k ≤ 20) (h : ∃ g, hp.fld.iv k f = some g) : (invR hp (tab k k f)).1 = 0 := by
  have hm := mx_tab hp (n := k) (m := k) hb
  have hl : (tab k k f).length = k := tab_length _ _ _
  obtain ⟨g, hg⟩ := h
  have hc := hp.fld.iv_congr (n := k) (hm.bd hp) hb fun i j hi hj => (en_tab hi hj : en (tab k k f) i j = f i j)
  rw [hg] at hc
  obtain ⟨g', hg'⟩ := Option.isSome_iff_exists.1 hc
  rw [invR_some hp (hm.sq h1 h2) (g := g') (by rw [hl]; exact hg')]
theorem pick_tab {n k : Nat} {f : Tb} {l : List Nat} (hb : hp.fld.Bd f) (hn : 1 ≤ n ∧ n ≤ 20) (hk : 1 ≤ k ∧ k ≤ 20) (hl : 1 ≤ l.length ∧ l.length ≤ 20) (h : ∀ x ∈ l, x < n) :
    pickM (some (wb, p)) (tab n k f) (casts l) = some (tab l.length k fun i j => f (l.getD i 0) j) := by
  have hm := mx_tab hp (n := n) (m := k) hb
  rw [pickM_t (hm.may hn.1 hn.2 hk.1 hk.2) (by rw [casts_length]; exact hl) (List.all_eq_true.2 fun z hz => by
    obtain ⟨x, hx, rfl⟩ := List.mem_map.1 hz
    have := h x hx
    rw [tab_length]
    exact decide_eq_true ⟨by omega, by omega⟩)]
  congr 1
  unfold casts
  rw [List.map_map]
  apply List.ext_getElem?
  intro i
  by_cases hi : i < l.length
  · rw [List.getElem?_map, List.getElem?_eq_getElem hi, tab_at hi]
    show some (rowM _ _) = _
    congr 1
    have hx := h l[i] (List.getElem_mem hi)
    rw [show ((fun (x : Nat) => (x : Int)) l[i]) = ((l[i] : Nat) : Int) from rfl, rowM_of (tab_at hx), getD_of hi]
  · rw [List.getElem?_eq_none (by simp; omega), List.getElem?_eq_none (by rw [tab_length]; omega)]
theorem join_tab {n m k : Nat} {f g : Tb} (hf : hp.fld.Bd f) (hg : hp.fld.Bd g) (hn : 1 ≤ n) (hm : 1 ≤ m) (hnm : n + m ≤ 20) (hk : 1 ≤ k ∧ k ≤ 20) :
    joinM (some (wb, p)) (tab n k f) (tab m k g) = some (tab (n + m) k fun i j => if i < n then f i j else g (i - n) j) := by
  rw [joinM_t ((mx_tab hp hf).may hn (by omega) hk.1 hk.2) ((mx_tab hp hg).may hm (by omega) hk.1 hk.2) (by rw [wid_tab (by omega), wid_tab (by omega)]) (by rw [tab_length, tab_length]; omega)]
  congr 1
  unfold tab
  rw [List.range_add, List.map_append, List.map_map]
  congr 1
  · exact List.map_congr_left fun i hi => by simp only [List.mem_range.1 hi, if_true]
  · refine List.map_congr_left fun i _ => ?_
    show _ = List.map _ _
    refine List.map_congr_left fun j _ => ?_
    show _ = ((if n + i < n then f (n + i) j else g (n + i - n) j : Nat) : Int)
    rw [if_neg (by omega), Nat.add_sub_cancel_left]
/-! ### with the identity ahead -/
theorem sysM_is {k m : Nat} (h1 : 1 ≤ k) (h2 : 1 ≤ m) (h3 : k + m ≤ 20) : sysM hp (k : Int) (m : Int) = some (tab (k + m) k (sysT hp k)) := by
  unfold sysM fitB
  rw [if_pos (by rw [decide_eq_true (by omega)]; rfl)]
  rfl
theorem isalM_is {o : Fq} (ho : o.isSome = true) {k m : Nat} (h1 : 1 ≤ k) (h2 : 1 ≤ m) (h3 : k + m ≤ 20) : isalM o (k : Int) (m : Int) = some (tab m k (isT o)) := by
  unfold isalM fitB
  rw [if_pos (by rw [ho, decide_eq_true (by omega)]; rfl)]
  rfl
theorem rawM_is {o : Fq} (ho : o.isSome = true) {k m : Nat} (h1 : 1 ≤ k) (h2 : k ≤ 20) (h3 : 1 ≤ m) (h4 : m ≤ 20) : rawM o (k : Int) (m : Int) = some (tab k m (pwT o)) := by
  unfold rawM rawB
  rw [if_pos (by rw [ho, decide_eq_true (by omega)]; rfl)]
  rfl
theorem sysT_bd (k : Nat) : hp.fld.Bd (sysT hp k) := hp.fld.mm_bd _ _ _
theorem pts_inv {k : Nat} {l : List Nat} (hl : l.length = k) (hn : l.Nodup) (h : ∀ x ∈ l, x < 256) : ∃ g, hp.fld.iv k (fun i j => hp.fld.pow (l.getD i 0) j) = some g := by
  have h16 := hp.size.1
  refine hp.fld.vander (x := fun i => l.getD i 0) (fun i => ?_) fun i j hi hj e => ?_
  · rw [hp.fld_w, List.getD_eq_getElem?_getD]
    cases hi : l[i]? with
    | none => simp; omega
    | some x => have := h x (List.mem_of_getElem? hi); simp; omega
  · rw [getD_of (show i < l.length by omega), getD_of (show j < l.length by omega)] at e
    refine Classical.byContradiction fun hne => ?_
    rcases Nat.lt_or_gt_of_ne hne with h' | h'
    · exact List.pairwise_iff_getElem.1 hn i j _ _ h' e
    · exact List.pairwise_iff_getElem.1 hn j i _ _ h' e.symm
theorem van_iv {k : Nat} {l : List Nat} (hk : k ≤ 20) (hl : l.length = k) (hn : l.Nodup) (h : ∀ x ∈ l, x < 256) : ∃ g, hp.fld.iv k (fun i j => sysT hp k (l.getD i 0) j) = some g := by
  obtain ⟨g, hg⟩ := pts_inv hp hl hn h
  have h1 := hp.fld.iv_some (fun i j => hp.fld.pow_lt _ _) hg
  have h2 := (vinv_ok hp (k := k) (by omega)).2.symm
  exact hp.fld.iv_of_Iv (h1.mul hp.fld h2)
theorem van_any {k m : Nat} {l : List Nat} (h1 : 1 ≤ k) (h2 : 1 ≤ m) (h3 : k + m ≤ 20) (hl : l.length = k) (hn : l.Nodup) (h : ∀ x ∈ l, x < k + m) :
    ∃ P, pickM (some (wb, p)) (tab (k + m) k (sysT hp k)) (casts l) = some P ∧ (invR hp P).1 = 0 := by
  refine ⟨_, pick_tab hp (sysT_bd hp k) ⟨by omega, h3⟩ ⟨h1, by omega⟩ ⟨by omega, by omega⟩ h, ?_⟩
  rw [hl]
  exact inv0 hp (fun i j => sysT_bd hp k _ _) h1 (by omega) (van_iv hp (by omega) hl hn fun x hx => by have := h x hx; omega)
theorem sys_id {k m : Nat} (h : k ≤ 20) : (tab (k + m) k (sysT hp k)).take k = idM k := by
  rw [tab_take (by omega), idM_tab]
  exact tab_congr fun i j hi hj => (vinv_ok hp (k := k) (by omega)).2.r i j hi hj
theorem sysT_one (i : Nat) : sysT hp 1 i 0 = 1 := by
  have h1 := (vinv_ok hp (k := 1) (by decide)).2
  have e := h1.r 0 0 (by decide) (by decide)
  have hb := h1.bd' 0 0
  have h : ∀ i : Nat, hp.fld.mm 1 (fun i j => hp.fld.pow i j) (vinv hp 1) i 0 = vinv hp 1 0 0 := fun i => by
    show (0 ^^^ hp.fld.mul 1 (vinv hp 1 0 0)) = _
    rw [Nat.zero_xor, hp.fld.one _ hb]
  rw [h] at e
  show hp.fld.mm 1 _ _ i 0 = 1
  rw [h, e]; rfl
/-! ### ISA-L's -/
include hp in
theorem isT_zero_r (i : Nat) : isT (some (wb, p)) i 0 = 1 := by rw [isT_pow hp]; rfl
include hp in
theorem isT_zero_l (j : Nat) : isT (some (wb, p)) 0 j = 1 := by rw [isT_pow hp]; exact hp.fld.one_pow j
include hp in
theorem isT_bd : hp.fld.Bd (isT (some (wb, p))) := fun i j => by rw [isT_pow hp]; exact hp.fld.pow_lt _ _
theorem two_inj {i j : Nat} (hi : i < 255) (hj : j < 255) (h : hp.fld.pow 2 i = hp.fld.pow 2 j) : i = j := by
  have ho := hp.order
  rw [← hp.pw_pow, ← hp.pw_pow] at h
  exact hp.pw_inj (by omega) (by omega) h
theorem join_id {k m : Nat} {f : Tb} (hf : hp.fld.Bd f) (h1 : 1 ≤ k) (h2 : 1 ≤ m) (h3 : k + m ≤ 20) : joinM (some (wb, p)) (idM k) (tab m k f) = some (tab (k + m) k (beh k f)) := by
  rw [idM_tab]; exact join_tab hp hp.fld.I1_bd hf h1 h2 h3 ⟨h1, by omega⟩
theorem isal_any {k m : Nat} {l : List Nat} (h1 : 1 ≤ k) (h2 : 1 ≤ m) (h3 : k + m ≤ 20) (hm3 : m ≤ 3) (hl : l.length = k) (hn : l.Nodup) (h : ∀ x ∈ l, x < k + m) :
    ∃ J P, joinM (some (wb, p)) (idM k) (tab m k (isT (some (wb, p)))) = some J ∧ pickM (some (wb, p)) J (casts l) = some P ∧ (invR hp P).1 = 0 := by
  have hb := hp.fld.beh_bd (k := k) (isT_bd hp)
  refine ⟨tab (k + m) k (beh k (isT (some (wb, p)))), _, ?_, pick_tab hp hb ⟨by omega, h3⟩ ⟨h1, by omega⟩ ⟨by omega, by omega⟩ h, ?_⟩
  · rw [idM_tab]; exact join_tab hp hp.fld.I1_bd (isT_bd hp) h1 h2 h3 ⟨h1, by omega⟩
  · rw [hl]
    refine inv0 hp (fun i j => hb _ _) h1 (by omega) (hp.fld.mds_of (m := m) (isT_bd hp) hl hn ?_)
    have hlen := par_mis hl hn
    have hR := parR_lt h
    obtain ⟨g, hg⟩ := hp.fld.three (R := parR k l) (J := misJ k l) (x := fun j => hp.fld.pow 2 j) (fun j => hp.fld.pow_lt _ _) (fun j _ => hp.fld.pow_ne hp.two_lt (by decide) j) (fun i hi j hj e => by
      have := misJ_lt i hi
      have := misJ_lt j hj
      exact two_inj hp (by omega) (by omega) e) (parR_nodup hn) (fun e he => by have := hR e he; omega) (misJ_nodup k l) hlen
    have e : mnr (isT (some (wb, p))) (parR k l) (misJ k l) = mnr (fun i j => hp.fld.pow (hp.fld.pow 2 j) i) (parR k l) (misJ k l) := by
      funext a b
      show isT _ _ _ = hp.fld.pow (hp.fld.pow 2 _) _
      rw [isT_pow hp, hp.fld.pow_mul, hp.fld.pow_mul, Nat.mul_comm]
    rw [e, hg]; rfl
end
theorem sysM_no {wb p : Nat} (hp : Prm wb p) {k m : Int} (h : fitB (some (wb, p)) k m = false) : sysM hp k m = none := if_neg (by rw [h]; decide)
theorem aw6_isal : isalM (some (8, 285)) 2 2 = some [[1, 1], [1, 2]] := by
  rw [show isalM (some (8, 285)) 2 2 = some (tab 2 2 (isT (some (8, 285)))) from isalM_is rfl (k := 2) (m := 2) (by decide) (by decide) (by decide)]
  show some [[((isT (some (8, 285)) 0 0 : Nat) : Int), ((isT (some (8, 285)) 0 1 : Nat) : Int)], [((isT (some (8, 285)) 1 0 : Nat) : Int), ((isT (some (8, 285)) 1 1 : Nat) : Int)]] = _
  rw [isT_zero_r prm_285, isT_zero_l prm_285, isT_zero_r prm_285, isT_pow prm_285, prm_285.fld.pow_one _ (prm_285.fld.pow_lt _ _), prm_285.fld.pow_one 2 (by rw [prm_285.fld_w]; decide)]
  rfl
theorem aw6_raw : rawM (some (8, 285)) 3 2 = some [[1, 0], [1, 1], [1, 2]] := by
  rw [show rawM (some (8, 285)) 3 2 = some (tab 3 2 (pwT (some (8, 285)))) from rawM_is rfl (k := 3) (m := 2) (by decide) (by decide) (by decide) (by decide)]
  show some [[((pwT (some (8, 285)) 0 0 : Nat) : Int), ((pwT (some (8, 285)) 0 1 : Nat) : Int)], [((pwT (some (8, 285)) 1 0 : Nat) : Int), ((pwT (some (8, 285)) 1 1 : Nat) : Int)], [((pwT (some (8, 285)) 2 0 : Nat) : Int), ((pwT (some (8, 285)) 2 1 : Nat) : Int)]] = _
  rw [pwT_pow prm_285 (by decide), pwT_pow prm_285 (by decide), pwT_pow prm_285 (by decide), pwT_pow prm_285 (by decide), pwT_pow prm_285 (by decide), pwT_pow prm_285 (by decide)]
  rw [prm_285.fld.pow_one 0 (by rw [prm_285.fld_w]; decide), prm_285.fld.pow_one 1 (by rw [prm_285.fld_w]; decide), prm_285.fld.pow_one 2 (by rw [prm_285.fld_w]; decide)]
  rfl
theorem Mat.three {D : FD} {B N cap : Nat} {w : World} {E2 : TypeId} {sa : Option Addr} {b : Option Nat} {u v x : Value} {r s t : List Int} (h : Own D B N w E2 (.slice sa 3 cap) b [u, v, x]) (hE : E2 ≠ D.T) (hr : Row D B w.heap.size w u (zints r)) (hs : Row D B w.heap.size w v (zints s)) (ht : Row D B w.heap.size w x (zints t)) : Mat D B w.heap.size w sa cap [r, s, t] :=
  ⟨[u, v, x], rfl, h.row hE, fun j v' r' hv hr' => by
    match j with
    | 0 => simp at hv hr'; subst hv; subst hr'; exact hr
    | 1 => simp at hv hr'; subst hv; subst hr'; exact hs
    | 2 => simp at hv hr'; subst hv; subst hr'; exact ht
    | j + 3 => simp at hv⟩
theorem aw6_len (a b c d : Int) : ([[a, b], [c, d]] : Mtx).length ≤ 1000 ∧ ∀ r ∈ ([[a, b], [c, d]] : Mtx), r.length ≤ 1000 := by
  refine ⟨by simp, fun r hr => ?_⟩
  simp only [List.mem_cons, List.mem_nil_iff, or_false] at hr
  rcases hr with rfl | rfl <;> simp
theorem aw6_len3 (a b c d e f : Int) : ([[a, b], [c, d], [e, f]] : Mtx).length ≤ 1000 ∧ ∀ r ∈ ([[a, b], [c, d], [e, f]] : Mtx), r.length ≤ 1000 := by
  refine ⟨by simp, fun r hr => ?_⟩
  simp only [List.mem_cons, List.mem_nil_iff, or_false] at hr
  rcases hr with rfl | rfl | rfl <;> simp
end Go.Gam

/- What the statements of layer 6 call first. -/
set_option linter.unusedVariables false
set_option linter.unusedSimpArgs false
namespace Go.Proofs.YtcnlooajjnghaaaGreat
open Go Go.Gam


namespace FxFAw06
theorem en14 : Ent Tryz.prog 14 := ent Tryz.func14 (by kernel_rfl) (by kernel_rfl)
theorem en17 : Ent Tryz.prog 17 := ent Tryz.func17 (by kernel_rfl) (by kernel_rfl)
theorem en18 : Ent Tryz.prog 18 := ent Tryz.func18 (by kernel_rfl) (by kernel_rfl)
theorem en22 : Ent Tryz.prog 22 := ent Tryz.func22 (by kernel_rfl) (by kernel_rfl)
theorem en25 : Ent Tryz.prog 25 := ent Tryz.func25 (by kernel_rfl) (by kernel_rfl)
theorem sl22 : Sl Tryz.prog 22 23 (.slice none 0 0) 24 := sl_of Tryz.underlying22 rfl (by kernel_rfl)
theorem sl23 : Sl Tryz.prog 23 3 (.int .i64 0) 8 := sl_of Tryz.underlying23 rfl (by kernel_rfl)
theorem sl30 : Sl Tryz.prog 30 23 (.slice none 0 0) 24 := sl_of Tryz.underlying30 rfl (by kernel_rfl)
end FxFAw06
open FxFAw06

theorem Same4_t (B M : Nat) (pma : Option Addr) (cma : Nat) (ma : Mtx) (pmb : Option Addr) (cmb : Nat) (mb : Mtx) (w : World) (hI : Inv FDx B w) (hAma : Mat FDx B M w pma cma ma) (hAmb : Mat FDx B M w pmb cmb mb) (hlma : ma.length ≤ 1000) (hbma : ∀ r ∈ ma, r.length ≤ 1000) (e : ma = mb) :
    Ret Tryz.prog 14 [.slice pma ma.length cma, .slice pmb mb.length cmb] w fun v w' => v = .bool true ∧ St FDx B w w' :=
  (Same04_ok B M pma cma ma pmb cmb mb w hI hAma hAmb hlma hbma).mono fun v w' h => by rw [decide_eq_true e] at h; exact h

theorem Same4_n (B M : Nat) (pma : Option Addr) (cma na : Nat) (ma : Mtx) (pmb : Option Addr) (cmb nb : Nat) (mb : Mtx) (w : World) (hI : Inv FDx B w) (hAma : Mat FDx B M w pma cma ma) (hAmb : Mat FDx B M w pmb cmb mb) (hl : ma.length ≤ 1000 ∧ ∀ r ∈ ma, r.length ≤ 1000) (e : ma = mb) (hna : ma.length = na) (hnb : mb.length = nb) :
    Ret Tryz.prog 14 [.slice pma na cma, .slice pmb nb cmb] w fun v w' => v = .bool true ∧ St FDx B w w' := by
  subst hna; subst hnb; exact Same4_t B M pma cma ma pmb cmb mb w hI hAma hAmb hl.1 hl.2 e

set_option maxRecDepth 100000 in
set_option maxHeartbeats 1000000 in
theorem field6_ok (B : Nat) (lg : Bool) (w : World) (hI : Inv FDx B w) : Ret Tryz.prog 17 [.bool lg] w fun v w' => ∃ fv, v = .tuple #[fv, .int .i64 ((fq lg).1 : Int), .int .u32 ((fq lg).2 : Int)] ∧ Fo FDx B w' fv (some (fq lg)) ∧ St FDx B w w' := by
  refine enter3 8 [(0, .bool lg)] 2 3 4 Tryz.func17 rfl rfl rfl rfl rfl ?_; intro a hF
  have hS := St.refl hI
  refine W_sr rfl (fun K hK => ?_)
  refine sv hF (v_assign rfl) rfl ?_; clear hF a; intro a hF
  refine sv hF (v_assign rfl) rfl ?_; clear hF a; intro a hF
  refine sv hF (v_assign rfl) rfl ?_; clear hF a; intro a hF
  refine WL_nil (hK _ _ ?_)
  clear hK K
  refine W_seq ?_
  refine W_sr rfl (fun K hK => ?_)
  refine sv hF (v_move rfl) rfl ?_; clear hF a; intro a hF
  refine WL_nil (hK _ _ ?_)
  clear hK K
  replace hF := hF.sub _ (c_ 5 rfl (c_ 4 rfl (c_ 3 rfl (c_ 2 rfl (n_)))))
  refine W_if hF rfl (fun hc1 => ?_) (fun hc1 => ?_)
  · skip
    try simp only [decide_eq_true_eq, decide_eq_false_iff_not, Bool.not_eq_true', Bool.not_eq_false', Bool.not_true, Bool.not_false] at hc1
    obtain rfl : lg = true := by assumption
    refine W_sr rfl (fun K hK => ?_)
    refine sc hF rfl rfl rfl en25 rfl (New_ok B 16 69643 _ hS.inv (by decide) (by decide)) ?_; clear hF a; intro v w' a hv hF
    obtain ⟨hf, hS'⟩ := hv
    obtain ⟨fv, rfl⟩ : ∃ x, x = v := ⟨_, rfl⟩
    rw [show newF 16 69643 = some (16, 69643) from newF_p prm_69643] at hf
    replace hS := hS.trans hS'
    clear hS'
    refine sv hF (v_assign rfl) rfl ?_; clear hF a; intro a hF
    refine sv hF (v_assign rfl) rfl ?_; clear hF a; intro a hF
    refine sv hF (v_assign rfl) rfl ?_; clear hF a; intro a hF
    refine WL_nil (hK _ _ ?_)
    clear hK K
    replace hF := hF.sub _ (c_ 4 rfl (c_ 3 rfl (c_ 2 rfl (n_))))
    refine W_ret ?_
    refine ⟨_, _, _, _, hF, rfl, rfl, rfl, ?_⟩
    exact ⟨fv, rfl, hf, hS⟩
  · skip
    try simp only [decide_eq_true_eq, decide_eq_false_iff_not, Bool.not_eq_true', Bool.not_eq_false', Bool.not_true, Bool.not_false] at hc1
    obtain rfl : lg = false := by assumption
    refine W_skip ?_
    refine W_sr rfl (fun K hK => ?_)
    refine sc hF rfl rfl rfl en25 rfl (New_ok B 8 285 _ hS.inv (by decide) (by decide)) ?_; clear hF a; intro v w' a hv hF
    obtain ⟨hf, hS'⟩ := hv
    obtain ⟨fv, rfl⟩ : ∃ x, x = v := ⟨_, rfl⟩
    rw [show newF 8 285 = some (8, 285) from newF_p prm_285] at hf
    replace hS := hS.trans hS'
    clear hS'
    refine sv hF (v_assign rfl) rfl ?_; clear hF a; intro a hF
    refine sv hF (v_assign rfl) rfl ?_; clear hF a; intro a hF
    refine sv hF (v_assign rfl) rfl ?_; clear hF a; intro a hF
    refine WL_nil (hK _ _ ?_)
    clear hK K
    replace hF := hF.sub _ (c_ 4 rfl (c_ 3 rfl (c_ 2 rfl (n_))))
    refine W_ret ?_
    refine ⟨_, _, _, _, hF, rfl, rfl, rfl, ?_⟩
    exact ⟨fv, rfl, hf, hS⟩

set_option maxRecDepth 100000 in
set_option maxHeartbeats 1000000 in
theorem aw06_ok (B : Nat) (w : World) (hI : Inv FDx B w) : Ret Tryz.prog 16 [] w fun v w' => v = .bool true ∧ St FDx B w w' := by
  refine enter 44 [] 0 Tryz.func16 rfl rfl rfl rfl rfl ?_; intro a hF
  have hS := St.refl hI
  refine W_sr rfl (fun K hK => ?_)
  refine sv hF (v_assign rfl) rfl ?_; clear hF a; intro a hF
  refine WL_nil (hK _ _ ?_)
  clear hK K
  refine W_sr rfl (fun K hK => ?_)
  refine sc hF rfl rfl rfl en17 rfl (field6_ok B false _ hS.inv) ?_; clear hF a; intro v w' a hv hF
  obtain ⟨fv, rfl, hf, hS'⟩ := hv
  rw [show fq false = (8, 285) from rfl] at hf
  replace hS := hS.trans hS'
  clear hS'
  refine sv hF (v_move rfl) rfl ?_; clear hF a; intro a hF
  refine sv hF (v_ext rfl rfl) rfl ?_; clear hF a; intro a hF
  refine sv hF (v_ext rfl rfl) rfl ?_; clear hF a; intro a hF
  refine sv hF (v_ext rfl rfl) rfl ?_; clear hF a; intro a hF
  refine sv hF (v_assign rfl) rfl ?_; clear hF a; intro a hF
  refine sv hF (v_assign rfl) rfl ?_; clear hF a; intro a hF
  refine sv hF (v_assign rfl) rfl ?_; clear hF a; intro a hF
  refine WL_nil (hK _ _ ?_)
  clear hK K
  replace hF := hF.sub _ (c_ 1 rfl (c_ 0 rfl (n_)))
  refine W_sr rfl (fun K hK => ?_)
  refine sv hF (v_move rfl) rfl ?_; clear hF a; intro a hF
  refine sc hF rfl rfl rfl en22 rfl (Isal_ok B (some (8, 285)) fv (2 : Int) (2 : Int) _ hS.inv hf) ?_; clear hF a; intro v w' a hv hF
  obtain ⟨obX, uX, rfl, hoX, hS'⟩ := hv
  rw [aw6_isal] at hoX hF
  try simp only [Option.getD_some, Option.getD_none] at hoX
  obtain ⟨sX, cX, rfl, hX⟩ := hoX.mat (by decide) (Nat.zero_le _)
  clear hoX
  replace hf := hf.st hS'
  replace hS := hS.trans hS'
  clear hS'
  refine sv hF (v_move rfl) rfl ?_; clear hF a; intro a hF
  refine sv hF (v_ext rfl rfl) rfl ?_; clear hF a; intro a hF
  refine sv hF (v_ext rfl rfl) rfl ?_; clear hF a; intro a hF
  refine sv hF (v_assign rfl) rfl ?_; clear hF a; intro a hF
  refine sv hF (v_assign rfl) rfl ?_; clear hF a; intro a hF
  refine WL_nil (hK _ _ ?_)
  clear hK K
  replace hF := hF.sub _ (c_ 5 rfl (c_ 4 rfl (c_ 1 rfl (c_ 0 rfl (n_)))))
  refine W_sr rfl (fun K hK => ?_)
  refine sv hF (v_move rfl) rfl ?_; clear hF a; intro a hF
  refine sc hF rfl rfl rfl en18 rfl (Raw_ok B (some (8, 285)) fv (3 : Int) (2 : Int) _ hS.inv hf) ?_; clear hF a; intro v w' a hv hF
  obtain ⟨obY, uY, rfl, hoY, hS'⟩ := hv
  rw [aw6_raw] at hoY hF
  try simp only [Option.getD_some, Option.getD_none] at hoY
  obtain ⟨sY, cY, rfl, hY⟩ := hoY.mat (by decide) (Nat.zero_le _)
  clear hoY
  replace hf := hf.st hS'
  replace hX := (hX.st hS').mono hS'.ext.size
  replace hS := hS.trans hS'
  clear hS'
  refine sv hF (v_move rfl) rfl ?_; clear hF a; intro a hF
  refine sv hF (v_ext rfl rfl) rfl ?_; clear hF a; intro a hF
  refine sv hF (v_ext rfl rfl) rfl ?_; clear hF a; intro a hF
  refine sv hF (v_assign rfl) rfl ?_; clear hF a; intro a hF
  refine sv hF (v_assign rfl) rfl ?_; clear hF a; intro a hF
  refine WL_nil (hK _ _ ?_)
  clear hK K
  replace hF := hF.sub _ (c_ 7 rfl (c_ 6 rfl (c_ 5 rfl (c_ 4 rfl (c_ 0 rfl (n_))))))
  refine W_sr rfl (fun K hK => ?_)
  refine sv hF (v_move rfl) rfl ?_; clear hF a; intro a hF
  refine sv hF ((v_eql rfl rfl).as (congrArg Value.bool (decide_eq_true (rfl)))) rfl ?_; clear hF a; intro a hF
  refine sv hF (v_move rfl) rfl ?_; clear hF a; intro a hF
  refine svg hF rfl ?_
  refine sv hF (v_move rfl) rfl ?_; clear hF a; intro a hF
  refine svg hF rfl ?_
  refine sv hF ((v_eql rfl rfl).as (congrArg Value.bool (decide_eq_true (rfl)))) rfl ?_; clear hF a; intro a hF
  refine sv hF (v_pickT rfl rfl) rfl ?_; clear hF a; intro a hF
  refine sv hF (v_move rfl) rfl ?_; clear hF a; intro a hF
  refine svg hF rfl ?_
  refine sv hF (v_move rfl) rfl ?_; clear hF a; intro a hF
  refine svg hF rfl ?_
  refine s_bs (D := FDx) (B := B) hF sl23 rfl rfl (by decide) (by simp [Value.cells]) (by decide) hS.inv rfl ?_; clear hF a; intro w' a hm hI' h1 hF
  replace hf := hf.mb hm
  replace hX := (hX.mb hm (fun _ h => by cases h)).mono hm.size
  replace hY := (hY.mb hm (fun _ h => by cases h)).mono hm.size
  replace hS := hS.mb0 hm
  clear hm hI'
  refine svg hF rfl ?_
  refine s_bs (D := FDx) (B := B) hF sl23 rfl rfl (by decide) (by simp [Value.cells]) (by decide) hS.inv rfl ?_; clear hF a; intro w' a hm hI' h2 hF
  replace hf := hf.mb hm
  replace hX := (hX.mb hm (fun _ h => by cases h)).mono hm.size
  replace hY := (hY.mb hm (fun _ h => by cases h)).mono hm.size
  replace h1 := h1.mb hm (fun _ _ => by simp)
  replace hS := hS.mb0 hm
  clear hm hI'
  refine svg hF rfl ?_
  refine s_bs (D := FDx) (B := B) hF sl22 rfl rfl (by decide) (by simp [Value.cells]) (by decide) hS.inv rfl ?_; clear hF a; intro w' a hm hI' h3 hF
  replace hf := hf.mb hm
  replace hX := (hX.mb hm (fun _ h => by cases h)).mono hm.size
  replace hY := (hY.mb hm (fun _ h => by cases h)).mono hm.size
  replace h1 := h1.mb hm (fun _ _ => by simp)
  replace h2 := h2.mb hm (fun _ _ => by simp)
  replace hS := hS.mb0 hm
  clear hm hI'
  refine svg hF rfl ?_
  refine sc hF rfl rfl rfl en14 rfl (Same4_t B _ _ _ [[1, 1], [1, 2]] _ _ [[1, 1], [1, 2]] _ hS.inv hX (Mat.two h3 (by decide) ((h1.cast (ys := zints [1, 1]) rfl).row (by decide)) ((h2.cast (ys := zints [1, 2]) rfl).row (by decide))) (aw6_len _ _ _ _).1 (aw6_len _ _ _ _).2 rfl) ?_; clear hF a; intro v w' a hv hF
  obtain ⟨rfl, hS'⟩ := hv
  replace hY := (hY.st hS').mono hS'.ext.size
  replace hS := hS.trans hS'
  clear hS'
  refine sv hF (v_pickT rfl rfl) rfl ?_; clear hF a; intro a hF
  refine sv hF (v_move rfl) rfl ?_; clear hF a; intro a hF
  refine svg hF rfl ?_
  refine sv hF (v_move rfl) rfl ?_; clear hF a; intro a hF
  refine svg hF rfl ?_
  refine s_bs (D := FDx) (B := B) hF sl23 rfl rfl (by decide) (by simp [Value.cells]) (by decide) hS.inv rfl ?_; clear hF a; intro w' a hm hI' h1 hF
  replace hY := (hY.mb hm (fun _ h => by cases h)).mono hm.size
  replace hS := hS.mb0 hm
  clear hm hI'
  refine svg hF rfl ?_
  refine s_bs (D := FDx) (B := B) hF sl23 rfl rfl (by decide) (by simp [Value.cells]) (by decide) hS.inv rfl ?_; clear hF a; intro w' a hm hI' h2 hF
  replace hY := (hY.mb hm (fun _ h => by cases h)).mono hm.size
  replace h1 := h1.mb hm (fun _ _ => by simp)
  replace hS := hS.mb0 hm
  clear hm hI'
  refine svg hF rfl ?_
  refine s_bs (D := FDx) (B := B) hF sl23 rfl rfl (by decide) (by simp [Value.cells]) (by decide) hS.inv rfl ?_; clear hF a; intro w' a hm hI' h3 hF
  replace hY := (hY.mb hm (fun _ h => by cases h)).mono hm.size
  replace h1 := h1.mb hm (fun _ _ => by simp)
  replace h2 := h2.mb hm (fun _ _ => by simp)
  replace hS := hS.mb0 hm
  clear hm hI'
  refine svg hF rfl ?_
  refine s_bs (D := FDx) (B := B) hF sl22 rfl rfl (by decide) (by simp [Value.cells]) (by decide) hS.inv rfl ?_; clear hF a; intro w' a hm hI' h4 hF
  replace hY := (hY.mb hm (fun _ h => by cases h)).mono hm.size
  replace h1 := h1.mb hm (fun _ _ => by simp)
  replace h2 := h2.mb hm (fun _ _ => by simp)
  replace h3 := h3.mb hm (fun _ _ => by simp)
  replace hS := hS.mb0 hm
  clear hm hI'
  refine svg hF rfl ?_
  refine sc hF rfl rfl rfl en14 rfl (Same4_t B _ _ _ [[1, 0], [1, 1], [1, 2]] _ _ [[1, 0], [1, 1], [1, 2]] _ hS.inv hY (Mat.three h4 (by decide) ((h1.cast (ys := zints [1, 0]) rfl).row (by decide)) ((h2.cast (ys := zints [1, 1]) rfl).row (by decide)) ((h3.cast (ys := zints [1, 2]) rfl).row (by decide))) (aw6_len3 _ _ _ _ _ _).1 (aw6_len3 _ _ _ _ _ _).2 rfl) ?_; clear hF a; intro v w' a hv hF
  obtain ⟨rfl, hS'⟩ := hv
  replace hS := hS.trans hS'
  clear hS'
  refine sv hF (v_pickT rfl rfl) rfl ?_; clear hF a; intro a hF
  refine sv hF (v_assign rfl) rfl ?_; clear hF a; intro a hF
  refine WL_nil (hK _ _ ?_)
  clear hK K
  replace hF := hF.sub _ (c_ 0 rfl (n_))
  refine W_ret ?_
  refine ⟨_, _, hF, rfl, ?_⟩
  exact ⟨rfl, hS⟩

end Go.Proofs.YtcnlooajjnghaaaGreat

/- Rows that are gathered, one of them changed for another; what gambrelref05 reduces. No program in sight. -/
set_option linter.unusedVariables false
set_option linter.unusedSimpArgs false
set_option linter.unusedSectionVars false
namespace Go.Gam
open Px

section
variable {P : Program} {ops : Array Oper} {K' : Kont} {rest : List Oper} {n : NN} {F : Fs} {T : TypeId} {pp : String} {af : Array Edge} {v : Value} {d : Nat} {a : Act} {w : World} {x y : Operand} {D : FD} {B : Nat}
/-- A row of rows that are gathered is changed for another. -/
theorem s_setM {t e N M0 K g o : Nat} {u : Value} {a0 : Mtx} {r : List Int} (hF : Fr n F a) (ht : One P t) (hx : ev F x = some (.pointer (some ⟨g, o, none⟩))) (ho : o < a0.length) (hy : ev F y = some u) (hu : u.oneCell' = true)
    (hM : MOwn D B N M0 K w e v (some g) a0) (hr : RowO D B M0 K w u r) (he : e ≠ D.T) (hE : D.E ≠ e) (hI : Inv D B w)
    (k : ∀ w', Mb D B (some g) w w' → Inv D B w' → MOwn D B N M0 K w' e v (some g) (a0.set o r) → WL P ops K' rest a w') :
    WL P ops K' (⟨none, .store t x y, T, pp, af, none⟩ :: rest) a w := by
  obtain ⟨vals, h2, h3, h4⟩ := hM.ex
  refine s_set (D := D) (B := B) hF ht hx (by omega) hy hu h3 he hI ?_
  intro w' hm hI' ho'
  refine k w' hm hI' ⟨⟨vals.set o u, by simp [h2], ho', fun j z s hz hs => ?_⟩, hM.mn⟩
  by_cases hj : o = j
  · subst hj
    rw [List.getElem?_set_self (by omega)] at hz
    rw [List.getElem?_set_self ho] at hs
    obtain rfl := Option.some.inj hz
    obtain rfl := Option.some.inj hs
    exact hr.mb2 hm h3 hE hM.mn
  · rw [List.getElem?_set_ne hj] at hz hs
    exact (h4 j z s hz hs).mb2 hm h3 hE hM.mn
end
/-- A row of rows that are gathered, as a row that may be gathered again. -/
theorem MOwn.rowO {D : FD} {B N M0 K g cap i : Nat} {w : World} {E2 : TypeId} {b : Option Nat} {a : Mtx} {r : List Int} (h : MOwn D B N M0 K w E2 (.slice (some ⟨g, 0, none⟩) a.length cap) b a) (hE : E2 ≠ D.T) (hi : a[i]? = some r) :
    ∃ pr cr, KC D B w ⟨g, 0 + i, none⟩ (.slice pr r.length cr) ∧ RowO D B M0 K w (.slice pr r.length cr) r := by
  obtain ⟨vals, h1, h2, h3⟩ := h.ex
  have hl := (List.getElem?_eq_some_iff.1 hi).1
  obtain ⟨u, hu⟩ : ∃ u, vals[i]? = some u := ⟨_, List.getElem?_eq_getElem (by omega)⟩
  have hr := h3 i u r hu hi
  have hs : ∃ pr cr, u = .slice pr r.length cr := by
    rcases hr with ⟨b, ho, _⟩ | hr
    · obtain ⟨p, c, e⟩ := ho.shape; rw [zints_length] at e; exact ⟨p, c, e⟩
    · obtain ⟨p, c, e⟩ := hr.sl; rw [zints_length] at e; exact ⟨p, c, e⟩
  obtain ⟨pr, cr, rfl⟩ := hs
  exact ⟨pr, cr, Own.kc h2 hE hu, hr⟩
theorem tab_set {n m i : Nat} {f g : Tb} {r : List Int} (hr : r = trow m g i) (h : ∀ a, a < n → a ≠ i → ∀ j, j < m → g a j = f a j) : (tab n m f).set i r = tab n m g := by
  subst hr
  apply List.ext_getElem?
  intro l
  by_cases hl : l < n
  · by_cases e : i = l
    · subst e; rw [List.getElem?_set_self (by rw [tab_length]; exact hl), tab_at hl]; rfl
    · rw [List.getElem?_set_ne e, tab_at hl, tab_at hl]
      exact congrArg some (trow_congr (m := m) (f := f) (g := g) (i := l) (k := l) fun j hj => (h l hl (Ne.symm e) j hj).symm)
  · rw [List.getElem?_eq_none (by rw [List.length_set, tab_length]; omega), List.getElem?_eq_none (by rw [tab_length]; omega)]
def pivI (f : Tb) (n c t : Nat) : Int := match Fld.piv f n c t (n - t) with | none => -1 | some k => (k : Int)
namespace Fld
variable (F : Fld)
/-- Row k changed for row t, then row t for row k times s. -/
theorem swap_scl {n m t k s : Nat} {f : Tb} (ht : t < n) (hk : k < n) :
    ((tab n m f).set k (trow m f t)).set t (trow m (fun _ j => F.mul (f k j) s) 0) = tab n m (F.sclF t s m (fun i j => f (sw t k i) j)) := by
  have h1 : (tab n m f).set k (trow m f t) = tab n m (fun i j => if i = k then f t j else f i j) :=
    tab_set (trow_congr fun j _ => by rw [if_pos rfl]) fun a _ hne j _ => by rw [if_neg hne]
  rw [h1]
  refine tab_set (trow_congr fun j hj => ?_) fun a _ hne j _ => ?_
  · unfold sclF; rw [if_pos ⟨rfl, hj⟩]; show _ = F.mul (f (sw t k t) j) s; unfold sw; rw [if_pos rfl]
  · unfold sclF
    rw [if_neg (by omega)]
    show f (sw t k a) j = _
    unfold sw
    rw [if_neg hne]
    by_cases e : a = k
    · subst e; rw [if_pos rfl, if_pos rfl]
    · rw [if_neg e, if_neg e]
theorem cleF_zero {t c i : Nat} {f : Tb} (h : f i c = 0) : ∀ a j, F.cleF t c i f a j = F.cleF t c (i + 1) f a j := by
  intro a j
  unfold cleF
  by_cases h1 : a < i ∧ a ≠ t
  · rw [if_pos h1, if_pos ⟨by omega, h1.2⟩]
  · rw [if_neg h1]
    by_cases h2 : a < i + 1 ∧ a ≠ t
    · rw [if_pos h2]
      obtain rfl : a = i := by omega
      rw [h, F.zero_mul, Nat.xor_zero]
    · rw [if_neg h2]
theorem cleF_set {n m t c i : Nat} {f : Tb} (hi : i ≠ t) : (tab n m (F.cleF t c i f)).set i (trow m (fun a j => f i j ^^^ F.mul (f i c) (f t j)) 0) = tab n m (F.cleF t c (i + 1) f) := by
  refine tab_set (trow_congr fun j hj => ?_) fun a _ hne j _ => ?_
  · unfold cleF; rw [if_pos ⟨by omega, hi⟩]
  · unfold cleF
    by_cases h1 : a < i ∧ a ≠ t
    · rw [if_pos h1, if_pos ⟨by omega, h1.2⟩]
    · rw [if_neg h1, if_neg (by omega)]
end Fld
/-- A row times a number; two rows together. -/
theorem scaled_row {wb p m k s : Nat} (hp : Prm wb p) {f : Tb} (hf : hp.fld.Bd f) (hs : s < 2 ^ wb) : (trow m f k).map (fun x => gmul (some (wb, p)) x (s : Int)) = trow m (fun _ j => hp.fld.mul (f k j) s) 0 := by
  unfold trow
  rw [List.map_map]
  refine List.map_congr_left fun j _ => ?_
  show gmul _ ((f k j : Nat) : Int) _ = _
  rw [gmul_num hp (by have := hf k j; rwa [hp.fld_w] at this) hs]
def xorZ (a b : List Int) : List Int := List.zipWith (fun x y => ((x.toNat ^^^ y.toNat : Nat) : Int)) a b
theorem xorZ_length {a b : List Int} (h : a.length = b.length) : (xorZ a b).length = a.length := by simp [xorZ, h]
theorem xorZ_snoc {a b : List Int} {i x y : Nat} (hx : a[i]? = some (x : Int)) (hy : b[i]? = some (y : Int)) : xorZ (a.take (i + 1)) (b.take (i + 1)) = xorZ (a.take i) (b.take i) ++ [((x ^^^ y : Nat) : Int)] := by
  have h1 := (List.getElem?_eq_some_iff.1 hx).1
  have h2 := (List.getElem?_eq_some_iff.1 hy).1
  unfold xorZ
  rw [take_snoc hx, take_snoc hy, List.zipWith_append (by simp; omega)]
  simp
theorem xorZ_rows {m i k : Nat} {f g : Tb} : xorZ (trow m f i) (trow m g k) = trow m (fun _ j => f i j ^^^ g k j) 0 := by
  unfold xorZ trow
  rw [List.zipWith_map, List.zipWith_self]
  simp
theorem MOwn.ptr {D : FD} {B N M0 K : Nat} {w : World} {E2 : TypeId} {v : Value} {b : Option Nat} {a : Mtx} (h : MOwn D B N M0 K w E2 v b a) (h0 : 0 < a.length) : ∃ g cap, v = .slice (some ⟨g, 0, none⟩) a.length cap ∧ b = some g := by
  obtain ⟨vals, h1, h2, h3⟩ := h.ex
  obtain ⟨g, cap, e1, e2⟩ := h2.ptr (by omega)
  exact ⟨g, cap, by rw [← h1]; exact e1, e2⟩
theorem MOwn.matS {D : FD} {B N M0 K n cap : Nat} {w : World} {E2 : TypeId} {sa : Option Addr} {b : Option Nat} {a : Mtx} (h : MOwn D B N M0 K w E2 (.slice sa n cap) b a) (hE : E2 ≠ D.T) (hN : M0 ≤ w.heap.size) : Mat D B w.heap.size w sa cap a := by
  obtain ⟨sa', cap', e, hm⟩ := h.mat hE hN
  obtain ⟨rfl, -, rfl⟩ := Value.slice.inj e
  exact hm
theorem pivI_neg {f : Tb} {n c t : Nat} (h : pivI f n c t < 0) : Fld.piv f n c t (n - t) = none := by
  unfold pivI at h
  cases hk : Fld.piv f n c t (n - t) with
  | none => rfl
  | some k => rw [hk] at h; dsimp only at h; omega
theorem pivI_nn {f : Tb} {n c t : Nat} (h : ¬ pivI f n c t < 0) : ∃ k, Fld.piv f n c t (n - t) = some k ∧ pivI f n c t = (k : Int) := by
  unfold pivI at *
  cases hk : Fld.piv f n c t (n - t) with
  | none => rw [hk] at h; exact absurd (by decide) h
  | some k => exact ⟨k, rfl, rfl⟩
theorem cle_row {wb p m t c k s i : Nat} (hp : Prm wb p) {f : Tb} (h : i ≠ t) (hc : c < m) (hsw : Fld.sw t k t = k) {g : Tb} (hg : g = hp.fld.sclF t s m (fun i j => f (Fld.sw t k i) j)) :
    trow m (fun _ j => hp.fld.cleF t c i g i j ^^^ hp.fld.mul (hp.fld.mul (f k j) s) (hp.fld.cleF t c i g i c)) 0 = trow m (fun _ j => g i j ^^^ hp.fld.mul (g i c) (g t j)) 0 := by
  refine trow_congr fun j hj => ?_
  have e1 : ∀ j, hp.fld.cleF t c i g i j = g i j := fun j => by unfold Fld.cleF; rw [if_neg (by omega)]
  have e2 : g t j = hp.fld.mul (f k j) s := by subst hg; unfold Fld.sclF; rw [if_pos ⟨rfl, hj⟩]; show hp.fld.mul (f (Fld.sw t k t) j) s = _; rw [hsw]
  rw [e1, e1, e2, hp.fld.comm (hp.fld.mul (f k j) s)]
theorem solR_len {wb p : Nat} (hp : Prm wb p) {a : Mtx} {v : List Int} : (solR hp a v).2.length ≤ 20 := by
  unfold solR
  split
  · rename_i h
    obtain ⟨hmx, h1, h2, -⟩ := sqM_Mx h.1
    cases hi : hp.fld.iv a.length (en a) with
    | none => simp
    | some g =>
      have hI := hp.fld.iv_some (hmx.bd hp) hi
      show ((applyM _ _ v).getD []).length ≤ 20
      rw [apply_fld hp hI.bd' h.2.2 h.2.1 ⟨h1, h2⟩ ⟨h1, h2⟩]
      simpa using h2
  · simp
end Go.Gam
