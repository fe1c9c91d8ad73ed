/- The walk of package invert: reduce. -/
import Derived.Test.YtcnlooajjnghaaaGreatFInvB
set_option linter.unusedVariables false
set_option linter.unusedSimpArgs false
namespace Go.Proofs.YtcnlooajjnghaaaGreat
open Go Go.Gam


namespace FxFInvC
theorem en55 : Ent Tryz.prog 55 := ent Tryz.func55 (by kernel_rfl) (by kernel_rfl)
theorem en56 : Ent Tryz.prog 56 := ent Tryz.func56 (by kernel_rfl) (by kernel_rfl)
theorem en57 : Ent Tryz.prog 57 := ent Tryz.func57 (by kernel_rfl) (by kernel_rfl)
theorem en59 : Ent Tryz.prog 59 := ent Tryz.func59 (by kernel_rfl) (by kernel_rfl)
theorem hmix : Tryz.prog.follows .mixedOrders = true := by kernel_rfl
theorem on23 : Gam.One Tryz.prog 23 := by unfold Gam.One; kernel_rfl
theorem on3 : Gam.One Tryz.prog 3 := by unfold Gam.One; kernel_rfl
theorem sc23 : Scalar Tryz.prog 23 := ⟨_, Tryz.underlying23, by simp, by simp⟩
theorem sc26 : Scalar Tryz.prog 26 := ⟨_, Tryz.underlying26, by simp, by simp⟩
theorem sc3 : Scalar Tryz.prog 3 := ⟨_, Tryz.underlying3, by simp, by simp⟩
theorem sc30 : Scalar Tryz.prog 30 := ⟨_, Tryz.underlying30, by simp, by simp⟩
theorem sl23 : Sl Tryz.prog 23 3 (.int .i64 0) 8 := sl_of Tryz.underlying23 rfl (by kernel_rfl)
theorem sl30 : Sl Tryz.prog 30 23 (.slice none 0 0) 24 := sl_of Tryz.underlying30 rfl (by kernel_rfl)
theorem zv3 : Zv Tryz.prog 3 (.int .i64 0) := zv_of rfl (by kernel_rfl)
end FxFInvC
open FxFInvC

set_option maxRecDepth 100000 in
set_option maxHeartbeats 1000000 in
theorem reduce_ok (B N wb p : Nat) (hp : Prm wb p) (fv : Value) (g cap n m cols : Nat) (bs rc : Nat → Nat) (f : Tb) (w : World) (hI : Inv FDx B w) (hf : Fo FDx B w fv (some (wb, p))) (hO : Gam.Own FDx B N w 23 (.slice (some ⟨g, 0, none⟩) n cap) (some g) (vls n m bs rc)) (hW : Wr FDx B N w.heap.size w n m bs rc f) (hN : N ≤ w.heap.size) (hfb : hp.fld.Bd f) (hcm : cols ≤ m) (hnm : n ≤ 40 ∧ m ≤ 40) : Ret Tryz.prog 29 [fv, .slice (some ⟨g, 0, none⟩) n cap, .int .i64 (cols : Int)] w fun v w' => v = .int .i64 ((hp.fld.rk n f cols : Nat) : Int) ∧ (∃ bs rc, Gam.Own FDx B N w' 23 (.slice (some ⟨g, 0, none⟩) n cap) (some g) (vls n m bs rc) ∧ Wr FDx B N w.heap.size w' n m bs rc (hp.fld.red n f cols).1) ∧ StZ FDx B (fun k => N ≤ k) w w' := by
  refine enter 102 [(0, fv), (1, .slice (some ⟨g, 0, none⟩) n cap), (2, .int .i64 (cols : Int))] 6 Tryz.func29 rfl rfl rfl rfl rfl ?_; intro a hF
  have hS := StZ.refl (Z := fun k => N ≤ k) hI
  have hfw := hp.fld_w
  have h16 : 2 ^ wb ≤ 65536 := by rcases hp.w with h | h <;> rw [h] <;> decide
  obtain ⟨KM, hKM⟩ : ∃ k, k = w.heap.size := ⟨_, rfl⟩
  rw [← hKM] at hW
  have hgK : g < KM := by rw [hKM]; exact (hO.lt _ rfl).2
  refine W_sr rfl (fun K hK => ?_)
  obtain ⟨pf, hpf⟩ : ∃ pf, pf = w.heap.size := ⟨_, rfl⟩
  have hKpf : KM ≤ pf := by omega
  refine s_boxN (D := FDx) (B := B) hF rfl (hf.cells1) (by decide) hS.inv rfl ?_; clear hF a; intro w' a hm hI' hbf hsz hF
  replace hf := hf.mb hm
  replace hO := hO.mb hm (fun _ _ => by simp)
  replace hW := hW.mb0 hm
  replace hS := hS.mb0 hm
  clear hm hI' hsz
  rw [← hpf] at hbf hF
  have hkf := hbf.kc
  clear hbf
  obtain ⟨pa, hpa⟩ : ∃ pf, pf = w'.heap.size := ⟨_, rfl⟩
  have hKpa : KM ≤ pa := by have := hS.ext.size; omega
  refine s_boxN (D := FDx) (B := B) hF rfl (rfl) (by decide) hS.inv rfl ?_; clear hF a; intro w' a hm hI' hba hsz hF
  replace hf := hf.mb hm
  replace hO := hO.mb hm (fun _ _ => by simp)
  replace hW := hW.mb0 hm
  replace hkf := hkf.mb hm (by simp)
  replace hS := hS.mb0 hm
  clear hm hI' hsz
  rw [← hpa] at hba hF
  have hka := hba.kc
  clear hba
  refine sv hF (v_assign rfl) rfl ?_; clear hF a; intro a hF
  refine WL_nil (hK _ _ ?_)
  clear hK K
  replace hF := hF.sub _ (c_ 6 rfl (c_ 4 rfl (c_ 3 rfl (c_ 2 rfl (n_)))))
  refine W_scope ?_
  refine W_sr rfl (fun K hK => ?_)
  obtain ⟨pt, hpt⟩ : ∃ pf, pf = w'.heap.size := ⟨_, rfl⟩
  have hKpt : KM ≤ pt := by have := hS.ext.size; omega
  have hlka := hka.2.1
  have hlkf := hkf.2.1
  have hapt : pa < pt := by rw [hpt]; exact hlka
  have hfpt : pf < pt := by rw [hpt]; exact hlkf
  have hgpf : g ≠ pf := by omega
  have hgpa : g ≠ pa := by omega
  refine s_alloc (D := FDx) (B := B) hF zv3 (by decide) hS.inv rfl ?_; clear hF a; intro w' a hm hI' hbt hsz hF
  replace hf := hf.mb hm
  replace hO := hO.mb hm (fun _ _ => by simp)
  replace hW := hW.mb0 hm
  replace hkf := hkf.mb hm (by simp)
  replace hka := hka.mb hm (by simp)
  replace hS := hS.mb0 hm
  clear hm hI' hsz
  rw [← hpt] at hbt hF
  refine s_stb (D := FDx) (B := B) hF on3 rfl rfl (rfl) hbt hS.inv ?_; intro w' hm hI' hbx'
  replace hf := hf.mb hm
  replace hO := hO.mb hm (fun k e e2 => by cases e; cases e2; exact absurd hgK (by omega))
  replace hW := hW.mbx hm (fun k e => by cases e; omega)
  replace hkf := hkf.mb hm (by simp; omega)
  replace hka := hka.mb hm (by simp; omega)
  replace hS := hS.mb hm (fun k h => by cases h; exact ⟨by omega, _, _, _, hbt.blk⟩)
  replace hbt := hbx'
  clear hm hI' hbx'
  refine WL_nil (hK _ _ ?_)
  clear hK K
  refine W_sr rfl (fun K hK => ?_)
  refine sv hF (v_mkf (cs := [.tmp 3, .tmp 4, .tmp 7]) (vs := [.pointer (some ⟨pf, 0, none⟩), .pointer (some ⟨pa, 0, none⟩), .pointer (some ⟨pt, 0, none⟩)]) rfl) rfl ?_; clear hF a; intro a hF
  refine sv hF (v_assign rfl) rfl ?_; clear hF a; intro a hF
  refine WL_nil (hK _ _ ?_)
  clear hK K
  replace hF := hF.sub _ (c_ 8 rfl (c_ 7 rfl (c_ 6 rfl (c_ 4 rfl (c_ 3 rfl (c_ 2 rfl (n_)))))))
  refine W_seq ?_
  refine W_label ?_
  refine W_seq ?_
  refine W_sr rfl (fun K hK => ?_)
  refine sv hF (v_move rfl) rfl ?_; clear hF a; intro a hF
  refine sv hF (v_move rfl) rfl ?_; clear hF a; intro a hF
  refine WL_nil (hK _ _ ?_)
  clear hK K
  replace hF := hF.sub _ (c_ 19 rfl (c_ 18 rfl (c_ 8 rfl (c_ 7 rfl (c_ 6 rfl (c_ 4 rfl (c_ 3 rfl (n_))))))))
  refine W_block ?_
  refine W_loop (fun q a w1 => ∃ (c : Nat) (bs rc : Nat → Nat), Fr 102 [(3, .pointer (some ⟨pf, 0, none⟩)), (4, .pointer (some ⟨pa, 0, none⟩)), (7, .pointer (some ⟨pt, 0, none⟩)), (8, .func (.func 55) ([] : List Value).toArray ([.pointer (some ⟨pf, 0, none⟩), .pointer (some ⟨pa, 0, none⟩), .pointer (some ⟨pt, 0, none⟩)] : List Value).toArray), (18, .int .i64 (cols : Int)), (19, .int .i64 (c : Int))] a ∧ (StZ FDx B (fun k => N ≤ k) w w1) ∧ (Fo FDx B w1 fv (some (wb, p))) ∧ (KC FDx B w1 ⟨pf, 0, none⟩ (fv)) ∧ (KC FDx B w1 ⟨pa, 0, none⟩ (.slice (some ⟨g, 0, none⟩) n cap)) ∧ (Box FDx B pt w1 pt 3 (.int .i64 ((hp.fld.red n f c).2 : Int))) ∧ (Gam.Own FDx B N w1 23 (.slice (some ⟨g, 0, none⟩) n cap) (some g) (vls n m bs rc)) ∧ (Wr FDx B N KM w1 n m bs rc ((hp.fld.red n f c).1)) ∧ (c ≤ cols) ∧ (q + c = cols)) (cols) ?_ ?_
  · skip
    exact ⟨0, _, _, hF.sub _ (c_ 3 rfl (c_ 4 rfl (c_ 7 rfl (c_ 8 rfl (c_ 18 rfl (c_ 19 rfl (n_))))))), hS, hf, hkf, hka, hbt, hO, hW, by omega, by omega⟩
  · skip
    clear hF
    clear hS hf hkf hka hbt hO hW
    rintro q a w1 ⟨c, bs, rc, hF, hS, hf, hkf, hka, hbt, hO, hW, hc, hq⟩
    refine W_sr rfl (fun K hK => ?_)
    refine sv hF (v_lss rfl rfl) rfl ?_; clear hF a; intro a hF
    refine WL_nil (hK _ _ ?_)
    clear hK K
    refine W_seq ?_
    refine W_if hF rfl (fun hc1 => ?_) (fun hc1 => ?_)
    · skip
      try simp only [decide_eq_true_eq, decide_eq_false_iff_not, Bool.not_eq_true', Bool.not_eq_false', Bool.not_true, Bool.not_false] at hc1
      obtain ⟨f1, hf1⟩ : ∃ x, x = (hp.fld.red n f c).1 := ⟨_, rfl⟩
      obtain ⟨t, ht1⟩ : ∃ x, x = (hp.fld.red n f c).2 := ⟨_, rfl⟩
      have hRd := hp.fld.red_ok (n := n) hfb c
      rw [← hf1, ← ht1] at hRd
      rw [← hf1] at hW
      rw [← ht1] at hbt
      have hb1 := hRd.bd
      have htn := hRd.tn
      clear hRd
      have hcl : c < m := by omega
      refine W_skip ?_
      refine W_seq ?_
      refine W_block ?_
      refine W_sr rfl (fun K hK => ?_)
      refine sv hF (v_move rfl) rfl ?_; clear hF a; intro a hF
      obtain ⟨pc, hpc⟩ : ∃ pf, pf = w1.heap.size := ⟨_, rfl⟩
      have hKpc : KM ≤ pc := by have := hS.ext.size; omega
      have hapc : pa < pc := by rw [hpc]; exact hka.2.1
      have hfpc : pf < pc := by rw [hpc]; exact hkf.2.1
      have htpc : pt < pc := by rw [hpc]; exact hbt.kc.2.1
      refine s_alloc (D := FDx) (B := B) hF zv3 (by decide) hS.inv rfl ?_; clear hF a; intro w' a hm hI' hbc hsz hF
      replace hf := hf.mb hm
      replace hkf := hkf.mb hm (by simp)
      replace hka := hka.mb hm (by simp)
      replace hbt := hbt.mb hm (by simp)
      replace hO := hO.mb hm (fun _ _ => by simp)
      replace hW := hW.mb0 hm
      replace hS := hS.mb0 hm
      clear hm hI' hsz
      rw [← hpc] at hbc hF
      refine s_stb (D := FDx) (B := B) hF on3 rfl rfl (rfl) hbc hS.inv ?_; intro w' hm hI' hbx'
      replace hf := hf.mb hm
      replace hkf := hkf.mb hm (by simp; omega)
      replace hka := hka.mb hm (by simp; omega)
      replace hbt := hbt.mb hm (by simp; omega)
      replace hO := hO.mb hm (fun k e e2 => by cases e; cases e2; exact absurd hgK (by omega))
      replace hW := hW.mbx hm (fun k e => by cases e; omega)
      replace hS := hS.mb hm (fun k h => by cases h; exact ⟨by omega, _, _, _, hbc.blk⟩)
      replace hbc := hbx'
      clear hm hI' hbx'
      refine WL_nil (hK _ _ ?_)
      clear hK K
      replace hF := hF.sub _ (c_ 9 rfl (c_ 3 rfl (c_ 4 rfl (c_ 7 rfl (c_ 8 rfl (c_ 18 rfl (c_ 19 rfl (n_))))))))
      refine W_seq ?_
      refine W_sr rfl (fun K hK => ?_)
      refine sv hF (v_load sc3 rfl (hbt.at)) rfl ?_; clear hF a; intro a hF
      refine sv hF (v_load sc30 rfl (hka.c)) rfl ?_; clear hF a; intro a hF
      refine sv hF (v_lenS rfl sl30 rfl) rfl ?_; clear hF a; intro a hF
      refine sv hF (v_eql rfl rfl) rfl ?_; clear hF a; intro a hF
      refine WL_nil (hK _ _ ?_)
      clear hK K
      replace hF := hF.sub _ (c_ 25 rfl (c_ 9 rfl (c_ 3 rfl (c_ 4 rfl (c_ 7 rfl (c_ 8 rfl (c_ 18 rfl (c_ 19 rfl (n_)))))))))
      refine W_if hF rfl (fun hc2 => ?_) (fun hc2 => ?_)
      · skip
        try simp only [decide_eq_true_eq, decide_eq_false_iff_not, Bool.not_eq_true', Bool.not_eq_false', Bool.not_true, Bool.not_false] at hc2
        refine W_exit rfl ?_
        refine W_sr rfl (fun K hK => ?_)
        refine sv hF (v_load sc3 rfl (by first | assumption | (rw [toNat_c]; assumption) | exact KC.c (by assumption) | (rw [toNat_c]; exact KC.c (by assumption)) | exact Box.at (by assumption))) rfl ?_; clear hF a; intro a hF
        refine sv hF (v_assign rfl) rfl ?_; clear hF a; intro a hF
        refine WL_nil (hK _ _ ?_)
        clear hK K
        replace hF := hF.sub _ (c_ 6 rfl (c_ 101 rfl (c_ 3 rfl (c_ 4 rfl (c_ 7 rfl (c_ 8 rfl (c_ 18 rfl (c_ 19 rfl (n_)))))))))
        refine W_ret ?_
        refine ⟨_, _, hF, rfl, ?_⟩
        have hfull := hp.fld.red_full (n := n) (f := f) (c := c) (by rw [← ht1]; omega) (cols - c)
        rw [show c + (cols - c) = cols by omega] at hfull
        exact ⟨by unfold Fld.rk; rw [hfull, ← ht1], ⟨bs, rc, hO, by rw [← hKM, hfull, ← hf1]; exact hW⟩, hS⟩
      · skip
        try simp only [decide_eq_true_eq, decide_eq_false_iff_not, Bool.not_eq_true', Bool.not_eq_false', Bool.not_true, Bool.not_false] at hc2
        refine W_skip ?_
        have hcapn := (hO.row (by decide)).capd
        have ht : t < n := by omega
        have hdl : ((tab n m f1).drop t).length = n - t := by rw [List.length_drop, tab_length]
        refine W_sd (m := 8) rfl hmix hS.inv (fun K hK w1 hS' hh => ?_)
        replace hf := hf.st hS'
        replace hkf := hkf.st hS'
        replace hka := hka.st hS'
        replace hbt := hbt.st hS'
        replace hO := hO.st (by decide) hS'
        replace hW := hW.st hS'
        replace hbc := hbc.st hS'
        replace hS := hS.trans hS'
        clear hS'
        clear hh
        refine a_v (i := 0) rfl (by kernel_rfl) hF (fun w2 hx => v_load sc3 rfl (hbt.kc.ld hx)) rfl ?_; clear hF a; intro a hF
        refine a_v (i := 1) rfl (by kernel_rfl) hF (fun w2 hx => v_load sc30 rfl (hka.ld hx)) rfl ?_; clear hF a; intro a hF
        refine a_v (i := 2) rfl (by kernel_rfl) hF (fun w2 hx => v_load sc3 rfl (hbt.kc.ld hx)) rfl ?_; clear hF a; intro a hF
        refine a_v (i := 3) rfl (by kernel_rfl) hF (fun w2 hx => v_slLo sl30 rfl rfl (by omega) (by omega)) rfl ?_; clear hF a; intro a hF
        rw [← hdl] at hF
        refine a_v (i := 4) rfl (by kernel_rfl) hF (fun w2 hx => v_mkf (cs := [.tmp 9]) (vs := [.pointer (some ⟨pc, 0, none⟩)]) rfl) rfl ?_; clear hF a; intro a hF
        have hcap := hO.kc (by decide) (vls_at ht)
        have hMt := (hW.mat (gb := g) hO (by decide)).from (lo := t) (b := (tab n m f1).drop t) (by rw [tab_length]; omega) rfl
        refine a_e (i := 5) rfl (by kernel_rfl) ?_
        refine sc hF rfl rfl rfl en57 rfl (IdxR_ok B _ 58 [.pointer (some ⟨pc, 0, none⟩)] (fun r => decide (r.getD c 0 ≠ 0)) _ _ _ _ hS.inv hMt (by rw [hdl]; exact Nat.le_trans (show _ ≤ 1000 by omega) (by decide)) (ent Tryz.func58 (by kernel_rfl) (by kernel_rfl)) (fun r hr pr cr w3 hs hrow => red2_ok B _ pc c pr cr r w3 hs.inv hrow (hbc.kc.st hs) (by rw [tab_mem hr]; exact hcl) (by omega))) ?_; clear hF a; intro v w' a hv hF
        obtain ⟨rfl, hS'⟩ := hv
        refine WL_nil ⟨hS'.ext, ?_⟩
        replace hf := hf.st hS'
        replace hkf := hkf.st hS'
        replace hka := hka.st hS'
        replace hbt := hbt.st hS'
        replace hO := hO.st (by decide) hS'
        replace hW := hW.st hS'
        replace hbc := hbc.st hS'
        replace hS := hS.trans hS'
        clear hS'
        clear hMt hcap
        have hidx := piv_idx (n := n) (f := f1) (t := t) hcl htn (p := fun r => decide (r.getD c 0 ≠ 0)) (fun r => rfl)
        have hib : -1 ≤ idxZ (fun r => decide (r.getD c 0 ≠ 0)) ((tab n m f1).drop t) ∧ idxZ (fun r => decide (r.getD c 0 ≠ 0)) ((tab n m f1).drop t) ≤ 40 := by rcases hidx with ⟨h, _⟩ | ⟨k, _, _, _, h⟩ <;> omega
        refine a_v (i := 6) rfl (by kernel_rfl) hF (fun w2 hx => v_addI rfl rfl (by omega)) rfl ?_; clear hF a; intro a hF
        refine a_v (i := 7) rfl (by kernel_rfl) hF (fun w2 hx => v_assign rfl) rfl ?_; clear hF a; intro a hF
        refine a_done (by kernel_rfl) (hK _ _ ?_)
        clear hK K
        replace hF := hF.sub _ (c_ 10 rfl (c_ 9 rfl (c_ 3 rfl (c_ 4 rfl (c_ 7 rfl (c_ 8 rfl (c_ 18 rfl (c_ 19 rfl (n_)))))))))
        refine W_seq ?_
        refine W_sr rfl (fun K hK => ?_)
        refine sv hF (v_move rfl) rfl ?_; clear hF a; intro a hF
        refine sv hF (v_load sc3 rfl (hbt.at)) rfl ?_; clear hF a; intro a hF
        refine sv hF (v_lss rfl rfl) rfl ?_; clear hF a; intro a hF
        refine WL_nil (hK _ _ ?_)
        clear hK K
        replace hF := hF.sub _ (c_ 35 rfl (c_ 10 rfl (c_ 9 rfl (c_ 3 rfl (c_ 4 rfl (c_ 7 rfl (c_ 8 rfl (c_ 18 rfl (c_ 19 rfl (n_))))))))))
        refine W_if hF rfl (fun hc3 => ?_) (fun hc3 => ?_)
        · skip
          try simp only [decide_eq_true_eq, decide_eq_false_iff_not, Bool.not_eq_true', Bool.not_eq_false', Bool.not_true, Bool.not_false] at hc3
          have hpn : Fld.piv f1 n c t (n - t) = none := by
            rcases hidx with ⟨_, h⟩ | ⟨k, _, _, _, h⟩
            · exact h
            · exfalso; omega
          have hrd := hp.fld.red_none hf1.symm ht1.symm hpn
          have hrd1 : (hp.fld.red n f (c + 1)).1 = f1 := by rw [hrd]
          have hrd2 : (hp.fld.red n f (c + 1)).2 = t := by rw [hrd]
          clear hidx hib
          rw [← hrd1] at hW
          rw [← hrd2] at hbt
          clear hbc
          refine W_exit rfl ?_
          refine W_reg rfl (fun K hK => ?_)
          refine sv hF (v_addI rfl rfl (by omega)) rfl ?_; clear hF a; intro a hF
          refine sv hF (v_move rfl) rfl ?_; clear hF a; intro a hF
          refine WL_nil (hK _ _ ?_)
          clear hK K
          replace hF := hF.sub _ (c_ 19 rfl (c_ 100 rfl (c_ 3 rfl (c_ 4 rfl (c_ 7 rfl (c_ 8 rfl (c_ 18 rfl (n_))))))))
          exact ⟨q - 1, by omega, c + 1, _, _, hF.sub _ (c_ 3 rfl (c_ 4 rfl (c_ 7 rfl (c_ 8 rfl (c_ 18 rfl (c_ 19 rfl (n_))))))), hS, hf, hkf, hka, hbt, hO, hW, by omega, by omega⟩
        · skip
          try simp only [decide_eq_true_eq, decide_eq_false_iff_not, Bool.not_eq_true', Bool.not_eq_false', Bool.not_true, Bool.not_false] at hc3
          obtain ⟨k, hpk, htk, hkn, hik⟩ : ∃ k, Fld.piv f1 n c t (n - t) = some k ∧ t ≤ k ∧ k < n ∧ idxZ (fun r => decide (r.getD c 0 ≠ 0)) ((tab n m f1).drop t) = (k : Int) - (t : Int) := by
            rcases hidx with ⟨h, _⟩ | h
            · exfalso; omega
            · exact h
          rw [hik, show (t : Int) + ((k : Int) - (t : Int)) = (k : Int) by omega] at hF
          clear hidx hib hik
          obtain ⟨-, -, hk0, -⟩ := Fld.piv_some hpk
          have hswt : Fld.sw t k t = k := by unfold Fld.sw; rw [if_pos rfl]
          refine W_skip ?_
          refine W_cut (fun a w1 => Fr 102 [(3, .pointer (some ⟨pf, 0, none⟩)), (4, .pointer (some ⟨pa, 0, none⟩)), (7, .pointer (some ⟨pt, 0, none⟩)), (8, .func (.func 55) ([] : List Value).toArray ([.pointer (some ⟨pf, 0, none⟩), .pointer (some ⟨pa, 0, none⟩), .pointer (some ⟨pt, 0, none⟩)] : List Value).toArray), (18, .int .i64 (cols : Int)), (19, .int .i64 (c : Int)), (9, .pointer (some ⟨pc, 0, none⟩)), (10, .int .i64 (k : Int))] a ∧ (StZ FDx B (fun k => N ≤ k) w w1) ∧ (Fo FDx B w1 fv (some (wb, p))) ∧ (KC FDx B w1 ⟨pf, 0, none⟩ (fv)) ∧ (KC FDx B w1 ⟨pa, 0, none⟩ (.slice (some ⟨g, 0, none⟩) n cap)) ∧ (Box FDx B pt w1 pt 3 (.int .i64 (t : Int))) ∧ (Box FDx B pc w1 pc 3 (.int .i64 (c : Int))) ∧ (Gam.Own FDx B N w1 23 (.slice (some ⟨g, 0, none⟩) n cap) (some g) (vls n m (fun i => bs (Fld.sw t k i)) (fun i => rc (Fld.sw t k i)))) ∧ (Wr FDx B N KM w1 n m (fun i => bs (Fld.sw t k i)) (fun i => rc (Fld.sw t k i)) (fun i j => f1 (Fld.sw t k i) j))) ?_ ?_
          · skip
            refine W_dS (fun (w2 : World) => w2.cell? ⟨pa, 0, none⟩ = some (.slice (some ⟨g, 0, none⟩) n cap) ∧ w2.cell? ⟨pt, 0, none⟩ = some (.int .i64 (t : Int))) (m := 16) rfl hmix (fun K hK => ?_)
            have hS' := St.drew hS.inv
            replace hf := hf.st hS'
            replace hkf := hkf.st hS'
            replace hka := hka.st hS'
            replace hbt := hbt.st hS'
            replace hO := hO.st (by decide) hS'
            replace hW := hW.st hS'
            replace hbc := hbc.st hS'
            replace hS := hS.trans hS'
            clear hS'
            have hSS : (fun (w2 : World) => w2.cell? ⟨pa, 0, none⟩ = some (.slice (some ⟨g, 0, none⟩) n cap) ∧ w2.cell? ⟨pt, 0, none⟩ = some (.int .i64 (t : Int))) _ := And.intro hka.c hbt.at
            refine b_v (i := 0) rfl (by kernel_rfl) hF (fun w2 hx => v_load sc30 rfl (hx.1)) rfl hSS ?_; clear hF a; intro a hF
            refine b_v (i := 1) rfl (by kernel_rfl) hF (fun w2 hx => v_load sc3 rfl (hx.2)) rfl hSS ?_; clear hF a; intro a hF
            refine b_v (i := 2) rfl (by kernel_rfl) hF (fun w2 hx => v_load sc30 rfl (hx.1)) rfl hSS ?_; clear hF a; intro a hF
            refine b_v (i := 3) rfl (by kernel_rfl) hF (fun w2 hx => v_move rfl) rfl hSS ?_; clear hF a; intro a hF
            refine b_v (i := 4) rfl (by kernel_rfl) hF (fun w2 hx => v_load sc30 rfl (hx.1)) rfl hSS ?_; clear hF a; intro a hF
            refine b_v (i := 5) rfl (by kernel_rfl) hF (fun w2 hx => v_move rfl) rfl hSS ?_; clear hF a; intro a hF
            refine b_v (i := 6) rfl (by kernel_rfl) hF (fun w2 hx => v_ixS sl30 rfl rfl (by omega) (by omega)) rfl hSS ?_; clear hF a; intro a hF
            refine b_v (i := 8) rfl (by kernel_rfl) hF (fun w2 hx => v_load sc30 rfl (hx.1)) rfl hSS ?_; clear hF a; intro a hF
            refine b_v (i := 9) rfl (by kernel_rfl) hF (fun w2 hx => v_load sc3 rfl (hx.2)) rfl hSS ?_; clear hF a; intro a hF
            refine b_v (i := 10) rfl (by kernel_rfl) hF (fun w2 hx => v_ixS sl30 rfl rfl (by omega) (by omega)) rfl hSS ?_; clear hF a; intro a hF
            refine b_e2 (i := 7) (i' := 11) (by kernel_rfl) rfl rfl ?_ ?_
            · skip
              refine sv hF (v_load sc23 rfl (by rw [toNat_c]; exact (hO.kc (by decide) (vls_at hkn)).c)) rfl ?_; clear hF a; intro a hF
              refine WL_nil ⟨hSS, ?_⟩
              refine b_e (i := 11) (by kernel_rfl) rfl ?_
              refine sv hF (v_load sc23 rfl (by rw [toNat_c]; exact (hO.kc (by decide) (vls_at ht)).c)) rfl ?_; clear hF a; intro a hF
              refine WL_nil ⟨hSS, ?_⟩
              refine b_v (i := 12) rfl (by kernel_rfl) hF (fun w2 hx => v_ixS sl30 rfl rfl (by omega) (by omega)) rfl hSS ?_; clear hF a; intro a hF
              refine b_e (i := 13) (by kernel_rfl) rfl ?_
              refine s_set (D := FDx) (B := B) hF on23 rfl (by rw [toNat_c, vls_length]; omega) rfl rfl hO (by decide) hS.inv ?_; intro w' hm hI' ho'
              replace hf := hf.mb hm
              replace hkf := hkf.mb hm (fun e => hgpf (Option.some.inj e))
              replace hka := hka.mb hm (fun e => hgpa (Option.some.inj e))
              replace hbt := hbt.mb hm (hbt.ne_own hO (by decide))
              replace hW := hW.mbo hm hO (by decide)
              replace hbc := hbc.mb hm (hbc.ne_own hO (by decide))
              replace hS := hS.mb hm (fun k e => ⟨(hO.lt k e).1, hO.isrow k e⟩)
              replace hO := ho'
              clear hm hI' ho'
              clear hSS
              have hSS : (fun (w2 : World) => w2.cell? ⟨pa, 0, none⟩ = some (.slice (some ⟨g, 0, none⟩) n cap) ∧ w2.cell? ⟨pt, 0, none⟩ = some (.int .i64 (t : Int))) _ := And.intro hka.c hbt.at
              refine WL_nil ⟨hSS, ?_⟩
              refine b_v (i := 14) rfl (by kernel_rfl) hF (fun w2 hx => v_ixS sl30 rfl rfl (by omega) (by omega)) rfl hSS ?_; clear hF a; intro a hF
              refine b_e (i := 15) (by kernel_rfl) rfl ?_
              refine s_set (D := FDx) (B := B) hF on23 rfl (by rw [toNat_c, List.length_set, vls_length]; omega) rfl rfl hO (by decide) hS.inv ?_; intro w' hm hI' ho'
              replace hf := hf.mb hm
              replace hkf := hkf.mb hm (fun e => hgpf (Option.some.inj e))
              replace hka := hka.mb hm (fun e => hgpa (Option.some.inj e))
              replace hbt := hbt.mb hm (hbt.ne_own hO (by decide))
              replace hW := hW.mbo hm hO (by decide)
              replace hbc := hbc.mb hm (hbc.ne_own hO (by decide))
              replace hS := hS.mb hm (fun k e => ⟨(hO.lt k e).1, hO.isrow k e⟩)
              replace hO := ho'
              clear hm hI' ho'
              clear hSS
              have hSS : (fun (w2 : World) => w2.cell? ⟨pa, 0, none⟩ = some (.slice (some ⟨g, 0, none⟩) n cap) ∧ w2.cell? ⟨pt, 0, none⟩ = some (.int .i64 (t : Int))) _ := And.intro hka.c hbt.at
              refine WL_nil ⟨hSS, ?_⟩
              refine b_done (by kernel_rfl) (hK _ _ ?_)
              clear hK K
              replace hF := hF.sub _ (c_ 10 rfl (c_ 9 rfl (c_ 3 rfl (c_ 4 rfl (c_ 7 rfl (c_ 8 rfl (c_ 18 rfl (c_ 19 rfl (n_)))))))))
              exact ⟨hF.sub _ (c_ 3 rfl (c_ 4 rfl (c_ 7 rfl (c_ 8 rfl (c_ 18 rfl (c_ 19 rfl (c_ 9 rfl (c_ 10 rfl (n_))))))))), hS, hf, hkf, hka, hbt, hbc, hO.cast (by rw [toNat_c, toNat_c, Nat.zero_add, Nat.zero_add]; exact vls_sw ht hkn), hW.sw ht hkn⟩
            · skip
              refine sv hF (v_load sc23 rfl (by rw [toNat_c]; exact (hO.kc (by decide) (vls_at ht)).c)) rfl ?_; clear hF a; intro a hF
              refine WL_nil ⟨hSS, ?_⟩
              refine b_e (i := 7) (by kernel_rfl) rfl ?_
              refine sv hF (v_load sc23 rfl (by rw [toNat_c]; exact (hO.kc (by decide) (vls_at hkn)).c)) rfl ?_; clear hF a; intro a hF
              refine WL_nil ⟨hSS, ?_⟩
              refine b_v (i := 12) rfl (by kernel_rfl) hF (fun w2 hx => v_ixS sl30 rfl rfl (by omega) (by omega)) rfl hSS ?_; clear hF a; intro a hF
              refine b_e (i := 13) (by kernel_rfl) rfl ?_
              refine s_set (D := FDx) (B := B) hF on23 rfl (by rw [toNat_c, vls_length]; omega) rfl rfl hO (by decide) hS.inv ?_; intro w' hm hI' ho'
              replace hf := hf.mb hm
              replace hkf := hkf.mb hm (fun e => hgpf (Option.some.inj e))
              replace hka := hka.mb hm (fun e => hgpa (Option.some.inj e))
              replace hbt := hbt.mb hm (hbt.ne_own hO (by decide))
              replace hW := hW.mbo hm hO (by decide)
              replace hbc := hbc.mb hm (hbc.ne_own hO (by decide))
              replace hS := hS.mb hm (fun k e => ⟨(hO.lt k e).1, hO.isrow k e⟩)
              replace hO := ho'
              clear hm hI' ho'
              clear hSS
              have hSS : (fun (w2 : World) => w2.cell? ⟨pa, 0, none⟩ = some (.slice (some ⟨g, 0, none⟩) n cap) ∧ w2.cell? ⟨pt, 0, none⟩ = some (.int .i64 (t : Int))) _ := And.intro hka.c hbt.at
              refine WL_nil ⟨hSS, ?_⟩
              refine b_v (i := 14) rfl (by kernel_rfl) hF (fun w2 hx => v_ixS sl30 rfl rfl (by omega) (by omega)) rfl hSS ?_; clear hF a; intro a hF
              refine b_e (i := 15) (by kernel_rfl) rfl ?_
              refine s_set (D := FDx) (B := B) hF on23 rfl (by rw [toNat_c, List.length_set, vls_length]; omega) rfl rfl hO (by decide) hS.inv ?_; intro w' hm hI' ho'
              replace hf := hf.mb hm
              replace hkf := hkf.mb hm (fun e => hgpf (Option.some.inj e))
              replace hka := hka.mb hm (fun e => hgpa (Option.some.inj e))
              replace hbt := hbt.mb hm (hbt.ne_own hO (by decide))
              replace hW := hW.mbo hm hO (by decide)
              replace hbc := hbc.mb hm (hbc.ne_own hO (by decide))
              replace hS := hS.mb hm (fun k e => ⟨(hO.lt k e).1, hO.isrow k e⟩)
              replace hO := ho'
              clear hm hI' ho'
              clear hSS
              have hSS : (fun (w2 : World) => w2.cell? ⟨pa, 0, none⟩ = some (.slice (some ⟨g, 0, none⟩) n cap) ∧ w2.cell? ⟨pt, 0, none⟩ = some (.int .i64 (t : Int))) _ := And.intro hka.c hbt.at
              refine WL_nil ⟨hSS, ?_⟩
              refine b_done (by kernel_rfl) (hK _ _ ?_)
              clear hK K
              replace hF := hF.sub _ (c_ 10 rfl (c_ 9 rfl (c_ 3 rfl (c_ 4 rfl (c_ 7 rfl (c_ 8 rfl (c_ 18 rfl (c_ 19 rfl (n_)))))))))
              exact ⟨hF.sub _ (c_ 3 rfl (c_ 4 rfl (c_ 7 rfl (c_ 8 rfl (c_ 18 rfl (c_ 19 rfl (c_ 9 rfl (c_ 10 rfl (n_))))))))), hS, hf, hkf, hka, hbt, hbc, hO.cast (by rw [toNat_c, toNat_c, Nat.zero_add, Nat.zero_add]; exact vls_sw ht hkn), hW.sw ht hkn⟩
          · skip
            clear hF
            clear hS hf hkf hka hbt hbc hO hW
            rintro a w1 ⟨hF, hS, hf, hkf, hka, hbt, hbc, hO, hW⟩
            refine W_sd (m := 14) rfl hmix hS.inv (fun K hK w1 hS' hh => ?_)
            replace hf := hf.st hS'
            replace hkf := hkf.st hS'
            replace hka := hka.st hS'
            replace hbt := hbt.st hS'
            replace hO := hO.st (by decide) hS'
            replace hW := hW.st hS'
            replace hbc := hbc.st hS'
            replace hS := hS.trans hS'
            clear hS'
            clear hh
            refine a_v (i := 0) rfl (by kernel_rfl) hF (fun w2 hx => v_load sc26 rfl (hkf.ld hx)) rfl ?_; clear hF a; intro a hF
            refine a_v (i := 1) rfl (by kernel_rfl) hF (fun w2 hx => v_load sc30 rfl (hka.ld hx)) rfl ?_; clear hF a; intro a hF
            refine a_v (i := 2) rfl (by kernel_rfl) hF (fun w2 hx => v_load sc3 rfl (hbt.kc.ld hx)) rfl ?_; clear hF a; intro a hF
            refine a_v (i := 3) rfl (by kernel_rfl) hF (fun w2 hx => v_ixS sl30 rfl rfl (by omega) (by omega)) rfl ?_; clear hF a; intro a hF
            refine a_v (i := 4) rfl (by kernel_rfl) hF (fun w2 hx => v_load sc23 rfl (by rw [toNat_c]; exact (hO.kc (by decide) (vls_at ht)).ld hx)) rfl ?_; clear hF a; intro a hF
            rw [hswt] at hF
            refine a_v (i := 5) rfl (by kernel_rfl) hF (fun w2 hx => v_load sc3 rfl (hbc.kc.ld hx)) rfl ?_; clear hF a; intro a hF
            refine a_v (i := 6) rfl (by kernel_rfl) hF (fun w2 hx => v_ixS sl23 rfl rfl (by omega) (by omega)) rfl ?_; clear hF a; intro a hF
            have hrk := hW.rd ht hcl
            rw [hswt] at hrk
            refine a_v (i := 7) rfl (by kernel_rfl) hF (fun w2 hx => v_load sc3 rfl (by rw [toNat_c]; exact hrk.ld hx)) rfl ?_; clear hF a; intro a hF
            refine a_e (i := 8) rfl (by kernel_rfl) ?_
            refine sc hF rfl rfl rfl en59 rfl (Inv_gf B (some (wb, p)) fv ((f1 k c : Nat) : Int) _ hS.inv hf) ?_; clear hF a; intro v w' a hv hF
            obtain ⟨rfl, hS'⟩ := hv
            refine WL_nil ⟨hS'.ext, ?_⟩
            replace hf := hf.st hS'
            replace hkf := hkf.st hS'
            replace hka := hka.st hS'
            replace hbt := hbt.st hS'
            replace hO := hO.st (by decide) hS'
            replace hW := hW.st hS'
            replace hbc := hbc.st hS'
            replace hS := hS.trans hS'
            clear hS'
            clear hrk
            have hkb := hb1 k c
            rw [hfw] at hkb
            rw [ginv_fld hp hkb hk0] at hF
            refine a_v (i := 9) rfl (by kernel_rfl) hF (fun w2 hx => v_move rfl) rfl ?_; clear hF a; intro a hF
            refine a_v (i := 10) rfl (by kernel_rfl) hF (fun w2 hx => v_ext rfl rfl) rfl ?_; clear hF a; intro a hF
            refine a_v (i := 11) rfl (by kernel_rfl) hF (fun w2 hx => v_ext rfl rfl) rfl ?_; clear hF a; intro a hF
            refine a_v (i := 12) rfl (by kernel_rfl) hF (fun w2 hx => v_assign rfl) rfl ?_; clear hF a; intro a hF
            refine a_v (i := 13) rfl (by kernel_rfl) hF (fun w2 hx => v_assign rfl) rfl ?_; clear hF a; intro a hF
            refine a_done (by kernel_rfl) (hK _ _ ?_)
            clear hK K
            replace hF := hF.sub _ (c_ 11 rfl (c_ 3 rfl (c_ 4 rfl (c_ 7 rfl (c_ 8 rfl (c_ 18 rfl (c_ 19 rfl (c_ 9 rfl (n_)))))))))
            refine W_seq ?_
            refine W_sr rfl (fun K hK => ?_)
            refine sv hF (v_load sc30 rfl (hka.c)) rfl ?_; clear hF a; intro a hF
            refine sv hF (v_load sc3 rfl (hbt.at)) rfl ?_; clear hF a; intro a hF
            refine sv hF (v_ixS sl30 rfl rfl (by omega) (by omega)) rfl ?_; clear hF a; intro a hF
            refine sv hF (v_load sc23 rfl (by rw [toNat_c]; exact (hO.kc (by decide) (vls_at ht)).c)) rfl ?_; clear hF a; intro a hF
            rw [hswt] at hF
            refine sv hF (v_lenS rfl sl23 rfl) rfl ?_; clear hF a; intro a hF
            refine sv hF (v_move rfl) rfl ?_; clear hF a; intro a hF
            refine WL_nil (hK _ _ ?_)
            clear hK K
            replace hF := hF.sub _ (c_ 67 rfl (c_ 66 rfl (c_ 65 rfl (c_ 11 rfl (c_ 3 rfl (c_ 4 rfl (c_ 7 rfl (c_ 8 rfl (c_ 18 rfl (c_ 19 rfl (c_ 9 rfl (n_))))))))))))
            refine W_block ?_
            refine W_loop (fun q2 a w3 => ∃ (j : Nat), Fr 102 [(3, .pointer (some ⟨pf, 0, none⟩)), (4, .pointer (some ⟨pa, 0, none⟩)), (7, .pointer (some ⟨pt, 0, none⟩)), (8, .func (.func 55) ([] : List Value).toArray ([.pointer (some ⟨pf, 0, none⟩), .pointer (some ⟨pa, 0, none⟩), .pointer (some ⟨pt, 0, none⟩)] : List Value).toArray), (18, .int .i64 (cols : Int)), (19, .int .i64 (c : Int)), (9, .pointer (some ⟨pc, 0, none⟩)), (11, .int .i64 ((hp.fld.inv (f1 k c) : Nat) : Int)), (65, .slice (some ⟨bs k, 0, none⟩) m (rc k)), (66, .int .i64 (m : Int)), (67, .int .i64 (j : Int))] a ∧ (StZ FDx B (fun k => N ≤ k) w w3) ∧ (Fo FDx B w3 fv (some (wb, p))) ∧ (KC FDx B w3 ⟨pf, 0, none⟩ (fv)) ∧ (KC FDx B w3 ⟨pa, 0, none⟩ (.slice (some ⟨g, 0, none⟩) n cap)) ∧ (Box FDx B pt w3 pt 3 (.int .i64 (t : Int))) ∧ (Box FDx B pc w3 pc 3 (.int .i64 (c : Int))) ∧ (Gam.Own FDx B N w3 23 (.slice (some ⟨g, 0, none⟩) n cap) (some g) (vls n m (fun i => bs (Fld.sw t k i)) (fun i => rc (Fld.sw t k i)))) ∧ (Wr FDx B N KM w3 n m (fun i => bs (Fld.sw t k i)) (fun i => rc (Fld.sw t k i)) (hp.fld.sclF t (hp.fld.inv (f1 k c)) j (fun i j => f1 (Fld.sw t k i) j))) ∧ (j ≤ m) ∧ (q2 + j = m)) (m) ?_ ?_
            · skip
              exact ⟨0, hF.sub _ (c_ 3 rfl (c_ 4 rfl (c_ 7 rfl (c_ 8 rfl (c_ 18 rfl (c_ 19 rfl (c_ 9 rfl (c_ 11 rfl (c_ 65 rfl (c_ 66 rfl (c_ 67 rfl (n_)))))))))))), hS, hf, hkf, hka, hbt, hbc, hO, hW.congr (fun a _ l _ => by unfold Fld.sclF; rw [if_neg (by omega)]), by omega, by omega⟩
            · skip
              clear hF
              clear hS hf hkf hka hbt hbc hO hW
              rintro q2 a w3 ⟨j, hF, hS, hf, hkf, hka, hbt, hbc, hO, hW, hj, hq2⟩
              refine W_sr rfl (fun K hK => ?_)
              refine sv hF (v_lss rfl rfl) rfl ?_; clear hF a; intro a hF
              refine WL_nil (hK _ _ ?_)
              clear hK K
              refine W_seq ?_
              refine W_if hF rfl (fun hc4 => ?_) (fun hc4 => ?_)
              · skip
                try simp only [decide_eq_true_eq, decide_eq_false_iff_not, Bool.not_eq_true', Bool.not_eq_false', Bool.not_true, Bool.not_false] at hc4
                have hlt : j < m := by omega
                have hrk := hW.rd ht hlt
                rw [hswt] at hrk
                have hbs := hp.fld.sclF_bd (t := t) (s := hp.fld.inv (f1 k c)) (J := j) (f := fun i j => f1 (Fld.sw t k i) j) (fun a b => hb1 _ b)
                have hbj := hbs t j
                have hbi := hp.fld.inv_lt (f1 k c)
                have hbm := hp.fld.lt (((hp.fld.sclF t (hp.fld.inv (f1 k c)) j (fun i j => f1 (Fld.sw t k i) j)) t j)) (hp.fld.inv (f1 k c))
                rw [hfw] at hbj hbi hbm
                refine W_skip ?_
                refine W_seq ?_
                refine W_block ?_
                refine W_sr rfl (fun K hK => ?_)
                refine sv hF (v_move rfl) rfl ?_; clear hF a; intro a hF
                refine sv hF (v_ixS sl23 rfl rfl (by omega) (by omega)) rfl ?_; clear hF a; intro a hF
                refine sv hF (v_load sc3 rfl (by rw [toNat_c]; exact hrk.c)) rfl ?_; clear hF a; intro a hF
                refine sv hF (v_assign rfl) rfl ?_; clear hF a; intro a hF
                refine sv hF (v_assign rfl) rfl ?_; clear hF a; intro a hF
                refine WL_nil (hK _ _ ?_)
                clear hK K
                replace hF := hF.sub _ (c_ 14 rfl (c_ 13 rfl (c_ 3 rfl (c_ 4 rfl (c_ 7 rfl (c_ 8 rfl (c_ 18 rfl (c_ 19 rfl (c_ 9 rfl (c_ 11 rfl (c_ 65 rfl (c_ 66 rfl (c_ 67 rfl (n_))))))))))))))
                clear hrk
                have hct := (hO.kc (by decide) (vls_at ht)).c
                rw [hswt] at hct
                refine W_dS (fun (w2 : World) => w2.cell? ⟨pf, 0, none⟩ = some (fv) ∧ w2.cell? ⟨pa, 0, none⟩ = some (.slice (some ⟨g, 0, none⟩) n cap) ∧ w2.cell? ⟨pt, 0, none⟩ = some (.int .i64 (t : Int)) ∧ w2.cell? ⟨g, 0 + t, none⟩ = some (.slice (some ⟨bs k, 0, none⟩) m (rc k))) (m := 11) rfl hmix (fun K hK => ?_)
                have hS' := St.drew hS.inv
                replace hf := hf.st hS'
                replace hkf := hkf.st hS'
                replace hka := hka.st hS'
                replace hbt := hbt.st hS'
                replace hO := hO.st (by decide) hS'
                replace hW := hW.st hS'
                replace hbc := hbc.st hS'
                replace hS := hS.trans hS'
                clear hS'
                have hSS : (fun (w2 : World) => w2.cell? ⟨pf, 0, none⟩ = some (fv) ∧ w2.cell? ⟨pa, 0, none⟩ = some (.slice (some ⟨g, 0, none⟩) n cap) ∧ w2.cell? ⟨pt, 0, none⟩ = some (.int .i64 (t : Int)) ∧ w2.cell? ⟨g, 0 + t, none⟩ = some (.slice (some ⟨bs k, 0, none⟩) m (rc k))) _ := And.intro hkf.c (And.intro hka.c (And.intro hbt.at hct))
                refine b_v (i := 0) rfl (by kernel_rfl) hF (fun w2 hx => v_load sc30 rfl (hx.2.1)) rfl hSS ?_; clear hF a; intro a hF
                refine b_v (i := 1) rfl (by kernel_rfl) hF (fun w2 hx => v_load sc3 rfl (hx.2.2.1)) rfl hSS ?_; clear hF a; intro a hF
                refine b_v (i := 2) rfl (by kernel_rfl) hF (fun w2 hx => v_ixS sl30 rfl rfl (by omega) (by omega)) rfl hSS ?_; clear hF a; intro a hF
                refine b_v (i := 3) rfl (by kernel_rfl) hF (fun w2 hx => v_load sc23 rfl (by rw [toNat_c]; exact hx.2.2.2)) rfl hSS ?_; clear hF a; intro a hF
                refine b_v (i := 4) rfl (by kernel_rfl) hF (fun w2 hx => v_move rfl) rfl hSS ?_; clear hF a; intro a hF
                refine b_v (i := 5) rfl (by kernel_rfl) hF (fun w2 hx => v_load sc26 rfl (hx.1)) rfl hSS ?_; clear hF a; intro a hF
                refine b_v (i := 6) rfl (by kernel_rfl) hF (fun w2 hx => v_move rfl) rfl hSS ?_; clear hF a; intro a hF
                refine b_v (i := 7) rfl (by kernel_rfl) hF (fun w2 hx => v_move rfl) rfl hSS ?_; clear hF a; intro a hF
                refine b_e (i := 8) (by kernel_rfl) rfl ?_
                refine sc hF rfl rfl rfl en56 rfl (Mul_gf B (some (wb, p)) fv (((hp.fld.sclF t (hp.fld.inv (f1 k c)) j (fun i j => f1 (Fld.sw t k i) j)) t j : Nat) : Int) ((hp.fld.inv (f1 k c) : Nat) : Int) _ hS.inv hf) ?_; clear hF a; intro v w' a hv hF
                obtain ⟨rfl, hS'⟩ := hv
                replace hf := hf.st hS'
                replace hkf := hkf.st hS'
                replace hka := hka.st hS'
                replace hbt := hbt.st hS'
                replace hO := hO.st (by decide) hS'
                replace hW := hW.st hS'
                replace hbc := hbc.st hS'
                replace hS := hS.trans hS'
                clear hS'
                rw [gmul_num hp hbj hbi] at hF
                clear hSS
                replace hct := (hO.kc (by decide) (vls_at ht)).c
                rw [hswt] at hct
                have hSS : (fun (w2 : World) => w2.cell? ⟨pf, 0, none⟩ = some (fv) ∧ w2.cell? ⟨pa, 0, none⟩ = some (.slice (some ⟨g, 0, none⟩) n cap) ∧ w2.cell? ⟨pt, 0, none⟩ = some (.int .i64 (t : Int)) ∧ w2.cell? ⟨g, 0 + t, none⟩ = some (.slice (some ⟨bs k, 0, none⟩) m (rc k))) _ := And.intro hkf.c (And.intro hka.c (And.intro hbt.at hct))
                refine WL_nil ⟨hSS, ?_⟩
                refine b_v (i := 9) rfl (by kernel_rfl) hF (fun w2 hx => v_ixS sl23 rfl rfl (by omega) (by omega)) rfl hSS ?_; clear hF a; intro a hF
                refine b_e (i := 10) (by kernel_rfl) rfl ?_
                have hR0 := hW.row t ht
                have hR0s := hW.ge ht
                rw [hswt] at hR0 hR0s
                refine s_set (D := FDx) (B := B) hF on3 rfl (by rw [toNat_c, zints_length, trow_length]; omega) rfl rfl hR0 (by decide) hS.inv ?_; intro w' hm hI' ho'
                replace hf := hf.mb hm
                replace hkf := hkf.mb hm ((hswt ▸ hW.ne ht hKpf : some (bs k) ≠ some pf))
                replace hka := hka.mb hm ((hswt ▸ hW.ne ht hKpa : some (bs k) ≠ some pa))
                replace hbt := hbt.mb hm ((hswt ▸ hW.ne ht hKpt : some (bs k) ≠ some pt))
                replace hO := hO.mb hm (hO.ne_type hR0 (by decide))
                replace hW := hW.set (g := hp.fld.sclF t (hp.fld.inv (f1 k c)) (j + 1) (fun i j => f1 (Fld.sw t k i) j)) ht (by rw [hswt]; exact hm) (by rw [hswt]; exact ho'.cast (by rw [toNat_c, Nat.zero_add, zints_set, trow_set (g := hp.fld.sclF t (hp.fld.inv (f1 k c)) (j + 1) (fun i j => f1 (Fld.sw t k i) j))]; intro l hl; exact Fld.sclF_at _ l)) (fun a ha hai l hl => by unfold Fld.sclF; rw [if_neg (by omega), if_neg (by omega)])
                replace hbc := hbc.mb hm ((hswt ▸ hW.ne ht hKpc : some (bs k) ≠ some pc))
                replace hS := hS.mb hm (fun k e => ⟨by cases e; exact hR0s.1, hR0.isrow k e⟩)
                replace hR0 := ho'
                clear hm hI' ho'
                clear hR0 hR0s hct
                clear hSS
                replace hct := (hO.kc (by decide) (vls_at ht)).c
                rw [hswt] at hct
                have hSS : (fun (w2 : World) => w2.cell? ⟨pf, 0, none⟩ = some (fv) ∧ w2.cell? ⟨pa, 0, none⟩ = some (.slice (some ⟨g, 0, none⟩) n cap) ∧ w2.cell? ⟨pt, 0, none⟩ = some (.int .i64 (t : Int)) ∧ w2.cell? ⟨g, 0 + t, none⟩ = some (.slice (some ⟨bs k, 0, none⟩) m (rc k))) _ := And.intro hkf.c (And.intro hka.c (And.intro hbt.at hct))
                refine WL_nil ⟨hSS, ?_⟩
                refine b_done (by kernel_rfl) (hK _ _ ?_)
                clear hK K
                replace hF := hF.sub _ (c_ 3 rfl (c_ 4 rfl (c_ 7 rfl (c_ 8 rfl (c_ 18 rfl (c_ 19 rfl (c_ 9 rfl (c_ 11 rfl (c_ 65 rfl (c_ 66 rfl (c_ 67 rfl (n_))))))))))))
                refine W_reg rfl (fun K hK => ?_)
                refine sv hF (v_addI rfl rfl (by omega)) rfl ?_; clear hF a; intro a hF
                refine sv hF (v_move rfl) rfl ?_; clear hF a; intro a hF
                refine WL_nil (hK _ _ ?_)
                clear hK K
                exact ⟨q2 - 1, by omega, j + 1, hF.sub _ (c_ 3 rfl (c_ 4 rfl (c_ 7 rfl (c_ 8 rfl (c_ 18 rfl (c_ 19 rfl (c_ 9 rfl (c_ 11 rfl (c_ 65 rfl (c_ 66 rfl (c_ 67 rfl (n_)))))))))))), hS, hf, hkf, hka, hbt, hbc, hO, hW, by omega, by omega⟩
              · skip
                try simp only [decide_eq_true_eq, decide_eq_false_iff_not, Bool.not_eq_true', Bool.not_eq_false', Bool.not_true, Bool.not_false] at hc4
                have hjm : j = m := by omega
                rw [hjm] at hW
                refine W_exit rfl ?_
                refine W_seq ?_
                refine W_sr rfl (fun K hK => ?_)
                refine sv hF (v_load sc30 rfl (hka.c)) rfl ?_; clear hF a; intro a hF
                refine sv hF (v_lenS rfl sl30 rfl) rfl ?_; clear hF a; intro a hF
                refine sv hF (v_move rfl) rfl ?_; clear hF a; intro a hF
                refine WL_nil (hK _ _ ?_)
                clear hK K
                replace hF := hF.sub _ (c_ 85 rfl (c_ 84 rfl (c_ 83 rfl (c_ 3 rfl (c_ 4 rfl (c_ 7 rfl (c_ 8 rfl (c_ 18 rfl (c_ 19 rfl (c_ 9 rfl (c_ 11 rfl (c_ 65 rfl (c_ 66 rfl (c_ 67 rfl (n_)))))))))))))))
                refine W_block ?_
                refine W_loop (fun q3 a w4 => ∃ (i : Nat), Fr 102 [(3, .pointer (some ⟨pf, 0, none⟩)), (4, .pointer (some ⟨pa, 0, none⟩)), (7, .pointer (some ⟨pt, 0, none⟩)), (8, .func (.func 55) ([] : List Value).toArray ([.pointer (some ⟨pf, 0, none⟩), .pointer (some ⟨pa, 0, none⟩), .pointer (some ⟨pt, 0, none⟩)] : List Value).toArray), (18, .int .i64 (cols : Int)), (19, .int .i64 (c : Int)), (9, .pointer (some ⟨pc, 0, none⟩)), (83, .slice (some ⟨g, 0, none⟩) n cap), (84, .int .i64 (n : Int)), (85, .int .i64 (i : Int))] a ∧ (StZ FDx B (fun k => N ≤ k) w w4) ∧ (Fo FDx B w4 fv (some (wb, p))) ∧ (KC FDx B w4 ⟨pf, 0, none⟩ (fv)) ∧ (KC FDx B w4 ⟨pa, 0, none⟩ (.slice (some ⟨g, 0, none⟩) n cap)) ∧ (Box FDx B pt w4 pt 3 (.int .i64 (t : Int))) ∧ (Box FDx B pc w4 pc 3 (.int .i64 (c : Int))) ∧ (Gam.Own FDx B N w4 23 (.slice (some ⟨g, 0, none⟩) n cap) (some g) (vls n m (fun i => bs (Fld.sw t k i)) (fun i => rc (Fld.sw t k i)))) ∧ (Wr FDx B N KM w4 n m (fun i => bs (Fld.sw t k i)) (fun i => rc (Fld.sw t k i)) (hp.fld.cleF t c i (hp.fld.sclF t (hp.fld.inv (f1 k c)) m (fun i j => f1 (Fld.sw t k i) j)))) ∧ (i ≤ n) ∧ (q3 + i = n)) (n) ?_ ?_
                · skip
                  exact ⟨0, hF.sub _ (c_ 3 rfl (c_ 4 rfl (c_ 7 rfl (c_ 8 rfl (c_ 18 rfl (c_ 19 rfl (c_ 9 rfl (c_ 83 rfl (c_ 84 rfl (c_ 85 rfl (n_))))))))))), hS, hf, hkf, hka, hbt, hbc, hO, hW.congr (fun a _ l _ => by unfold Fld.cleF; rw [if_neg (by omega)]), by omega, by omega⟩
                · skip
                  clear hF
                  clear hS hf hkf hka hbt hbc hO hW
                  rintro q3 a w4 ⟨i, hF, hS, hf, hkf, hka, hbt, hbc, hO, hW, hi, hq3⟩
                  refine W_sr rfl (fun K hK => ?_)
                  refine sv hF (v_lss rfl rfl) rfl ?_; clear hF a; intro a hF
                  refine WL_nil (hK _ _ ?_)
                  clear hK K
                  refine W_seq ?_
                  refine W_if hF rfl (fun hc5 => ?_) (fun hc5 => ?_)
                  · skip
                    try simp only [decide_eq_true_eq, decide_eq_false_iff_not, Bool.not_eq_true', Bool.not_eq_false', Bool.not_true, Bool.not_false] at hc5
                    have hlt : i < n := by omega
                    refine W_skip ?_
                    refine W_seq ?_
                    refine W_block ?_
                    refine W_sr rfl (fun K hK => ?_)
                    refine sv hF (v_move rfl) rfl ?_; clear hF a; intro a hF
                    refine sv hF (v_ixS sl30 rfl rfl (by omega) (by omega)) rfl ?_; clear hF a; intro a hF
                    refine sv hF (v_load sc23 rfl (by rw [toNat_c]; exact (hO.kc (by decide) (vls_at hlt)).c)) rfl ?_; clear hF a; intro a hF
                    refine sv hF (v_assign rfl) rfl ?_; clear hF a; intro a hF
                    refine sv hF (v_assign rfl) rfl ?_; clear hF a; intro a hF
                    refine WL_nil (hK _ _ ?_)
                    clear hK K
                    refine W_sr rfl (fun K hK => ?_)
                    refine sv hF (v_move rfl) rfl ?_; clear hF a; intro a hF
                    refine sv hF (v_load sc3 rfl (hbt.at)) rfl ?_; clear hF a; intro a hF
                    refine sv hF (v_neq rfl rfl) rfl ?_; clear hF a; intro a hF
                    refine WL_nil (hK _ _ ?_)
                    clear hK K
                    refine W_if hF rfl (fun hc6 => ?_) (fun hc6 => ?_)
                    · skip
                      try simp only [decide_eq_true_eq, decide_eq_false_iff_not, Bool.not_eq_true', Bool.not_eq_false', Bool.not_true, Bool.not_false] at hc6
                      have hbd4 : hp.fld.Bd (hp.fld.cleF t c i (hp.fld.sclF t (hp.fld.inv (f1 k c)) m (fun i j => f1 (Fld.sw t k i) j))) := hp.fld.cleF_bd (hp.fld.sclF_bd (fun a b => hb1 _ b))
                      have hit : i ≠ t := by omega
                      refine W_reg rfl (fun K hK => ?_)
                      refine sv hF (v_move rfl) rfl ?_; clear hF a; intro a hF
                      refine sv hF (v_move rfl) rfl ?_; clear hF a; intro a hF
                      refine sv hF (v_load sc3 rfl (hbc.at)) rfl ?_; clear hF a; intro a hF
                      refine sc hF rfl rfl rfl en55 rfl (clear_ok B N KM wb p hp fv pf pa pt g cap n m (fun i => bs (Fld.sw t k i)) (fun i => rc (Fld.sw t k i)) (hp.fld.cleF t c i (hp.fld.sclF t (hp.fld.inv (f1 k c)) m (fun i j => f1 (Fld.sw t k i) j))) i t c _ hS.inv hf hkf hka hbt.kc ⟨hKpf, hKpa, hKpt⟩ hO hW hbd4 hlt ht hit hcl hnm) ?_; clear hF a; intro v w' a hv hF
                      obtain ⟨-, hO', hW', hz⟩ := hv
                      have hni := hW.ge hlt
                      replace hkf := hkf.stz hz (fun e => hW.ne hlt hKpf (congrArg some e.symm))
                      replace hka := hka.stz hz (fun e => hW.ne hlt hKpa (congrArg some e.symm))
                      replace hbt := hbt.stz hz (fun e => hW.ne hlt hKpt (congrArg some e.symm))
                      replace hbc := hbc.stz hz (fun e => hW.ne hlt hKpc (congrArg some e.symm))
                      replace hf := hf.stz hz
                      replace hS := hS.transZ (hz.weak (fun k e => by subst e; exact hni.1))
                      replace hO := hO'
                      replace hW := hW'.congr (fun a ha l hl => hp.fld.cleF_step (m := m) hcl (by omega) a l hl)
                      clear hO' hW' hz hni
                      refine WL_nil (hK _ _ ?_)
                      clear hK K
                      replace hF := hF.sub _ (c_ 95 rfl (c_ 94 rfl (c_ 93 rfl (c_ 92 rfl (c_ 91 rfl (c_ 90 rfl (c_ 16 rfl (c_ 15 rfl (c_ 89 rfl (c_ 88 rfl (c_ 87 rfl (c_ 86 rfl (c_ 3 rfl (c_ 4 rfl (c_ 7 rfl (c_ 8 rfl (c_ 18 rfl (c_ 19 rfl (c_ 9 rfl (c_ 83 rfl (c_ 84 rfl (c_ 85 rfl (n_)))))))))))))))))))))))
                      refine W_reg rfl (fun K hK => ?_)
                      refine sv hF (v_addI rfl rfl (by omega)) rfl ?_; clear hF a; intro a hF
                      refine sv hF (v_move rfl) rfl ?_; clear hF a; intro a hF
                      refine WL_nil (hK _ _ ?_)
                      clear hK K
                      exact ⟨q3 - 1, by omega, i + 1, hF.sub _ (c_ 3 rfl (c_ 4 rfl (c_ 7 rfl (c_ 8 rfl (c_ 18 rfl (c_ 19 rfl (c_ 9 rfl (c_ 83 rfl (c_ 84 rfl (c_ 85 rfl (n_))))))))))), hS, hf, hkf, hka, hbt, hbc, hO, hW, by omega, by omega⟩
                    · skip
                      try simp only [decide_eq_true_eq, decide_eq_false_iff_not, Bool.not_eq_true', Bool.not_eq_false', Bool.not_true, Bool.not_false] at hc6
                      obtain rfl : i = t := by omega
                      replace hW := hW.congr (fun a _ l _ => hp.fld.cleF_skip a l)
                      refine W_skip ?_
                      refine W_reg rfl (fun K hK => ?_)
                      refine sv hF (v_addI rfl rfl (by omega)) rfl ?_; clear hF a; intro a hF
                      refine sv hF (v_move rfl) rfl ?_; clear hF a; intro a hF
                      refine WL_nil (hK _ _ ?_)
                      clear hK K
                      exact ⟨q3 - 1, by omega, i + 1, hF.sub _ (c_ 3 rfl (c_ 4 rfl (c_ 7 rfl (c_ 8 rfl (c_ 18 rfl (c_ 19 rfl (c_ 9 rfl (c_ 83 rfl (c_ 84 rfl (c_ 85 rfl (n_))))))))))), hS, hf, hkf, hka, hbt, hbc, hO, hW, by omega, by omega⟩
                  · skip
                    try simp only [decide_eq_true_eq, decide_eq_false_iff_not, Bool.not_eq_true', Bool.not_eq_false', Bool.not_true, Bool.not_false] at hc5
                    obtain rfl : i = n := by omega
                    have hrd := hp.fld.red_some hf1.symm ht1.symm hpk
                    have hrd2 : (hp.fld.red i f (c + 1)).2 = t + 1 := by rw [hrd]
                    replace hW := hW.congr (g := (hp.fld.red i f (c + 1)).1) (fun a ha l hl => by rw [hrd]; exact hp.fld.op_eq hcl a ha l hl)
                    refine W_exit rfl ?_
                    refine W_reg rfl (fun K hK => ?_)
                    refine sv hF (v_load sc3 rfl (hbt.at)) rfl ?_; clear hF a; intro a hF
                    refine sv hF (v_addI rfl rfl (by omega)) rfl ?_; clear hF a; intro a hF
                    refine s_stb (D := FDx) (B := B) hF on3 rfl rfl (rfl) hbt hS.inv ?_; intro w' hm hI' hbx'
                    replace hf := hf.mb hm
                    replace hkf := hkf.mb hm (by simp; omega)
                    replace hka := hka.mb hm (by simp; omega)
                    replace hO := hO.mb hm (fun k e e2 => by cases e; cases e2; exact absurd hgK (by omega))
                    replace hW := hW.mbx hm (fun k e => by cases e; omega)
                    replace hS := hS.mb hm (fun k h => by cases h; exact ⟨by omega, _, _, _, hbt.blk⟩)
                    replace hbt := hbx'
                    clear hm hI' hbx'
                    rw [show ((t : Int) + 1) = (((hp.fld.red i f (c + 1)).2 : Nat) : Int) by rw [hrd2]; omega] at hbt
                    clear hbc
                    refine WL_nil (hK _ _ ?_)
                    clear hK K
                    refine W_reg rfl (fun K hK => ?_)
                    refine sv hF (v_addI rfl rfl (by omega)) rfl ?_; clear hF a; intro a hF
                    refine sv hF (v_move rfl) rfl ?_; clear hF a; intro a hF
                    refine WL_nil (hK _ _ ?_)
                    clear hK K
                    exact ⟨q - 1, by omega, c + 1, _, _, hF.sub _ (c_ 3 rfl (c_ 4 rfl (c_ 7 rfl (c_ 8 rfl (c_ 18 rfl (c_ 19 rfl (n_))))))), hS, hf, hkf, hka, hbt, hO, hW, by omega, by omega⟩
    · skip
      try simp only [decide_eq_true_eq, decide_eq_false_iff_not, Bool.not_eq_true', Bool.not_eq_false', Bool.not_true, Bool.not_false] at hc1
      refine W_exit rfl ?_
      refine W_sr rfl (fun K hK => ?_)
      refine sv hF (v_load sc3 rfl (by first | assumption | (rw [toNat_c]; assumption) | exact KC.c (by assumption) | (rw [toNat_c]; exact KC.c (by assumption)) | exact Box.at (by assumption))) rfl ?_; clear hF a; intro a hF
      refine sv hF (v_assign rfl) rfl ?_; clear hF a; intro a hF
      refine WL_nil (hK _ _ ?_)
      clear hK K
      replace hF := hF.sub _ (c_ 6 rfl (c_ 101 rfl (c_ 3 rfl (c_ 4 rfl (c_ 7 rfl (c_ 8 rfl (c_ 18 rfl (c_ 19 rfl (n_)))))))))
      refine W_ret ?_
      refine ⟨_, _, hF, rfl, ?_⟩
      obtain rfl : c = cols := by omega
      exact ⟨rfl, ⟨bs, rc, hO, by rw [← hKM]; exact hW⟩, hS⟩

end Go.Proofs.YtcnlooajjnghaaaGreat
