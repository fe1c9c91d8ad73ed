/- Texts of the claim JvanTells (part 7), put together in the order of their imports. -/
import Derived.Test.YtaeljbdpjiciaaaKJvanTells6
/- The walk of package invert: reduce. -/
set_option linter.unusedVariables false
set_option linter.unusedSimpArgs false
namespace Go.Proofs.Ytaeljbdpjiciaaa
open Go Go.Gam


namespace FxFInvC
theorem en29 : Ent Try.prog 29 := ent Try.func29 (by kernel_rfl) (by kernel_rfl)
theorem en46 : Ent Try.prog 46 := ent Try.func46 (by kernel_rfl) (by kernel_rfl)
theorem en91 : Ent Try.prog 91 := ent Try.func91 (by kernel_rfl) (by kernel_rfl)
theorem en92 : Ent Try.prog 92 := ent Try.func92 (by kernel_rfl) (by kernel_rfl)
theorem hmix : Try.prog.follows .mixedOrders = true := by kernel_rfl
theorem on3 : Gam.One Try.prog 3 := by unfold Gam.One; kernel_rfl
theorem on37 : Gam.One Try.prog 37 := by unfold Gam.One; kernel_rfl
theorem sc23 : Scalar Try.prog 23 := ⟨_, Try.underlying23, by simp, by simp⟩
theorem sc28 : Scalar Try.prog 28 := ⟨_, Try.underlying28, by simp, by simp⟩
theorem sc3 : Scalar Try.prog 3 := ⟨_, Try.underlying3, by simp, by simp⟩
theorem sc37 : Scalar Try.prog 37 := ⟨_, Try.underlying37, by simp, by simp⟩
theorem sl28 : Sl Try.prog 28 37 (.slice none 0 0) 24 := sl_of Try.underlying28 rfl (by kernel_rfl)
theorem sl37 : Sl Try.prog 37 3 (.int .i64 0) 8 := sl_of Try.underlying37 rfl (by kernel_rfl)
theorem zv3 : Zv Try.prog 3 (.int .i64 0) := zv_of rfl (by kernel_rfl)
end FxFInvC
open FxFInvC

set_option maxRecDepth 100000 in
set_option maxHeartbeats 1000000 in
theorem reduce_ok (B N wb p : Nat) (hp : Prm wb p) (fv : Value) (g cap n m cols : Nat) (bs rc : Nat → Nat) (f : Tb) (w : World) (hI : Inv FDx B w) (hf : Fo FDx B w fv (some (wb, p))) (hO : Gam.Own FDx B N w 37 (.slice (some ⟨g, 0, none⟩) n cap) (some g) (vls n m bs rc)) (hW : Wr FDx B N w.heap.size w n m bs rc f) (hN : N ≤ w.heap.size) (hfb : hp.fld.Bd f) (hcm : cols ≤ m) (hnm : n ≤ 40 ∧ m ≤ 40) : Ret Try.prog 62 [fv, .slice (some ⟨g, 0, none⟩) n cap, .int .i64 (cols : Int)] w fun v w' => v = .int .i64 ((hp.fld.rk n f cols : Nat) : Int) ∧ (∃ bs rc, Gam.Own FDx B N w' 37 (.slice (some ⟨g, 0, none⟩) n cap) (some g) (vls n m bs rc) ∧ Wr FDx B N w.heap.size w' n m bs rc (hp.fld.red n f cols).1) ∧ StZ FDx B (fun k => N ≤ k) w w' := by
 refine enter 102 [(0, fv), (1, .slice (some ⟨g, 0, none⟩) n cap), (2, .int .i64 (cols : Int))] 6 Try.func62 rfl rfl rfl rfl rfl ?_; intro a hF
 have hS := StZ.refl (Z := fun k => N ≤ k) hI
 have hfw := hp.fld_w
 have h16 : 2 ^ wb ≤ 65536 := by rcases hp.w with h | h <;> rw [h] <;> decide
 obtain ⟨KM, hKM⟩ : ∃ k, k = w.heap.size := ⟨_, rfl⟩
 rw [← hKM] at hW
 have hgK : g < KM := by rw [hKM]; exact (hO.lt _ rfl).2
 refine W_sr rfl (fun K hK => ?_)
 obtain ⟨pf, hpf⟩ : ∃ pf, pf = w.heap.size := ⟨_, rfl⟩
 have hKpf : KM ≤ pf := by omega
 refine s_boxN (D := FDx) (B := B) hF rfl (hf.cells1) (by decide) hS.inv rfl ?_; clear hF a; intro w' a hm hI' hbf hsz hF
 replace hf := hf.mb hm
 replace hO := hO.mb hm (fun _ _ => by simp)
 replace hW := hW.mb0 hm
 replace hS := hS.mb0 hm
 clear hm hI' hsz
 rw [← hpf] at hbf hF
 have hkf := hbf.kc
 clear hbf
 obtain ⟨pa, hpa⟩ : ∃ pf, pf = w'.heap.size := ⟨_, rfl⟩
 have hKpa : KM ≤ pa := by have := hS.ext.size; omega
 refine s_boxN (D := FDx) (B := B) hF rfl (rfl) (by decide) hS.inv rfl ?_; clear hF a; intro w' a hm hI' hba hsz hF
 replace hf := hf.mb hm
 replace hO := hO.mb hm (fun _ _ => by simp)
 replace hW := hW.mb0 hm
 replace hkf := hkf.mb hm (by simp)
 replace hS := hS.mb0 hm
 clear hm hI' hsz
 rw [← hpa] at hba hF
 have hka := hba.kc
 clear hba
 refine sv hF (v_assign rfl) rfl ?_; clear hF a; intro a hF
 refine WL_nil (hK _ _ ?_)
 clear hK K
 replace hF := hF.sub _ (c_ 6 rfl (c_ 4 rfl (c_ 3 rfl (c_ 2 rfl (n_)))))
 refine W_scope ?_
 refine W_sr rfl (fun K hK => ?_)
 obtain ⟨pt, hpt⟩ : ∃ pf, pf = w'.heap.size := ⟨_, rfl⟩
 have hKpt : KM ≤ pt := by have := hS.ext.size; omega
 have hlka := hka.2.1
 have hlkf := hkf.2.1
 have hapt : pa < pt := by rw [hpt]; exact hlka
 have hfpt : pf < pt := by rw [hpt]; exact hlkf
 have hgpf : g ≠ pf := by omega
 have hgpa : g ≠ pa := by omega
 refine s_alloc (D := FDx) (B := B) hF zv3 (by decide) hS.inv rfl ?_; clear hF a; intro w' a hm hI' hbt hsz hF
 replace hf := hf.mb hm
 replace hO := hO.mb hm (fun _ _ => by simp)
 replace hW := hW.mb0 hm
 replace hkf := hkf.mb hm (by simp)
 replace hka := hka.mb hm (by simp)
 replace hS := hS.mb0 hm
 clear hm hI' hsz
 rw [← hpt] at hbt hF
 refine s_stb (D := FDx) (B := B) hF on3 rfl rfl (rfl) hbt hS.inv ?_; intro w' hm hI' hbx'
 replace hf := hf.mb hm
 replace hO := hO.mb hm (fun k e e2 => by cases e; cases e2; exact absurd hgK (by omega))
 replace hW := hW.mbx hm (fun k e => by cases e; omega)
 replace hkf := hkf.mb hm (by simp; omega)
 replace hka := hka.mb hm (by simp; omega)
 replace hS := hS.mb hm (fun k h => by cases h; exact ⟨by omega, _, _, _, hbt.blk⟩)
 replace hbt := hbx'
 clear hm hI' hbx'
 refine WL_nil (hK _ _ ?_)
 clear hK K
 refine W_sr rfl (fun K hK => ?_)
 refine sv hF (v_mkf (cs := [.tmp 3, .tmp 4, .tmp 7]) (vs := [.pointer (some ⟨pf, 0, none⟩), .pointer (some ⟨pa, 0, none⟩), .pointer (some ⟨pt, 0, none⟩)]) rfl) rfl ?_; clear hF a; intro a hF
 refine sv hF (v_assign rfl) rfl ?_; clear hF a; intro a hF
 refine WL_nil (hK _ _ ?_)
 clear hK K
 replace hF := hF.sub _ (c_ 8 rfl (c_ 7 rfl (c_ 6 rfl (c_ 4 rfl (c_ 3 rfl (c_ 2 rfl (n_)))))))
 refine W_seq ?_
 refine W_label ?_
 refine W_seq ?_
 refine W_sr rfl (fun K hK => ?_)
 refine sv2 hF (v_move rfl) (v_move rfl) rfl rfl ?_; clear hF a; intro a hF
 refine WL_nil (hK _ _ ?_)
 clear hK K
 replace hF := hF.sub _ (c_ 19 rfl (c_ 18 rfl (c_ 8 rfl (c_ 7 rfl (c_ 6 rfl (c_ 4 rfl (c_ 3 rfl (n_))))))))
 refine W_block ?_
 refine W_loop (fun q a w1 => ∃ (c : Nat) (bs rc : Nat → Nat), Fr 102 [(3, .pointer (some ⟨pf, 0, none⟩)), (4, .pointer (some ⟨pa, 0, none⟩)), (7, .pointer (some ⟨pt, 0, none⟩)), (8, .func (.func 91) ([] : List Value).toArray ([.pointer (some ⟨pf, 0, none⟩), .pointer (some ⟨pa, 0, none⟩), .pointer (some ⟨pt, 0, none⟩)] : List Value).toArray), (18, .int .i64 (cols : Int)), (19, .int .i64 (c : Int))] a ∧ (StZ FDx B (fun k => N ≤ k) w w1) ∧ (Fo FDx B w1 fv (some (wb, p))) ∧ (KC FDx B w1 ⟨pf, 0, none⟩ (fv)) ∧ (KC FDx B w1 ⟨pa, 0, none⟩ (.slice (some ⟨g, 0, none⟩) n cap)) ∧ (Box FDx B pt w1 pt 3 (.int .i64 ((hp.fld.red n f c).2 : Int))) ∧ (Gam.Own FDx B N w1 37 (.slice (some ⟨g, 0, none⟩) n cap) (some g) (vls n m bs rc)) ∧ (Wr FDx B N KM w1 n m bs rc ((hp.fld.red n f c).1)) ∧ (c ≤ cols) ∧ (q + c = cols)) (cols) ?_ ?_
 ·
  skip
  exact ⟨0, _, _, hF.sub _ (c_ 3 rfl (c_ 4 rfl (c_ 7 rfl (c_ 8 rfl (c_ 18 rfl (c_ 19 rfl (n_))))))), hS, hf, hkf, hka, hbt, hO, hW, by omega, by omega⟩
 ·
  skip
  clear hF
  clear hS hf hkf hka hbt hO hW
  rintro q a w1 ⟨c, bs, rc, hF, hS, hf, hkf, hka, hbt, hO, hW, hc, hq⟩
  refine W_sr rfl (fun K hK => ?_)
  refine sv hF (v_lss rfl rfl) rfl ?_; clear hF a; intro a hF
  refine WL_nil (hK _ _ ?_)
  clear hK K
  refine W_seq ?_
  refine W_if hF rfl (fun hc1 => ?_) (fun hc1 => ?_)
  ·
   skip
   try simp only [dcl] at hc1
   obtain ⟨f1, hf1⟩ : ∃ x, x = (hp.fld.red n f c).1 := ⟨_, rfl⟩
   obtain ⟨t, ht1⟩ : ∃ x, x = (hp.fld.red n f c).2 := ⟨_, rfl⟩
   have hRd := hp.fld.red_ok (n := n) hfb c
   rw [← hf1, ← ht1] at hRd
   rw [← hf1] at hW
   rw [← ht1] at hbt
   have hb1 := hRd.bd
   have htn := hRd.tn
   clear hRd
   have hcl : c < m := by omega
   refine W_skip ?_
   refine W_seq ?_
   refine W_block ?_
   refine W_sr rfl (fun K hK => ?_)
   refine sv hF (v_move rfl) rfl ?_; clear hF a; intro a hF
   obtain ⟨pc, hpc⟩ : ∃ pf, pf = w1.heap.size := ⟨_, rfl⟩
   have hKpc : KM ≤ pc := by have := hS.ext.size; omega
   have hapc : pa < pc := by rw [hpc]; exact hka.2.1
   have hfpc : pf < pc := by rw [hpc]; exact hkf.2.1
   have htpc : pt < pc := by rw [hpc]; exact hbt.kc.2.1
   refine s_alloc (D := FDx) (B := B) hF zv3 (by decide) hS.inv rfl ?_; clear hF a; intro w' a hm hI' hbc hsz hF
   replace hf := hf.mb hm
   replace hkf := hkf.mb hm (by simp)
   replace hka := hka.mb hm (by simp)
   replace hbt := hbt.mb hm (by simp)
   replace hO := hO.mb hm (fun _ _ => by simp)
   replace hW := hW.mb0 hm
   replace hS := hS.mb0 hm
   clear hm hI' hsz
   rw [← hpc] at hbc hF
   refine s_stb (D := FDx) (B := B) hF on3 rfl rfl (rfl) hbc hS.inv ?_; intro w' hm hI' hbx'
   replace hf := hf.mb hm
   replace hkf := hkf.mb hm (by simp; omega)
   replace hka := hka.mb hm (by simp; omega)
   replace hbt := hbt.mb hm (by simp; omega)
   replace hO := hO.mb hm (fun k e e2 => by cases e; cases e2; exact absurd hgK (by omega))
   replace hW := hW.mbx hm (fun k e => by cases e; omega)
   replace hS := hS.mb hm (fun k h => by cases h; exact ⟨by omega, _, _, _, hbc.blk⟩)
   replace hbc := hbx'
   clear hm hI' hbx'
   refine WL_nil (hK _ _ ?_)
   clear hK K
   replace hF := hF.sub _ (c_ 9 rfl (c_ 3 rfl (c_ 4 rfl (c_ 7 rfl (c_ 8 rfl (c_ 18 rfl (c_ 19 rfl (n_))))))))
   refine W_seq ?_
   refine W_sr rfl (fun K hK => ?_)
   refine sv hF (v_load sc3 rfl (hbt.at)) rfl ?_; clear hF a; intro a hF
   refine sv hF (v_load sc28 rfl (hka.c)) rfl ?_; clear hF a; intro a hF
   refine sv hF (v_lenS rfl sl28 rfl) rfl ?_; clear hF a; intro a hF
   refine sv hF (v_eql rfl rfl) rfl ?_; clear hF a; intro a hF
   refine WL_nil (hK _ _ ?_)
   clear hK K
   replace hF := hF.sub _ (c_ 25 rfl (c_ 9 rfl (c_ 3 rfl (c_ 4 rfl (c_ 7 rfl (c_ 8 rfl (c_ 18 rfl (c_ 19 rfl (n_)))))))))
   refine W_if hF rfl (fun hc2 => ?_) (fun hc2 => ?_)
   ·
    skip
    try simp only [dcl] at hc2
    refine W_exit rfl ?_
    refine W_sr rfl (fun K hK => ?_)
    refine sv hF (v_load sc3 rfl (by first | assumption | (rw [toNat_c]; assumption) | exact KC.c (by assumption) | (rw [toNat_c]; exact KC.c (by assumption)) | exact Box.at (by assumption))) rfl ?_; clear hF a; intro a hF
    refine sv hF (v_assign rfl) rfl ?_; clear hF a; intro a hF
    refine WL_nil (hK _ _ ?_)
    clear hK K
    replace hF := hF.sub _ (c_ 6 rfl (c_ 101 rfl (c_ 3 rfl (c_ 4 rfl (c_ 7 rfl (c_ 8 rfl (c_ 18 rfl (c_ 19 rfl (n_)))))))))
    refine W_ret ?_
    refine ⟨_, _, hF, rfl, ?_⟩
    have hfull := hp.fld.red_full (n := n) (f := f) (c := c) (by rw [← ht1]; omega) (cols - c)
    rw [show c + (cols - c) = cols by omega] at hfull
    exact ⟨by unfold Fld.rk; rw [hfull, ← ht1], ⟨bs, rc, hO, by rw [← hKM, hfull, ← hf1]; exact hW⟩, hS⟩
   ·
    skip
    try simp only [dcl] at hc2
    refine W_skip ?_
    have hcapn := (hO.row (by decide)).capd
    have ht : t < n := by omega
    have hdl : ((tab n m f1).drop t).length = n - t := by rw [List.length_drop, tab_length]
    refine W_sd (m := 8) rfl hmix hS.inv (fun K hK w1 hS' hh => ?_)
    replace hf := hf.st hS'
    replace hkf := hkf.st hS'
    replace hka := hka.st hS'
    replace hbt := hbt.st hS'
    replace hO := hO.st (by decide) hS'
    replace hW := hW.st hS'
    replace hbc := hbc.st hS'
    replace hS := hS.trans hS'
    clear hS'
    clear hh
    refine a_v (i := 0) rfl (by kernel_rfl) hF (fun w2 hx => v_load sc3 rfl (hbt.kc.ld hx)) rfl ?_; clear hF a; intro a hF
    refine a_v (i := 1) rfl (by kernel_rfl) hF (fun w2 hx => v_load sc28 rfl (hka.ld hx)) rfl ?_; clear hF a; intro a hF
    refine a_v (i := 2) rfl (by kernel_rfl) hF (fun w2 hx => v_load sc3 rfl (hbt.kc.ld hx)) rfl ?_; clear hF a; intro a hF
    refine a_v (i := 3) rfl (by kernel_rfl) hF (fun w2 hx => v_slLo sl28 rfl rfl (by omega) (by omega)) rfl ?_; clear hF a; intro a hF
    rw [← hdl] at hF
    refine a_v (i := 4) rfl (by kernel_rfl) hF (fun w2 hx => v_mkf (cs := [.tmp 9]) (vs := [.pointer (some ⟨pc, 0, none⟩)]) rfl) rfl ?_; clear hF a; intro a hF
    have hcap := hO.kc (by decide) (vls_at ht)
    have hMt := (hW.mat (gb := g) hO (by decide)).from (lo := t) (b := (tab n m f1).drop t) (by rw [tab_length]; omega) rfl
    refine a_e (i := 5) rfl (by kernel_rfl) ?_
    refine sc hF rfl rfl rfl en92 rfl (IdxR_ok B _ 93 [.pointer (some ⟨pc, 0, none⟩)] (fun r => decide (r.getD c 0 ≠ 0)) _ _ _ _ hS.inv hMt (by rw [hdl]; exact Nat.le_trans (show _ ≤ 1000 by omega) (by decide)) (ent Try.func93 (by kernel_rfl) (by kernel_rfl)) (fun r hr pr cr w3 hs hrow => red2_ok B _ pc c pr cr r w3 hs.inv hrow (hbc.kc.st hs) (by rw [tab_mem hr]; exact hcl) (by omega))) ?_; clear hF a; intro v w' a hv hF
    obtain ⟨rfl, hS'⟩ := hv
    refine WL_nil ⟨hS'.ext, ?_⟩
    replace hf := hf.st hS'
    replace hkf := hkf.st hS'
    replace hka := hka.st hS'
    replace hbt := hbt.st hS'
    replace hO := hO.st (by decide) hS'
    replace hW := hW.st hS'
    replace hbc := hbc.st hS'
    replace hS := hS.trans hS'
    clear hS'
    clear hMt hcap
    have hidx := piv_idx (n := n) (f := f1) (t := t) hcl htn (p := fun r => decide (r.getD c 0 ≠ 0)) (fun r => rfl)
    have hib : -1 ≤ idxZ (fun r => decide (r.getD c 0 ≠ 0)) ((tab n m f1).drop t) ∧ idxZ (fun r => decide (r.getD c 0 ≠ 0)) ((tab n m f1).drop t) ≤ 40 := by rcases hidx with ⟨h, _⟩ | ⟨k, _, _, _, h⟩ <;> omega
    refine a_v (i := 6) rfl (by kernel_rfl) hF (fun w2 hx => v_addI rfl rfl (by omega)) rfl ?_; clear hF a; intro a hF
    refine a_v (i := 7) rfl (by kernel_rfl) hF (fun w2 hx => v_assign rfl) rfl ?_; clear hF a; intro a hF
    refine a_done (by kernel_rfl) (hK _ _ ?_)
    clear hK K
    replace hF := hF.sub _ (c_ 10 rfl (c_ 9 rfl (c_ 3 rfl (c_ 4 rfl (c_ 7 rfl (c_ 8 rfl (c_ 18 rfl (c_ 19 rfl (n_)))))))))
    refine W_seq ?_
    refine W_sr rfl (fun K hK => ?_)
    refine sv hF (v_move rfl) rfl ?_; clear hF a; intro a hF
    refine sv hF (v_load sc3 rfl (hbt.at)) rfl ?_; clear hF a; intro a hF
    refine sv hF (v_lss rfl rfl) rfl ?_; clear hF a; intro a hF
    refine WL_nil (hK _ _ ?_)
    clear hK K
    replace hF := hF.sub _ (c_ 35 rfl (c_ 10 rfl (c_ 9 rfl (c_ 3 rfl (c_ 4 rfl (c_ 7 rfl (c_ 8 rfl (c_ 18 rfl (c_ 19 rfl (n_))))))))))
    refine W_if hF rfl (fun hc3 => ?_) (fun hc3 => ?_)
    ·
     skip
     try simp only [dcl] at hc3
     have hpn : Fld.piv f1 n c t (n - t) = none := by
      rcases hidx with ⟨_, h⟩ | ⟨k, _, _, _, h⟩
      ·
       exact h
      ·
       exfalso; omega
     have hrd := hp.fld.red_none hf1.symm ht1.symm hpn
     have hrd1 : (hp.fld.red n f (c + 1)).1 = f1 := by rw [hrd]
     have hrd2 : (hp.fld.red n f (c + 1)).2 = t := by rw [hrd]
     clear hidx hib
     rw [← hrd1] at hW
     rw [← hrd2] at hbt
     clear hbc
     refine W_exit rfl ?_
     refine W_reg rfl (fun K hK => ?_)
     refine sv hF (v_addI rfl rfl (by omega)) rfl ?_; clear hF a; intro a hF
     refine sv hF (v_move rfl) rfl ?_; clear hF a; intro a hF
     refine WL_nil (hK _ _ ?_)
     clear hK K
     replace hF := hF.sub _ (c_ 19 rfl (c_ 100 rfl (c_ 3 rfl (c_ 4 rfl (c_ 7 rfl (c_ 8 rfl (c_ 18 rfl (n_))))))))
     exact ⟨q - 1, by omega, c + 1, _, _, hF.sub _ (c_ 3 rfl (c_ 4 rfl (c_ 7 rfl (c_ 8 rfl (c_ 18 rfl (c_ 19 rfl (n_))))))), hS, hf, hkf, hka, hbt, hO, hW, by omega, by omega⟩
    ·
     skip
     try simp only [dcl] at hc3
     obtain ⟨k, hpk, htk, hkn, hik⟩ : ∃ k, Fld.piv f1 n c t (n - t) = some k ∧ t ≤ k ∧ k < n ∧ idxZ (fun r => decide (r.getD c 0 ≠ 0)) ((tab n m f1).drop t) = (k : Int) - (t : Int) := by
      rcases hidx with ⟨h, _⟩ | h
      ·
       exfalso; omega
      ·
       exact h
     rw [hik, show (t : Int) + ((k : Int) - (t : Int)) = (k : Int) by omega] at hF
     clear hidx hib hik
     obtain ⟨-, -, hk0, -⟩ := Fld.piv_some hpk
     have hswt : Fld.sw t k t = k := by unfold Fld.sw; rw [if_pos rfl]
     refine W_skip ?_
     refine W_cut (fun a w1 => Fr 102 [(3, .pointer (some ⟨pf, 0, none⟩)), (4, .pointer (some ⟨pa, 0, none⟩)), (7, .pointer (some ⟨pt, 0, none⟩)), (8, .func (.func 91) ([] : List Value).toArray ([.pointer (some ⟨pf, 0, none⟩), .pointer (some ⟨pa, 0, none⟩), .pointer (some ⟨pt, 0, none⟩)] : List Value).toArray), (18, .int .i64 (cols : Int)), (19, .int .i64 (c : Int)), (9, .pointer (some ⟨pc, 0, none⟩)), (10, .int .i64 (k : Int))] a ∧ (StZ FDx B (fun k => N ≤ k) w w1) ∧ (Fo FDx B w1 fv (some (wb, p))) ∧ (KC FDx B w1 ⟨pf, 0, none⟩ (fv)) ∧ (KC FDx B w1 ⟨pa, 0, none⟩ (.slice (some ⟨g, 0, none⟩) n cap)) ∧ (Box FDx B pt w1 pt 3 (.int .i64 (t : Int))) ∧ (Box FDx B pc w1 pc 3 (.int .i64 (c : Int))) ∧ (Gam.Own FDx B N w1 37 (.slice (some ⟨g, 0, none⟩) n cap) (some g) (vls n m (fun i => bs (Fld.sw t k i)) (fun i => rc (Fld.sw t k i)))) ∧ (Wr FDx B N KM w1 n m (fun i => bs (Fld.sw t k i)) (fun i => rc (Fld.sw t k i)) (fun i j => f1 (Fld.sw t k i) j))) ?_ ?_
     ·
      skip
      refine W_dS (fun (w2 : World) => w2.cell? ⟨pa, 0, none⟩ = some (.slice (some ⟨g, 0, none⟩) n cap) ∧ w2.cell? ⟨pt, 0, none⟩ = some (.int .i64 (t : Int))) (m := 16) rfl hmix (fun K hK => ?_)
      have hS' := St.drew hS.inv
      replace hf := hf.st hS'
      replace hkf := hkf.st hS'
      replace hka := hka.st hS'
      replace hbt := hbt.st hS'
      replace hO := hO.st (by decide) hS'
      replace hW := hW.st hS'
      replace hbc := hbc.st hS'
      replace hS := hS.trans hS'
      clear hS'
      have hSS : (fun (w2 : World) => w2.cell? ⟨pa, 0, none⟩ = some (.slice (some ⟨g, 0, none⟩) n cap) ∧ w2.cell? ⟨pt, 0, none⟩ = some (.int .i64 (t : Int))) _ := And.intro hka.c hbt.at
      refine b_v (i := 0) rfl (by kernel_rfl) hF (fun w2 hx => v_load sc28 rfl (hx.1)) rfl hSS ?_; clear hF a; intro a hF
      refine b_v (i := 1) rfl (by kernel_rfl) hF (fun w2 hx => v_load sc3 rfl (hx.2)) rfl hSS ?_; clear hF a; intro a hF
      refine b_v (i := 2) rfl (by kernel_rfl) hF (fun w2 hx => v_load sc28 rfl (hx.1)) rfl hSS ?_; clear hF a; intro a hF
      refine b_v (i := 3) rfl (by kernel_rfl) hF (fun w2 hx => v_move rfl) rfl hSS ?_; clear hF a; intro a hF
      refine b_v (i := 4) rfl (by kernel_rfl) hF (fun w2 hx => v_load sc28 rfl (hx.1)) rfl hSS ?_; clear hF a; intro a hF
      refine b_v (i := 5) rfl (by kernel_rfl) hF (fun w2 hx => v_move rfl) rfl hSS ?_; clear hF a; intro a hF
      refine b_v (i := 6) rfl (by kernel_rfl) hF (fun w2 hx => v_ixS sl28 rfl rfl (by omega) (by omega)) rfl hSS ?_; clear hF a; intro a hF
      refine b_v (i := 8) rfl (by kernel_rfl) hF (fun w2 hx => v_load sc28 rfl (hx.1)) rfl hSS ?_; clear hF a; intro a hF
      refine b_v (i := 9) rfl (by kernel_rfl) hF (fun w2 hx => v_load sc3 rfl (hx.2)) rfl hSS ?_; clear hF a; intro a hF
      refine b_v (i := 10) rfl (by kernel_rfl) hF (fun w2 hx => v_ixS sl28 rfl rfl (by omega) (by omega)) rfl hSS ?_; clear hF a; intro a hF
      refine b_e2 (i := 7) (i' := 11) (by kernel_rfl) rfl rfl ?_ ?_
      ·
       skip
       refine sv hF (v_load sc37 rfl (by rw [toNat_c]; exact (hO.kc (by decide) (vls_at hkn)).c)) rfl ?_; clear hF a; intro a hF
       refine WL_nil ⟨hSS, ?_⟩
       refine b_e (i := 11) (by kernel_rfl) rfl ?_
       refine sv hF (v_load sc37 rfl (by rw [toNat_c]; exact (hO.kc (by decide) (vls_at ht)).c)) rfl ?_; clear hF a; intro a hF
       refine WL_nil ⟨hSS, ?_⟩
       refine b_v (i := 12) rfl (by kernel_rfl) hF (fun w2 hx => v_ixS sl28 rfl rfl (by omega) (by omega)) rfl hSS ?_; clear hF a; intro a hF
       refine b_e (i := 13) (by kernel_rfl) rfl ?_
       refine s_set (D := FDx) (B := B) hF on37 rfl (by rw [toNat_c, vls_length]; omega) rfl rfl hO (by decide) hS.inv ?_; intro w' hm hI' ho'
       replace hf := hf.mb hm
       replace hkf := hkf.mb hm (fun e => hgpf (Option.some.inj e))
       replace hka := hka.mb hm (fun e => hgpa (Option.some.inj e))
       replace hbt := hbt.mb hm (hbt.ne_own hO (by decide))
       replace hW := hW.mbo hm hO (by decide)
       replace hbc := hbc.mb hm (hbc.ne_own hO (by decide))
       replace hS := hS.mb hm (fun k e => ⟨(hO.lt k e).1, hO.isrow k e⟩)
       replace hO := ho'
       clear hm hI' ho'
       clear hSS
       have hSS : (fun (w2 : World) => w2.cell? ⟨pa, 0, none⟩ = some (.slice (some ⟨g, 0, none⟩) n cap) ∧ w2.cell? ⟨pt, 0, none⟩ = some (.int .i64 (t : Int))) _ := And.intro hka.c hbt.at
       refine WL_nil ⟨hSS, ?_⟩
       refine b_v (i := 14) rfl (by kernel_rfl) hF (fun w2 hx => v_ixS sl28 rfl rfl (by omega) (by omega)) rfl hSS ?_; clear hF a; intro a hF
       refine b_e (i := 15) (by kernel_rfl) rfl ?_
       refine s_set (D := FDx) (B := B) hF on37 rfl (by rw [toNat_c, List.length_set, vls_length]; omega) rfl rfl hO (by decide) hS.inv ?_; intro w' hm hI' ho'
       replace hf := hf.mb hm
       replace hkf := hkf.mb hm (fun e => hgpf (Option.some.inj e))
       replace hka := hka.mb hm (fun e => hgpa (Option.some.inj e))
       replace hbt := hbt.mb hm (hbt.ne_own hO (by decide))
       replace hW := hW.mbo hm hO (by decide)
       replace hbc := hbc.mb hm (hbc.ne_own hO (by decide))
       replace hS := hS.mb hm (fun k e => ⟨(hO.lt k e).1, hO.isrow k e⟩)
       replace hO := ho'
       clear hm hI' ho'
       clear hSS
       have hSS : (fun (w2 : World) => w2.cell? ⟨pa, 0, none⟩ = some (.slice (some ⟨g, 0, none⟩) n cap) ∧ w2.cell? ⟨pt, 0, none⟩ = some (.int .i64 (t : Int))) _ := And.intro hka.c hbt.at
       refine WL_nil ⟨hSS, ?_⟩
       refine b_done (by kernel_rfl) (hK _ _ ?_)
       clear hK K
       replace hF := hF.sub _ (c_ 10 rfl (c_ 9 rfl (c_ 3 rfl (c_ 4 rfl (c_ 7 rfl (c_ 8 rfl (c_ 18 rfl (c_ 19 rfl (n_)))))))))
       exact ⟨hF.sub _ (c_ 3 rfl (c_ 4 rfl (c_ 7 rfl (c_ 8 rfl (c_ 18 rfl (c_ 19 rfl (c_ 9 rfl (c_ 10 rfl (n_))))))))), hS, hf, hkf, hka, hbt, hbc, hO.cast (by rw [toNat_c, toNat_c, Nat.zero_add, Nat.zero_add]; exact vls_sw ht hkn), hW.sw ht hkn⟩
      ·
       skip
       refine sv hF (v_load sc37 rfl (by rw [toNat_c]; exact (hO.kc (by decide) (vls_at ht)).c)) rfl ?_; clear hF a; intro a hF
       refine WL_nil ⟨hSS, ?_⟩
       refine b_e (i := 7) (by kernel_rfl) rfl ?_
       refine sv hF (v_load sc37 rfl (by rw [toNat_c]; exact (hO.kc (by decide) (vls_at hkn)).c)) rfl ?_; clear hF a; intro a hF
       refine WL_nil ⟨hSS, ?_⟩
       refine b_v (i := 12) rfl (by kernel_rfl) hF (fun w2 hx => v_ixS sl28 rfl rfl (by omega) (by omega)) rfl hSS ?_; clear hF a; intro a hF
       refine b_e (i := 13) (by kernel_rfl) rfl ?_
       refine s_set (D := FDx) (B := B) hF on37 rfl (by rw [toNat_c, vls_length]; omega) rfl rfl hO (by decide) hS.inv ?_; intro w' hm hI' ho'
       replace hf := hf.mb hm
       replace hkf := hkf.mb hm (fun e => hgpf (Option.some.inj e))
       replace hka := hka.mb hm (fun e => hgpa (Option.some.inj e))
       replace hbt := hbt.mb hm (hbt.ne_own hO (by decide))
       replace hW := hW.mbo hm hO (by decide)
       replace hbc := hbc.mb hm (hbc.ne_own hO (by decide))
       replace hS := hS.mb hm (fun k e => ⟨(hO.lt k e).1, hO.isrow k e⟩)
       replace hO := ho'
       clear hm hI' ho'
       clear hSS
       have hSS : (fun (w2 : World) => w2.cell? ⟨pa, 0, none⟩ = some (.slice (some ⟨g, 0, none⟩) n cap) ∧ w2.cell? ⟨pt, 0, none⟩ = some (.int .i64 (t : Int))) _ := And.intro hka.c hbt.at
       refine WL_nil ⟨hSS, ?_⟩
       refine b_v (i := 14) rfl (by kernel_rfl) hF (fun w2 hx => v_ixS sl28 rfl rfl (by omega) (by omega)) rfl hSS ?_; clear hF a; intro a hF
       refine b_e (i := 15) (by kernel_rfl) rfl ?_
       refine s_set (D := FDx) (B := B) hF on37 rfl (by rw [toNat_c, List.length_set, vls_length]; omega) rfl rfl hO (by decide) hS.inv ?_; intro w' hm hI' ho'
       replace hf := hf.mb hm
       replace hkf := hkf.mb hm (fun e => hgpf (Option.some.inj e))
       replace hka := hka.mb hm (fun e => hgpa (Option.some.inj e))
       replace hbt := hbt.mb hm (hbt.ne_own hO (by decide))
       replace hW := hW.mbo hm hO (by decide)
       replace hbc := hbc.mb hm (hbc.ne_own hO (by decide))
       replace hS := hS.mb hm (fun k e => ⟨(hO.lt k e).1, hO.isrow k e⟩)
       replace hO := ho'
       clear hm hI' ho'
       clear hSS
       have hSS : (fun (w2 : World) => w2.cell? ⟨pa, 0, none⟩ = some (.slice (some ⟨g, 0, none⟩) n cap) ∧ w2.cell? ⟨pt, 0, none⟩ = some (.int .i64 (t : Int))) _ := And.intro hka.c hbt.at
       refine WL_nil ⟨hSS, ?_⟩
       refine b_done (by kernel_rfl) (hK _ _ ?_)
       clear hK K
       replace hF := hF.sub _ (c_ 10 rfl (c_ 9 rfl (c_ 3 rfl (c_ 4 rfl (c_ 7 rfl (c_ 8 rfl (c_ 18 rfl (c_ 19 rfl (n_)))))))))
       exact ⟨hF.sub _ (c_ 3 rfl (c_ 4 rfl (c_ 7 rfl (c_ 8 rfl (c_ 18 rfl (c_ 19 rfl (c_ 9 rfl (c_ 10 rfl (n_))))))))), hS, hf, hkf, hka, hbt, hbc, hO.cast (by rw [toNat_c, toNat_c, Nat.zero_add, Nat.zero_add]; exact vls_sw ht hkn), hW.sw ht hkn⟩
     ·
      skip
      clear hF
      clear hS hf hkf hka hbt hbc hO hW
      rintro a w1 ⟨hF, hS, hf, hkf, hka, hbt, hbc, hO, hW⟩
      refine W_sd (m := 14) rfl hmix hS.inv (fun K hK w1 hS' hh => ?_)
      replace hf := hf.st hS'
      replace hkf := hkf.st hS'
      replace hka := hka.st hS'
      replace hbt := hbt.st hS'
      replace hO := hO.st (by decide) hS'
      replace hW := hW.st hS'
      replace hbc := hbc.st hS'
      replace hS := hS.trans hS'
      clear hS'
      clear hh
      refine a_v (i := 0) rfl (by kernel_rfl) hF (fun w2 hx => v_load sc23 rfl (hkf.ld hx)) rfl ?_; clear hF a; intro a hF
      refine a_v (i := 1) rfl (by kernel_rfl) hF (fun w2 hx => v_load sc28 rfl (hka.ld hx)) rfl ?_; clear hF a; intro a hF
      refine a_v (i := 2) rfl (by kernel_rfl) hF (fun w2 hx => v_load sc3 rfl (hbt.kc.ld hx)) rfl ?_; clear hF a; intro a hF
      refine a_v (i := 3) rfl (by kernel_rfl) hF (fun w2 hx => v_ixS sl28 rfl rfl (by omega) (by omega)) rfl ?_; clear hF a; intro a hF
      refine a_v (i := 4) rfl (by kernel_rfl) hF (fun w2 hx => v_load sc37 rfl (by rw [toNat_c]; exact (hO.kc (by decide) (vls_at ht)).ld hx)) rfl ?_; clear hF a; intro a hF
      rw [hswt] at hF
      refine a_v (i := 5) rfl (by kernel_rfl) hF (fun w2 hx => v_load sc3 rfl (hbc.kc.ld hx)) rfl ?_; clear hF a; intro a hF
      refine a_v (i := 6) rfl (by kernel_rfl) hF (fun w2 hx => v_ixS sl37 rfl rfl (by omega) (by omega)) rfl ?_; clear hF a; intro a hF
      have hrk := hW.rd ht hcl
      rw [hswt] at hrk
      refine a_v (i := 7) rfl (by kernel_rfl) hF (fun w2 hx => v_load sc3 rfl (by rw [toNat_c]; exact hrk.ld hx)) rfl ?_; clear hF a; intro a hF
      refine a_e (i := 8) rfl (by kernel_rfl) ?_
      refine sc hF rfl rfl rfl en46 rfl (Inv_gf B (some (wb, p)) fv ((f1 k c : Nat) : Int) _ hS.inv hf) ?_; clear hF a; intro v w' a hv hF
      obtain ⟨rfl, hS'⟩ := hv
      refine WL_nil ⟨hS'.ext, ?_⟩
      replace hf := hf.st hS'
      replace hkf := hkf.st hS'
      replace hka := hka.st hS'
      replace hbt := hbt.st hS'
      replace hO := hO.st (by decide) hS'
      replace hW := hW.st hS'
      replace hbc := hbc.st hS'
      replace hS := hS.trans hS'
      clear hS'
      clear hrk
      have hkb := hb1 k c
      rw [hfw] at hkb
      rw [ginv_fld hp hkb hk0] at hF
      refine a_v (i := 9) rfl (by kernel_rfl) hF (fun w2 hx => v_move rfl) rfl ?_; clear hF a; intro a hF
      refine a_v (i := 10) rfl (by kernel_rfl) hF (fun w2 hx => v_ext rfl rfl) rfl ?_; clear hF a; intro a hF
      refine a_v (i := 11) rfl (by kernel_rfl) hF (fun w2 hx => v_ext rfl rfl) rfl ?_; clear hF a; intro a hF
      refine a_v (i := 12) rfl (by kernel_rfl) hF (fun w2 hx => v_assign rfl) rfl ?_; clear hF a; intro a hF
      refine a_v (i := 13) rfl (by kernel_rfl) hF (fun w2 hx => v_assign rfl) rfl ?_; clear hF a; intro a hF
      refine a_done (by kernel_rfl) (hK _ _ ?_)
      clear hK K
      replace hF := hF.sub _ (c_ 11 rfl (c_ 3 rfl (c_ 4 rfl (c_ 7 rfl (c_ 8 rfl (c_ 18 rfl (c_ 19 rfl (c_ 9 rfl (n_)))))))))
      refine W_seq ?_
      refine W_sr rfl (fun K hK => ?_)
      refine sv hF (v_load sc28 rfl (hka.c)) rfl ?_; clear hF a; intro a hF
      refine sv hF (v_load sc3 rfl (hbt.at)) rfl ?_; clear hF a; intro a hF
      refine sv hF (v_ixS sl28 rfl rfl (by omega) (by omega)) rfl ?_; clear hF a; intro a hF
      refine sv hF (v_load sc37 rfl (by rw [toNat_c]; exact (hO.kc (by decide) (vls_at ht)).c)) rfl ?_; clear hF a; intro a hF
      rw [hswt] at hF
      refine sv hF (v_lenS rfl sl37 rfl) rfl ?_; clear hF a; intro a hF
      refine sv hF (v_move rfl) rfl ?_; clear hF a; intro a hF
      refine WL_nil (hK _ _ ?_)
      clear hK K
      replace hF := hF.sub _ (c_ 67 rfl (c_ 66 rfl (c_ 65 rfl (c_ 11 rfl (c_ 3 rfl (c_ 4 rfl (c_ 7 rfl (c_ 8 rfl (c_ 18 rfl (c_ 19 rfl (c_ 9 rfl (n_))))))))))))
      refine W_block ?_
      refine W_loop (fun q2 a w3 => ∃ (j : Nat), Fr 102 [(3, .pointer (some ⟨pf, 0, none⟩)), (4, .pointer (some ⟨pa, 0, none⟩)), (7, .pointer (some ⟨pt, 0, none⟩)), (8, .func (.func 91) ([] : List Value).toArray ([.pointer (some ⟨pf, 0, none⟩), .pointer (some ⟨pa, 0, none⟩), .pointer (some ⟨pt, 0, none⟩)] : List Value).toArray), (18, .int .i64 (cols : Int)), (19, .int .i64 (c : Int)), (9, .pointer (some ⟨pc, 0, none⟩)), (11, .int .i64 ((hp.fld.inv (f1 k c) : Nat) : Int)), (65, .slice (some ⟨bs k, 0, none⟩) m (rc k)), (66, .int .i64 (m : Int)), (67, .int .i64 (j : Int))] a ∧ (StZ FDx B (fun k => N ≤ k) w w3) ∧ (Fo FDx B w3 fv (some (wb, p))) ∧ (KC FDx B w3 ⟨pf, 0, none⟩ (fv)) ∧ (KC FDx B w3 ⟨pa, 0, none⟩ (.slice (some ⟨g, 0, none⟩) n cap)) ∧ (Box FDx B pt w3 pt 3 (.int .i64 (t : Int))) ∧ (Box FDx B pc w3 pc 3 (.int .i64 (c : Int))) ∧ (Gam.Own FDx B N w3 37 (.slice (some ⟨g, 0, none⟩) n cap) (some g) (vls n m (fun i => bs (Fld.sw t k i)) (fun i => rc (Fld.sw t k i)))) ∧ (Wr FDx B N KM w3 n m (fun i => bs (Fld.sw t k i)) (fun i => rc (Fld.sw t k i)) (hp.fld.sclF t (hp.fld.inv (f1 k c)) j (fun i j => f1 (Fld.sw t k i) j))) ∧ (j ≤ m) ∧ (q2 + j = m)) (m) ?_ ?_
      ·
       skip
       exact ⟨0, hF.sub _ (c_ 3 rfl (c_ 4 rfl (c_ 7 rfl (c_ 8 rfl (c_ 18 rfl (c_ 19 rfl (c_ 9 rfl (c_ 11 rfl (c_ 65 rfl (c_ 66 rfl (c_ 67 rfl (n_)))))))))))), hS, hf, hkf, hka, hbt, hbc, hO, hW.congr (fun a _ l _ => by unfold Fld.sclF; rw [if_neg (by omega)]), by omega, by omega⟩
      ·
       skip
       clear hF
       clear hS hf hkf hka hbt hbc hO hW
       rintro q2 a w3 ⟨j, hF, hS, hf, hkf, hka, hbt, hbc, hO, hW, hj, hq2⟩
       refine W_sr rfl (fun K hK => ?_)
       refine sv hF (v_lss rfl rfl) rfl ?_; clear hF a; intro a hF
       refine WL_nil (hK _ _ ?_)
       clear hK K
       refine W_seq ?_
       refine W_if hF rfl (fun hc4 => ?_) (fun hc4 => ?_)
       ·
        skip
        try simp only [dcl] at hc4
        have hlt : j < m := by omega
        have hrk := hW.rd ht hlt
        rw [hswt] at hrk
        have hbs := hp.fld.sclF_bd (t := t) (s := hp.fld.inv (f1 k c)) (J := j) (f := fun i j => f1 (Fld.sw t k i) j) (fun a b => hb1 _ b)
        have hbj := hbs t j
        have hbi := hp.fld.inv_lt (f1 k c)
        have hbm := hp.fld.lt (((hp.fld.sclF t (hp.fld.inv (f1 k c)) j (fun i j => f1 (Fld.sw t k i) j)) t j)) (hp.fld.inv (f1 k c))
        rw [hfw] at hbj hbi hbm
        refine W_skip ?_
        refine W_seq ?_
        refine W_block ?_
        refine W_sr rfl (fun K hK => ?_)
        refine sv hF (v_move rfl) rfl ?_; clear hF a; intro a hF
        refine sv hF (v_ixS sl37 rfl rfl (by omega) (by omega)) rfl ?_; clear hF a; intro a hF
        refine sv hF (v_load sc3 rfl (by rw [toNat_c]; exact hrk.c)) rfl ?_; clear hF a; intro a hF
        refine sv2 hF (v_assign rfl) (v_assign rfl) rfl rfl ?_; clear hF a; intro a hF
        refine WL_nil (hK _ _ ?_)
        clear hK K
        replace hF := hF.sub _ (c_ 14 rfl (c_ 13 rfl (c_ 3 rfl (c_ 4 rfl (c_ 7 rfl (c_ 8 rfl (c_ 18 rfl (c_ 19 rfl (c_ 9 rfl (c_ 11 rfl (c_ 65 rfl (c_ 66 rfl (c_ 67 rfl (n_))))))))))))))
        clear hrk
        have hct := (hO.kc (by decide) (vls_at ht)).c
        rw [hswt] at hct
        refine W_dS (fun (w2 : World) => w2.cell? ⟨pf, 0, none⟩ = some (fv) ∧ w2.cell? ⟨pa, 0, none⟩ = some (.slice (some ⟨g, 0, none⟩) n cap) ∧ w2.cell? ⟨pt, 0, none⟩ = some (.int .i64 (t : Int)) ∧ w2.cell? ⟨g, 0 + t, none⟩ = some (.slice (some ⟨bs k, 0, none⟩) m (rc k))) (m := 11) rfl hmix (fun K hK => ?_)
        have hS' := St.drew hS.inv
        replace hf := hf.st hS'
        replace hkf := hkf.st hS'
        replace hka := hka.st hS'
        replace hbt := hbt.st hS'
        replace hO := hO.st (by decide) hS'
        replace hW := hW.st hS'
        replace hbc := hbc.st hS'
        replace hS := hS.trans hS'
        clear hS'
        have hSS : (fun (w2 : World) => w2.cell? ⟨pf, 0, none⟩ = some (fv) ∧ w2.cell? ⟨pa, 0, none⟩ = some (.slice (some ⟨g, 0, none⟩) n cap) ∧ w2.cell? ⟨pt, 0, none⟩ = some (.int .i64 (t : Int)) ∧ w2.cell? ⟨g, 0 + t, none⟩ = some (.slice (some ⟨bs k, 0, none⟩) m (rc k))) _ := And.intro hkf.c (And.intro hka.c (And.intro hbt.at hct))
        refine b_v (i := 0) rfl (by kernel_rfl) hF (fun w2 hx => v_load sc28 rfl (hx.2.1)) rfl hSS ?_; clear hF a; intro a hF
        refine b_v (i := 1) rfl (by kernel_rfl) hF (fun w2 hx => v_load sc3 rfl (hx.2.2.1)) rfl hSS ?_; clear hF a; intro a hF
        refine b_v (i := 2) rfl (by kernel_rfl) hF (fun w2 hx => v_ixS sl28 rfl rfl (by omega) (by omega)) rfl hSS ?_; clear hF a; intro a hF
        refine b_v (i := 3) rfl (by kernel_rfl) hF (fun w2 hx => v_load sc37 rfl (by rw [toNat_c]; exact hx.2.2.2)) rfl hSS ?_; clear hF a; intro a hF
        refine b_v (i := 4) rfl (by kernel_rfl) hF (fun w2 hx => v_move rfl) rfl hSS ?_; clear hF a; intro a hF
        refine b_v (i := 5) rfl (by kernel_rfl) hF (fun w2 hx => v_load sc23 rfl (hx.1)) rfl hSS ?_; clear hF a; intro a hF
        refine b_v (i := 6) rfl (by kernel_rfl) hF (fun w2 hx => v_move rfl) rfl hSS ?_; clear hF a; intro a hF
        refine b_v (i := 7) rfl (by kernel_rfl) hF (fun w2 hx => v_move rfl) rfl hSS ?_; clear hF a; intro a hF
        refine b_e (i := 8) (by kernel_rfl) rfl ?_
        refine sc hF rfl rfl rfl en29 rfl (Mul_gf B (some (wb, p)) fv (((hp.fld.sclF t (hp.fld.inv (f1 k c)) j (fun i j => f1 (Fld.sw t k i) j)) t j : Nat) : Int) ((hp.fld.inv (f1 k c) : Nat) : Int) _ hS.inv hf) ?_; clear hF a; intro v w' a hv hF
        obtain ⟨rfl, hS'⟩ := hv
        replace hf := hf.st hS'
        replace hkf := hkf.st hS'
        replace hka := hka.st hS'
        replace hbt := hbt.st hS'
        replace hO := hO.st (by decide) hS'
        replace hW := hW.st hS'
        replace hbc := hbc.st hS'
        replace hS := hS.trans hS'
        clear hS'
        rw [gmul_num hp hbj hbi] at hF
        clear hSS
        replace hct := (hO.kc (by decide) (vls_at ht)).c
        rw [hswt] at hct
        have hSS : (fun (w2 : World) => w2.cell? ⟨pf, 0, none⟩ = some (fv) ∧ w2.cell? ⟨pa, 0, none⟩ = some (.slice (some ⟨g, 0, none⟩) n cap) ∧ w2.cell? ⟨pt, 0, none⟩ = some (.int .i64 (t : Int)) ∧ w2.cell? ⟨g, 0 + t, none⟩ = some (.slice (some ⟨bs k, 0, none⟩) m (rc k))) _ := And.intro hkf.c (And.intro hka.c (And.intro hbt.at hct))
        refine WL_nil ⟨hSS, ?_⟩
        refine b_v (i := 9) rfl (by kernel_rfl) hF (fun w2 hx => v_ixS sl37 rfl rfl (by omega) (by omega)) rfl hSS ?_; clear hF a; intro a hF
        refine b_e (i := 10) (by kernel_rfl) rfl ?_
        have hR0 := hW.row t ht
        have hR0s := hW.ge ht
        rw [hswt] at hR0 hR0s
        refine s_set (D := FDx) (B := B) hF on3 rfl (by rw [toNat_c, zints_length, trow_length]; omega) rfl rfl hR0 (by decide) hS.inv ?_; intro w' hm hI' ho'
        replace hf := hf.mb hm
        replace hkf := hkf.mb hm ((hswt ▸ hW.ne ht hKpf : some (bs k) ≠ some pf))
        replace hka := hka.mb hm ((hswt ▸ hW.ne ht hKpa : some (bs k) ≠ some pa))
        replace hbt := hbt.mb hm ((hswt ▸ hW.ne ht hKpt : some (bs k) ≠ some pt))
        replace hO := hO.mb hm (hO.ne_type hR0 (by decide))
        replace hW := hW.set (g := hp.fld.sclF t (hp.fld.inv (f1 k c)) (j + 1) (fun i j => f1 (Fld.sw t k i) j)) ht (by rw [hswt]; exact hm) (by rw [hswt]; exact ho'.cast (by rw [toNat_c, Nat.zero_add, zints_set, trow_set (g := hp.fld.sclF t (hp.fld.inv (f1 k c)) (j + 1) (fun i j => f1 (Fld.sw t k i) j))]; intro l hl; exact Fld.sclF_at _ l)) (fun a ha hai l hl => by unfold Fld.sclF; rw [if_neg (by omega), if_neg (by omega)])
        replace hbc := hbc.mb hm ((hswt ▸ hW.ne ht hKpc : some (bs k) ≠ some pc))
        replace hS := hS.mb hm (fun k e => ⟨by cases e; exact hR0s.1, hR0.isrow k e⟩)
        replace hR0 := ho'
        clear hm hI' ho'
        clear hR0 hR0s hct
        clear hSS
        replace hct := (hO.kc (by decide) (vls_at ht)).c
        rw [hswt] at hct
        have hSS : (fun (w2 : World) => w2.cell? ⟨pf, 0, none⟩ = some (fv) ∧ w2.cell? ⟨pa, 0, none⟩ = some (.slice (some ⟨g, 0, none⟩) n cap) ∧ w2.cell? ⟨pt, 0, none⟩ = some (.int .i64 (t : Int)) ∧ w2.cell? ⟨g, 0 + t, none⟩ = some (.slice (some ⟨bs k, 0, none⟩) m (rc k))) _ := And.intro hkf.c (And.intro hka.c (And.intro hbt.at hct))
        refine WL_nil ⟨hSS, ?_⟩
        refine b_done (by kernel_rfl) (hK _ _ ?_)
        clear hK K
        replace hF := hF.sub _ (c_ 3 rfl (c_ 4 rfl (c_ 7 rfl (c_ 8 rfl (c_ 18 rfl (c_ 19 rfl (c_ 9 rfl (c_ 11 rfl (c_ 65 rfl (c_ 66 rfl (c_ 67 rfl (n_))))))))))))
        refine W_reg rfl (fun K hK => ?_)
        refine sv hF (v_addI rfl rfl (by omega)) rfl ?_; clear hF a; intro a hF
        refine sv hF (v_move rfl) rfl ?_; clear hF a; intro a hF
        refine WL_nil (hK _ _ ?_)
        clear hK K
        exact ⟨q2 - 1, by omega, j + 1, hF.sub _ (c_ 3 rfl (c_ 4 rfl (c_ 7 rfl (c_ 8 rfl (c_ 18 rfl (c_ 19 rfl (c_ 9 rfl (c_ 11 rfl (c_ 65 rfl (c_ 66 rfl (c_ 67 rfl (n_)))))))))))), hS, hf, hkf, hka, hbt, hbc, hO, hW, by omega, by omega⟩
       ·
        skip
        try simp only [dcl] at hc4
        have hjm : j = m := by omega
        rw [hjm] at hW
        refine W_exit rfl ?_
        refine W_seq ?_
        refine W_sr rfl (fun K hK => ?_)
        refine sv hF (v_load sc28 rfl (hka.c)) rfl ?_; clear hF a; intro a hF
        refine sv hF (v_lenS rfl sl28 rfl) rfl ?_; clear hF a; intro a hF
        refine sv hF (v_move rfl) rfl ?_; clear hF a; intro a hF
        refine WL_nil (hK _ _ ?_)
        clear hK K
        replace hF := hF.sub _ (c_ 85 rfl (c_ 84 rfl (c_ 83 rfl (c_ 3 rfl (c_ 4 rfl (c_ 7 rfl (c_ 8 rfl (c_ 18 rfl (c_ 19 rfl (c_ 9 rfl (c_ 11 rfl (c_ 65 rfl (c_ 66 rfl (c_ 67 rfl (n_)))))))))))))))
        refine W_block ?_
        refine W_loop (fun q3 a w4 => ∃ (i : Nat), Fr 102 [(3, .pointer (some ⟨pf, 0, none⟩)), (4, .pointer (some ⟨pa, 0, none⟩)), (7, .pointer (some ⟨pt, 0, none⟩)), (8, .func (.func 91) ([] : List Value).toArray ([.pointer (some ⟨pf, 0, none⟩), .pointer (some ⟨pa, 0, none⟩), .pointer (some ⟨pt, 0, none⟩)] : List Value).toArray), (18, .int .i64 (cols : Int)), (19, .int .i64 (c : Int)), (9, .pointer (some ⟨pc, 0, none⟩)), (83, .slice (some ⟨g, 0, none⟩) n cap), (84, .int .i64 (n : Int)), (85, .int .i64 (i : Int))] a ∧ (StZ FDx B (fun k => N ≤ k) w w4) ∧ (Fo FDx B w4 fv (some (wb, p))) ∧ (KC FDx B w4 ⟨pf, 0, none⟩ (fv)) ∧ (KC FDx B w4 ⟨pa, 0, none⟩ (.slice (some ⟨g, 0, none⟩) n cap)) ∧ (Box FDx B pt w4 pt 3 (.int .i64 (t : Int))) ∧ (Box FDx B pc w4 pc 3 (.int .i64 (c : Int))) ∧ (Gam.Own FDx B N w4 37 (.slice (some ⟨g, 0, none⟩) n cap) (some g) (vls n m (fun i => bs (Fld.sw t k i)) (fun i => rc (Fld.sw t k i)))) ∧ (Wr FDx B N KM w4 n m (fun i => bs (Fld.sw t k i)) (fun i => rc (Fld.sw t k i)) (hp.fld.cleF t c i (hp.fld.sclF t (hp.fld.inv (f1 k c)) m (fun i j => f1 (Fld.sw t k i) j)))) ∧ (i ≤ n) ∧ (q3 + i = n)) (n) ?_ ?_
        ·
         skip
         exact ⟨0, hF.sub _ (c_ 3 rfl (c_ 4 rfl (c_ 7 rfl (c_ 8 rfl (c_ 18 rfl (c_ 19 rfl (c_ 9 rfl (c_ 83 rfl (c_ 84 rfl (c_ 85 rfl (n_))))))))))), hS, hf, hkf, hka, hbt, hbc, hO, hW.congr (fun a _ l _ => by unfold Fld.cleF; rw [if_neg (by omega)]), by omega, by omega⟩
        ·
         skip
         clear hF
         clear hS hf hkf hka hbt hbc hO hW
         rintro q3 a w4 ⟨i, hF, hS, hf, hkf, hka, hbt, hbc, hO, hW, hi, hq3⟩
         refine W_sr rfl (fun K hK => ?_)
         refine sv hF (v_lss rfl rfl) rfl ?_; clear hF a; intro a hF
         refine WL_nil (hK _ _ ?_)
         clear hK K
         refine W_seq ?_
         refine W_if hF rfl (fun hc5 => ?_) (fun hc5 => ?_)
         ·
          skip
          try simp only [dcl] at hc5
          have hlt : i < n := by omega
          refine W_skip ?_
          refine W_seq ?_
          refine W_block ?_
          refine W_sr rfl (fun K hK => ?_)
          refine sv hF (v_move rfl) rfl ?_; clear hF a; intro a hF
          refine sv hF (v_ixS sl28 rfl rfl (by omega) (by omega)) rfl ?_; clear hF a; intro a hF
          refine sv hF (v_load sc37 rfl (by rw [toNat_c]; exact (hO.kc (by decide) (vls_at hlt)).c)) rfl ?_; clear hF a; intro a hF
          refine sv2 hF (v_assign rfl) (v_assign rfl) rfl rfl ?_; clear hF a; intro a hF
          refine WL_nil (hK _ _ ?_)
          clear hK K
          refine W_sr rfl (fun K hK => ?_)
          refine sv hF (v_move rfl) rfl ?_; clear hF a; intro a hF
          refine sv hF (v_load sc3 rfl (hbt.at)) rfl ?_; clear hF a; intro a hF
          refine sv hF (v_neq rfl rfl) rfl ?_; clear hF a; intro a hF
          refine WL_nil (hK _ _ ?_)
          clear hK K
          refine W_if hF rfl (fun hc6 => ?_) (fun hc6 => ?_)
          ·
           skip
           try simp only [dcl] at hc6
           have hbd4 : hp.fld.Bd (hp.fld.cleF t c i (hp.fld.sclF t (hp.fld.inv (f1 k c)) m (fun i j => f1 (Fld.sw t k i) j))) := hp.fld.cleF_bd (hp.fld.sclF_bd (fun a b => hb1 _ b))
           have hit : i ≠ t := by omega
           refine W_reg rfl (fun K hK => ?_)
           refine sv2 hF (v_move rfl) (v_move rfl) rfl rfl ?_; clear hF a; intro a hF
           refine sv hF (v_load sc3 rfl (hbc.at)) rfl ?_; clear hF a; intro a hF
           refine sc hF rfl rfl rfl en91 rfl (clear_ok B N KM wb p hp fv pf pa pt g cap n m (fun i => bs (Fld.sw t k i)) (fun i => rc (Fld.sw t k i)) (hp.fld.cleF t c i (hp.fld.sclF t (hp.fld.inv (f1 k c)) m (fun i j => f1 (Fld.sw t k i) j))) i t c _ hS.inv hf hkf hka hbt.kc ⟨hKpf, hKpa, hKpt⟩ hO hW hbd4 hlt ht hit hcl hnm) ?_; clear hF a; intro v w' a hv hF
           obtain ⟨-, hO', hW', hz⟩ := hv
           have hni := hW.ge hlt
           replace hkf := hkf.stz hz (fun e => hW.ne hlt hKpf (congrArg some e.symm))
           replace hka := hka.stz hz (fun e => hW.ne hlt hKpa (congrArg some e.symm))
           replace hbt := hbt.stz hz (fun e => hW.ne hlt hKpt (congrArg some e.symm))
           replace hbc := hbc.stz hz (fun e => hW.ne hlt hKpc (congrArg some e.symm))
           replace hf := hf.stz hz
           replace hS := hS.transZ (hz.weak (fun k e => by subst e; exact hni.1))
           replace hO := hO'
           replace hW := hW'.congr (fun a ha l hl => hp.fld.cleF_step (m := m) hcl (by omega) a l hl)
           clear hO' hW' hz hni
           refine WL_nil (hK _ _ ?_)
           clear hK K
           replace hF := hF.sub _ (c_ 95 rfl (c_ 94 rfl (c_ 93 rfl (c_ 92 rfl (c_ 91 rfl (c_ 90 rfl (c_ 16 rfl (c_ 15 rfl (c_ 89 rfl (c_ 88 rfl (c_ 87 rfl (c_ 86 rfl (c_ 3 rfl (c_ 4 rfl (c_ 7 rfl (c_ 8 rfl (c_ 18 rfl (c_ 19 rfl (c_ 9 rfl (c_ 83 rfl (c_ 84 rfl (c_ 85 rfl (n_)))))))))))))))))))))))
           refine W_reg rfl (fun K hK => ?_)
           refine sv hF (v_addI rfl rfl (by omega)) rfl ?_; clear hF a; intro a hF
           refine sv hF (v_move rfl) rfl ?_; clear hF a; intro a hF
           refine WL_nil (hK _ _ ?_)
           clear hK K
           exact ⟨q3 - 1, by omega, i + 1, hF.sub _ (c_ 3 rfl (c_ 4 rfl (c_ 7 rfl (c_ 8 rfl (c_ 18 rfl (c_ 19 rfl (c_ 9 rfl (c_ 83 rfl (c_ 84 rfl (c_ 85 rfl (n_))))))))))), hS, hf, hkf, hka, hbt, hbc, hO, hW, by omega, by omega⟩
          ·
           skip
           try simp only [dcl] at hc6
           obtain rfl : i = t := by omega
           replace hW := hW.congr (fun a _ l _ => hp.fld.cleF_skip a l)
           refine W_skip ?_
           refine W_reg rfl (fun K hK => ?_)
           refine sv hF (v_addI rfl rfl (by omega)) rfl ?_; clear hF a; intro a hF
           refine sv hF (v_move rfl) rfl ?_; clear hF a; intro a hF
           refine WL_nil (hK _ _ ?_)
           clear hK K
           exact ⟨q3 - 1, by omega, i + 1, hF.sub _ (c_ 3 rfl (c_ 4 rfl (c_ 7 rfl (c_ 8 rfl (c_ 18 rfl (c_ 19 rfl (c_ 9 rfl (c_ 83 rfl (c_ 84 rfl (c_ 85 rfl (n_))))))))))), hS, hf, hkf, hka, hbt, hbc, hO, hW, by omega, by omega⟩
         ·
          skip
          try simp only [dcl] at hc5
          obtain rfl : i = n := by omega
          have hrd := hp.fld.red_some hf1.symm ht1.symm hpk
          have hrd2 : (hp.fld.red i f (c + 1)).2 = t + 1 := by rw [hrd]
          replace hW := hW.congr (g := (hp.fld.red i f (c + 1)).1) (fun a ha l hl => by rw [hrd]; exact hp.fld.op_eq hcl a ha l hl)
          refine W_exit rfl ?_
          refine W_reg rfl (fun K hK => ?_)
          refine sv hF (v_load sc3 rfl (hbt.at)) rfl ?_; clear hF a; intro a hF
          refine sv hF (v_addI rfl rfl (by omega)) rfl ?_; clear hF a; intro a hF
          refine s_stb (D := FDx) (B := B) hF on3 rfl rfl (rfl) hbt hS.inv ?_; intro w' hm hI' hbx'
          replace hf := hf.mb hm
          replace hkf := hkf.mb hm (by simp; omega)
          replace hka := hka.mb hm (by simp; omega)
          replace hO := hO.mb hm (fun k e e2 => by cases e; cases e2; exact absurd hgK (by omega))
          replace hW := hW.mbx hm (fun k e => by cases e; omega)
          replace hS := hS.mb hm (fun k h => by cases h; exact ⟨by omega, _, _, _, hbt.blk⟩)
          replace hbt := hbx'
          clear hm hI' hbx'
          rw [show ((t : Int) + 1) = (((hp.fld.red i f (c + 1)).2 : Nat) : Int) by rw [hrd2]; omega] at hbt
          clear hbc
          refine WL_nil (hK _ _ ?_)
          clear hK K
          refine W_reg rfl (fun K hK => ?_)
          refine sv hF (v_addI rfl rfl (by omega)) rfl ?_; clear hF a; intro a hF
          refine sv hF (v_move rfl) rfl ?_; clear hF a; intro a hF
          refine WL_nil (hK _ _ ?_)
          clear hK K
          exact ⟨q - 1, by omega, c + 1, _, _, hF.sub _ (c_ 3 rfl (c_ 4 rfl (c_ 7 rfl (c_ 8 rfl (c_ 18 rfl (c_ 19 rfl (n_))))))), hS, hf, hkf, hka, hbt, hO, hW, by omega, by omega⟩
  ·
   skip
   try simp only [dcl] at hc1
   refine W_exit rfl ?_
   refine W_sr rfl (fun K hK => ?_)
   refine sv hF (v_load sc3 rfl (by first | assumption | (rw [toNat_c]; assumption) | exact KC.c (by assumption) | (rw [toNat_c]; exact KC.c (by assumption)) | exact Box.at (by assumption))) rfl ?_; clear hF a; intro a hF
   refine sv hF (v_assign rfl) rfl ?_; clear hF a; intro a hF
   refine WL_nil (hK _ _ ?_)
   clear hK K
   replace hF := hF.sub _ (c_ 6 rfl (c_ 101 rfl (c_ 3 rfl (c_ 4 rfl (c_ 7 rfl (c_ 8 rfl (c_ 18 rfl (c_ 19 rfl (n_)))))))))
   refine W_ret ?_
   refine ⟨_, _, hF, rfl, ?_⟩
   obtain rfl : c = cols := by omega
   exact ⟨rfl, ⟨bs, rc, hO, by rw [← hKM]; exact hW⟩, hS⟩

end Go.Proofs.Ytaeljbdpjiciaaa

/- What the statements of layer 5 ask of inverses, ranks, what is solved. No program in sight. -/
set_option linter.unusedVariables false
set_option linter.unusedSimpArgs false
namespace Go.Gam
open Px

namespace Fld
variable (F : Fld)
theorem piv_congr {n c : Nat} {f g : Tb} (h : ∀ i, i < n → f i c = g i c) : ∀ {d t : Nat}, t + d ≤ n → piv f n c t d = piv g n c t d
  | 0, _, _ => rfl
  | d + 1, t, hd => by
    unfold piv
    rw [h t (by omega), piv_congr h (by omega)]
/-- The reduction looks at the first columns alone. -/
theorem red_cols {n C : Nat} {f g : Tb} (h : ∀ i, i < n → ∀ j, j < C → f i j = g i j) : ∀ c, c ≤ C → (F.red n f c).2 = (F.red n g c).2 ∧ (∀ i, i < n → ∀ j, j < C → (F.red n f c).1 i j = (F.red n g c).1 i j) ∧ (F.red n f c).2 ≤ n
  | 0, _ => ⟨rfl, h, Nat.zero_le _⟩
  | c + 1, hc => by
    obtain ⟨h1, h2, h3⟩ := red_cols h c (by omega)
    rw [red, red, ← h1]
    clear h1
    generalize (F.red n f c).1 = f1 at *
    generalize (F.red n g c).1 = g1 at *
    generalize (F.red n f c).2 = t at *
    have hp : piv f1 n c t (n - t) = piv g1 n c t (n - t) := piv_congr (fun i hi => h2 i hi c (by omega)) (by omega)
    unfold stp
    rw [← hp]
    cases hk : piv f1 n c t (n - t) with
    | none => exact ⟨rfl, h2, h3⟩
    | some k =>
      obtain ⟨k1, k2, -, -⟩ := piv_some hk
      refine ⟨rfl, fun i hi j hj => ?_, by show t + 1 ≤ n; omega⟩
      dsimp only
      unfold op
      rw [h2 k (by omega) j hj, h2 k (by omega) c (by omega), h2 _ (sw_lt (by omega) (by omega) hi) j hj]
      dsimp only
      rw [h2 _ (sw_lt (by omega) (by omega) hi) c (by omega)]
theorem rk_congr {n c : Nat} {f g : Tb} (h : ∀ i, i < n → ∀ j, j < c → f i j = g i j) : F.rk n f c = F.rk n g c := (F.red_cols h c (Nat.le_refl _)).1
theorem Iv.congr {n : Nat} {E E' G : Tb} (h : F.Iv n E E') (hb : F.Bd G) (he : ∀ i j, i < n → j < n → G i j = E i j) : F.Iv n G E' :=
  ⟨hb, h.bd', fun i j hi hj => by rw [← h.r i j hi hj]; exact F.mm_congr (fun l hl => he i l hi hl) (fun _ _ => rfl), fun i j hi hj => by rw [← h.l i j hi hj]; exact F.mm_congr (fun _ _ => rfl) (fun l hl => he l j hl hj)⟩
theorem rk_iv {n : Nat} {f : Tb} (h : (F.iv n f).isSome = true) : F.rk n f n = n := by
  have e : F.rk n f n = F.rk n (bes n f I1) n := F.rk_congr fun i _ j hj => by unfold bes; rw [if_pos hj]
  unfold iv at h
  split at h
  · cases h
  · rename_i hn
    have h2 : ¬ F.rk n (bes n f I1) n < n := hn
    have h3 := (F.red_cols (n := n) (C := n) (f := f) (g := f) (fun _ _ _ _ => rfl) n (Nat.le_refl _)).2.2
    have h4 : F.rk n f n ≤ n := h3
    omega
theorem rk_sing {n : Nat} {f : Tb} (h : F.iv n f = none) : F.rk n f n < n := by
  have e : F.rk n f n = F.rk n (bes n f I1) n := F.rk_congr fun i _ j hj => by unfold bes; rw [if_pos hj]
  unfold iv at h
  split at h
  · rename_i hn
    have h2 : F.rk n (bes n f I1) n < n := hn
    omega
  · cases h
/-- The rows twice. -/
theorem rk_twice {n c : Nat} {f g : Tb} (hf : F.Bd f) (hg : F.Bd g) (h1 : ∀ i, i < n → ∀ j, j < c → g i j = f i j) (h2 : ∀ i, i < n → ∀ j, j < c → g (n + i) j = f i j) : F.rk (n + n) g c = F.rk n f c := by
  refine Nat.le_antisymm (F.rk_mono hg hf (Sp.sub F hf (fun i => if i < n then i else i - n) fun i hi => ?_)) (F.rk_mono hf hg (Sp.sub F hg (fun i => i) fun i hi => ⟨by omega, fun j hj => (h1 i hi j hj).symm⟩))
  by_cases e : i < n
  · rw [if_pos e]; exact ⟨e, fun j hj => h1 i e j hj⟩
  · rw [if_neg e]
    refine ⟨by omega, fun j hj => ?_⟩
    have := h2 (i - n) (by omega) j hj
    rw [show n + (i - n) = i by omega] at this
    exact this
theorem rk_pos {n c i j : Nat} {f : Tb} (hf : F.Bd f) (hi : i < n) (hj : j < c) (h : f i j ≠ 0) : 0 < F.rk n f c := by
  obtain ⟨g, -, -, ⟨C, -, hC⟩, -⟩ := F.rk_rows (n := n) (c := c) hf
  refine Nat.pos_of_ne_zero fun e => h ?_
  rw [hC i j hi hj, e]; rfl
end Fld

section
variable {wb p : Nat} (hp : Prm wb p)
theorem fld_bd16 {f : Tb} (h : hp.fld.Bd f) : ∀ i j, f i j < 2 ^ wb := fun i j => by have := h i j; rw [hp.fld_w] at this; exact this
theorem inv_reg {a : Mtx} (hsq : sqM (some (wb, p)) a = true) (h : (invR hp a).1 = 0) : ∃ g, hp.fld.iv a.length (en a) = some g ∧ hp.fld.Iv a.length (en a) g ∧ invR hp a = (0, tab a.length a.length g) := by
  obtain ⟨hm, -⟩ := sqM_Mx hsq
  cases hi : hp.fld.iv a.length (en a) with
  | none => rw [invR_none hp hsq hi] at h; cases h
  | some g => exact ⟨g, rfl, hp.fld.iv_some (hm.bd hp) hi, invR_some hp hsq hi⟩
theorem inv_no {a : Mtx} (hsq : sqM (some (wb, p)) a = true) (h : (invR hp a).1 ≠ 0) : hp.fld.iv a.length (en a) = none ∧ invR hp a = (2, []) := by
  cases hi : hp.fld.iv a.length (en a) with
  | none => exact ⟨rfl, invR_none hp hsq hi⟩
  | some g => rw [invR_some hp hsq hi] at h; exact absurd rfl h
theorem rankR_sq {a : Mtx} (hsq : sqM (some (wb, p)) a = true) : rankR hp a = (((hp.fld.rk a.length (en a) a.length : Nat) : Int), 0) := by
  have h := hsq
  simp only [sqM, Bool.and_eq_true, decide_eq_true_eq] at h
  unfold rankR
  rw [if_pos h.1, ← h.2]
theorem inv_sing {a : Mtx} (hsq : sqM (some (wb, p)) a = true) (h : (invR hp a).1 ≠ 0) : invR hp a = (2, []) ∧ (rankR hp a).2 = 0 ∧ (rankR hp a).1 < (a.length : Int) := by
  obtain ⟨h1, h2⟩ := inv_no hp hsq h
  have := hp.fld.rk_sing h1
  rw [rankR_sq hp hsq]
  exact ⟨h2, rfl, by show ((hp.fld.rk a.length (en a) a.length : Nat) : Int) < _; omega⟩
theorem tab_en {n m : Nat} {g : Tb} {i j : Nat} (hi : i < n) (hj : j < m) : en (tab n m g) i j = g i j := en_tab hi hj
theorem mx_tab {n m : Nat} {g : Tb} (h : hp.fld.Bd g) : Mx wb n m (tab n m g) := Mx.tab fun i j _ _ => fld_bd16 hp h i j
theorem mulM_Iv {n : Nat} {a b : Mtx} (ha : Mx wb n n a) (hb : Mx wb n n b) (hn : 1 ≤ n ∧ n ≤ 20) (h : ∀ i j, i < n → j < n → hp.fld.mm n (en a) (en b) i j = I1 i j) : mulM (some (wb, p)) a b = some (idM n) := by
  rw [mulM_tab hp ha hb hn hn hn, idM_tab]
  congr 1
  exact tab_congr fun i j hi hj => h i j hi hj
theorem inv_back {a : Mtx} (hsq : sqM (some (wb, p)) a = true) (h : (invR hp a).1 = 0) :
    ∃ x, invR hp a = (0, x) ∧ mulM (some (wb, p)) a x = some (idM a.length) ∧ mulM (some (wb, p)) x a = some (idM a.length) ∧ invR hp x = (0, a) ∧ rankR hp a = ((a.length : Int), 0) := by
  obtain ⟨hm, h1, h2, -⟩ := sqM_Mx hsq
  obtain ⟨g, hg, hI, he⟩ := inv_reg hp hsq h
  have hx := mx_tab hp (n := a.length) (m := a.length) hI.bd'
  have hI2 : hp.fld.Iv a.length (en (tab a.length a.length g)) (en a) := (hI.symm).congr hp.fld (hx.bd hp) fun i j hi hj => en_tab hi hj
  refine ⟨_, he, mulM_Iv hp hm hx ⟨h1, h2⟩ fun i j hi hj => hI2.l i j hi hj, mulM_Iv hp hx hm ⟨h1, h2⟩ fun i j hi hj => hI2.r i j hi hj, ?_, ?_⟩
  · have hsx := hx.sq (p := p) h1 h2
    obtain ⟨k, hk⟩ := hp.fld.iv_of_Iv hI2
    have hl : (tab a.length a.length g).length = a.length := tab_length _ _ _
    have hk' : hp.fld.iv (tab a.length a.length g).length (en (tab a.length a.length g)) = some k := by rw [hl]; exact hk
    rw [invR_some hp hsx hk', hl]
    congr 1
    have hu := (hp.fld.iv_some (hx.bd hp) hk).uniq hp.fld (hm.bd hp) fun i j hi hj => hI2.r i j hi hj
    conv => rhs; rw [hm.eq_tab]
    exact tab_congr fun i j hi hj => (hu i j hi hj).symm
  · rw [rankR_sq hp hsq, hp.fld.rk_iv (by rw [hg]; rfl)]
theorem prod_inv {a b c : Mtx} (ha : sqM (some (wb, p)) a = true) (hb : sqM (some (wb, p)) b = true) (hc : mulM (some (wb, p)) a b = some c) :
    sqM (some (wb, p)) c = true ∧ (((invR hp a).1 ≠ 0 ∨ (invR hp b).1 ≠ 0) → (invR hp c).1 = 2) ∧ ((invR hp a).1 = 0 → (invR hp b).1 = 0 → ∃ z, invR hp c = (0, z) ∧ mulM (some (wb, p)) (invR hp b).2 (invR hp a).2 = some z) := by
  obtain ⟨hma, a1, a2, a3⟩ := sqM_Mx ha
  obtain ⟨hmb, b1, b2, b3⟩ := sqM_Mx hb
  obtain ⟨-, -, hw, -⟩ := mulM_inv hc
  have hl : b.length = a.length := by omega
  rw [hl] at hmb b1 b2
  rw [mulM_tab hp hma hmb ⟨a1, a2⟩ ⟨a1, a2⟩ ⟨a1, a2⟩] at hc
  obtain rfl := Option.some.inj hc
  have hbd := hp.fld.mm_bd a.length (en a) (en b)
  have hmc := mx_tab hp (n := a.length) (m := a.length) hbd
  have hlc : (tab a.length a.length (hp.fld.mm a.length (en a) (en b))).length = a.length := tab_length _ _ _
  have hsc := hmc.sq (p := p) a1 a2
  have hen : ∀ i j, i < a.length → j < a.length → en (tab a.length a.length (hp.fld.mm a.length (en a) (en b))) i j = hp.fld.mm a.length (en a) (en b) i j := fun i j hi hj => en_tab hi hj
  refine ⟨hsc, fun hno => ?_, fun h0 h0' => ?_⟩
  · refine Classical.byContradiction fun hc2 => ?_
    have hc0 : (invR hp (tab a.length a.length (hp.fld.mm a.length (en a) (en b)))).1 = 0 := Classical.byContradiction fun h => hc2 (by have := (inv_no hp hsc h).2; rw [show (tab a.length a.length fun i j => xsum a.length fun l => hp.fld.mul (en a i l) (en b l j)) = tab a.length a.length (hp.fld.mm a.length (en a) (en b)) from rfl, this])
    obtain ⟨g, -, hI, -⟩ := inv_reg hp hsc hc0
    rw [hlc] at hI
    obtain ⟨⟨x, hx⟩, ⟨y, hy⟩⟩ := Fld.Iv.of_mul hp.fld (hma.bd hp) (hmb.bd hp) (hI.congr hp.fld hbd fun i j hi hj => (hen i j hi hj).symm)
    rcases hno with h | h
    · rw [(inv_no hp ha h).1] at hx; cases hx
    · have := (inv_no hp hb h).1
      rw [hl, hy] at this; cases this
  · obtain ⟨x, -, hx, ex⟩ := inv_reg hp ha h0
    obtain ⟨y, -, hy, ey⟩ := inv_reg hp hb h0'
    rw [hl] at hy ey
    have hI := (hx.mul hp.fld hy).congr hp.fld (hmc.bd hp) hen
    obtain ⟨k, hk⟩ := hp.fld.iv_of_Iv hI
    have hu := (hp.fld.iv_some (hmc.bd hp) hk).uniq hp.fld hI.bd' fun i j hi hj => hI.r i j hi hj
    have hk' : hp.fld.iv (tab a.length a.length (hp.fld.mm a.length (en a) (en b))).length (en (tab a.length a.length (hp.fld.mm a.length (en a) (en b)))) = some k := by rw [hlc]; exact hk
    refine ⟨_, invR_some hp hsc hk', ?_⟩
    rw [ex, ey, tab_length]
    show mulM _ (tab a.length a.length y) (tab a.length a.length x) = _
    rw [mulM_tab hp (mx_tab hp hy.bd') (mx_tab hp hx.bd') ⟨a1, a2⟩ ⟨a1, a2⟩ ⟨a1, a2⟩]
    congr 1
    refine tab_congr fun i j hi hj => ?_
    rw [← hu i j hi hj]
    exact xsum_congr fun l hl => by rw [en_tab hi hl, en_tab hl hj]
theorem sol_back {a : Mtx} {x y : List Int} (ha : sqM (some (wb, p)) a = true) (hy : applyM (some (wb, p)) a x = some y) :
    ((invR hp a).1 ≠ 0 → solR hp a y = (2, []) ∧ invR hp a = (2, [])) ∧ ((invR hp a).1 = 0 → solR hp a y = (0, x) ∧ x.length = a.length) := by
  obtain ⟨hma, a1, a2, a3⟩ := sqM_Mx ha
  have hmul := applyM_mul.1 hy
  obtain ⟨n, m, k, h1, h2, hn, hm, hk, hM⟩ := mulM_some hp hmul
  have e1 : n = a.length := h1.1.symm
  subst e1
  have e2 : m = a.length := by rw [← h1.wid (by omega), a3]
  subst e2
  have hkx : x.length = a.length := by rw [← h2.1, colM_length]
  have hk1 : k = 1 := by
    rw [← h2.wid (by omega)]
    cases x with
    | nil => have := h2.1; simp [colM] at this; omega
    | cons z x => rfl
  subst hk1
  have hcy : Mx wb a.length 1 (colM y) := by rw [hM]; exact Mx.mul hp _ _
  have hyl : y.length = a.length := by rw [← hcy.1, colM_length]
  have hok : sqM (some (wb, p)) a = true ∧ y.length = a.length ∧ (∀ z ∈ y, inF (some (wb, p)) z = true) := ⟨ha, hyl, fun z hz => inF_some.2 ((hyl ▸ hcy).col_inv z hz)⟩
  refine ⟨fun h => ?_, fun h => ?_⟩
  · obtain ⟨-, he⟩ := inv_no hp ha h
    rw [solR_none hp hok h, he]; exact ⟨rfl, rfl⟩
  · refine ⟨?_, hkx⟩
    obtain ⟨u, e, -, hua, -, -⟩ := inv_back hp ha h
    rw [solR_some hp hok h, e]
    show (0, (applyM (some (wb, p)) u y).getD []) = _
    obtain ⟨z, z1, z2⟩ := apply_apply hp hua hy
    rw [z1]
    have hid : applyM (some (wb, p)) (idM a.length) x = some x := applyM_mul.2 (mulM_idl hp h2 ⟨a1, a2⟩ ⟨by omega, by omega⟩)
    rw [hid] at z2
    obtain rfl := Option.some.inj z2
    rfl
theorem en_take {a : Mtx} {k i j : Nat} (h : i < k) : en (a.take k) i j = en a i j := by
  unfold en
  simp [List.getD_eq_getElem?_getD, List.getElem?_take, h]
theorem en_app {a b : Mtx} {i j : Nat} (h : i < a.length) : en (a ++ b) i j = en a i j := by
  unfold en
  simp [List.getD_eq_getElem?_getD, List.getElem?_append_left h]
theorem en_app2 {a b : Mtx} {i j : Nat} : en (a ++ b) (a.length + i) j = en b i j := by
  unfold en
  simp [List.getD_eq_getElem?_getD, List.getElem?_append_right]
theorem rank_bd {a : Mtx} (h : mayM (some (wb, p)) a = true) : ∃ r : Nat, rankR hp a = ((r : Int), 0) ∧ r ≤ a.length ∧ r ≤ wid a := by
  obtain ⟨hm, -⟩ := mayM_Mx h
  have := hp.fld.rk_le (n := a.length) (c := wid a) (hm.bd hp)
  exact ⟨_, if_pos h, this.1, this.2⟩
theorem rank_twice {a : Mtx} (h : mayM (some (wb, p)) a = true) (h10 : a.length ≤ 10) : joinM (some (wb, p)) a a = some (a ++ a) ∧ rankR hp (a ++ a) = rankR hp a := by
  obtain ⟨hm, h1, h2, h3, h4⟩ := mayM_Mx h
  obtain ⟨b1, b2, b3, b4, b5⟩ := mayM_pos h
  have hw : wid (a ++ a) = wid a := by
    obtain ⟨r, hr⟩ : ∃ r, a[0]? = some r := ⟨_, List.getElem?_eq_getElem (by omega)⟩
    rw [wid_at hr, wid_at (r := r) (by rw [List.getElem?_append_left (by omega), hr])]
  have hmm : mayM (some (wb, p)) (a ++ a) = true := mayM_of (by simp; omega) (by simp; omega) (by omega) (by omega) fun r hr => by
    rw [hw]; exact b5 r (by simpa using hr)
  refine ⟨joinM_t h h rfl (by omega), ?_⟩
  unfold rankR
  rw [if_pos h, if_pos hmm, hw, List.length_append]
  have hm2 := (mayM_Mx hmm).1
  rw [hp.fld.rk_twice (f := en a) (hm.bd hp) (hm2.bd hp) (fun i hi j _ => en_app hi) (fun i hi j _ => en_app2)]
theorem rank_less {a : Mtx} (h : mayM (some (wb, p)) a = true) (h2 : 2 ≤ a.length) : ∃ r l : Nat, rankR hp a = ((r : Int), 0) ∧ rankR hp (a.take (a.length - 1)) = ((l : Int), 0) ∧ l ≤ r ∧ r ≤ l + 1 := by
  obtain ⟨hm, h1, h20, h3, h4⟩ := mayM_Mx h
  obtain ⟨b1, b2, b3, b4, b5⟩ := mayM_pos h
  have hl : (a.take (a.length - 1)).length = a.length - 1 := by simp
  have hw : wid (a.take (a.length - 1)) = wid a := by
    obtain ⟨r, hr⟩ : ∃ r, a[0]? = some r := ⟨_, List.getElem?_eq_getElem (by omega)⟩
    rw [wid_at hr, wid_at (r := r) (by rw [List.getElem?_take, if_pos (by omega), hr])]
  have hmm : mayM (some (wb, p)) (a.take (a.length - 1)) = true := mayM_of (by omega) (by omega) (by omega) (by omega) fun r hr => by
    rw [hw]; exact b5 r (List.mem_of_mem_take hr)
  have hr := hp.fld.rk_more (c := wid a) (n := a.length - 1) (hm.bd hp)
  rw [show a.length - 1 + 1 = a.length by omega] at hr
  refine ⟨_, _, if_pos h, ?_, hr⟩
  unfold rankR
  rw [if_pos hmm, hw, hl, hp.fld.rk_congr (g := en a) (fun i hi j _ => en_take hi)]
theorem sqM_of {a : Mtx} (h : mayM (some (wb, p)) a = true) (h2 : a.length = wid a) : sqM (some (wb, p)) a = true := by unfold sqM; rw [h, decide_eq_true h2]; rfl
end
/-- Are numbers all different, and below a bound? -/
def unl (l : List Int) (b : Int) : Bool := decide (l.Nodup ∧ ∀ x ∈ l, 0 ≤ x ∧ x < b)
theorem unl_no {l : List Int} {b : Int} (h : ¬ (l.Nodup ∧ ∀ x ∈ l, 0 ≤ x ∧ x < b)) : unl l b = false := decide_eq_false h
theorem nodup_no {l : List Int} {i k : Nat} {x : Int} (h : k < i) (hi : l[i]? = some x) (hk : l[k]? = some x) : ¬ l.Nodup := fun hn => by
  obtain ⟨h1, h2⟩ := List.getElem?_eq_some_iff.1 hi
  obtain ⟨h3, h4⟩ := List.getElem?_eq_some_iff.1 hk
  exact List.pairwise_iff_getElem.1 hn k i h3 h1 h (h4.trans h2.symm)
theorem nodup_snoc {l : List Int} {i : Nat} {x : Int} (h : (l.take i).Nodup) (hi : l[i]? = some x) (hx : ∀ y ∈ l.take i, y ≠ x) : (l.take (i + 1)).Nodup := by
  rw [take_snoc hi]
  refine List.pairwise_append.2 ⟨h, List.pairwise_singleton _ _, fun a ha b hb => ?_⟩
  obtain rfl : b = x := by simpa using hb
  exact hx a ha
theorem gpow_fld {wb p x n : Nat} (hp : Prm wb p) (hx : x < 2 ^ wb) : gpow (some (wb, p)) (x : Int) (n : Int) = (hp.fld.pow x n : Int) := by
  rw [gpow_in hx]; exact congrArg _ (fld_pow p hp.irrP x n).symm
/-- The rows of powers of some numbers. -/
def vtab {wb p : Nat} (hp : Prm wb p) (l : List Nat) : Tb := fun i k => hp.fld.pow (l.getD i 0) k
def vrows {wb p : Nat} (hp : Prm wb p) (l : List Nat) : Mtx := tab l.length l.length (vtab hp l)
theorem vrows_inv {wb p : Nat} (hp : Prm wb p) {l : List Nat} (h1 : 1 ≤ l.length) (h2 : l.length ≤ 20) (hl : ∀ x ∈ l, x < 256) : ((invR hp (vrows hp l)).1 = 0 ↔ unl (l.map fun (x : Nat) => (x : Int)) 256 = true) ∧ ((invR hp (vrows hp l)).1 = 0 ∨ (invR hp (vrows hp l)).1 = 2) := by
  have h16 := hp.size.1
  have hx : ∀ i, l.getD i 0 < 2 ^ hp.fld.w := fun i => by
    rw [hp.fld_w, List.getD_eq_getElem?_getD]
    cases hi : l[i]? with
    | none => simp; omega
    | some x => have := hl x (List.mem_of_getElem? hi); simp; omega
  have et : vrows hp l = tab l.length l.length fun i k => hp.fld.pow (l.getD i 0) k := rfl
  have hb : hp.fld.Bd fun i k => hp.fld.pow (l.getD i 0) k := fun i k => hp.fld.pow_lt _ _
  have hm : Mx wb l.length l.length (vrows hp l) := by rw [et]; exact mx_tab hp hb
  have hsq := hm.sq (p := p) h1 h2
  have hlen := hm.1
  have hen : ∀ i j, i < l.length → j < l.length → en (vrows hp l) i j = hp.fld.pow (l.getD i 0) j := fun i j hi hj => by rw [et]; exact en_tab hi hj
  have hiff := hp.fld.iv_congr (n := l.length) (hm.bd hp) hb hen
  have hcase : (invR hp (vrows hp l)).1 = 0 ∨ (invR hp (vrows hp l)).1 = 2 := by
    by_cases h : (invR hp (vrows hp l)).1 = 0
    · exact .inl h
    · rw [(inv_no hp hsq h).2]; exact .inr rfl
  refine ⟨⟨fun h => ?_, fun h => ?_⟩, hcase⟩
  · obtain ⟨g, hg, -⟩ := inv_reg hp hsq h
    rw [hlen] at hg
    rw [hg] at hiff
    refine decide_eq_true ⟨?_, fun x hx => ?_⟩
    · refine List.pairwise_iff_getElem.2 fun i j hi hj hij e => ?_
      have hjl : j < l.length := by simpa using hj
      simp only [List.getElem_map] at e
      have hn := hp.fld.iv_twice (n := l.length) hb (a := i) (b := j) (by omega) hjl (by omega) fun k _ => by
        rw [getD_of (show i < l.length by omega), getD_of hjl, show l[i] = l[j] by omega]
      rw [hn] at hiff
      cases hiff
    · obtain ⟨y, hy, rfl⟩ := List.mem_map.1 hx
      have := hl y hy
      exact ⟨by omega, by omega⟩
  · obtain ⟨hnd, -⟩ := of_decide_eq_true h
    obtain ⟨g, hg⟩ := hp.fld.vander (n := l.length) hx fun i j hi hj e => by
      refine Classical.byContradiction fun hne => ?_
      have key : ∀ a b, a < b → b < l.length → l.getD a 0 = l.getD b 0 → False := fun a b hab hb e => by
        refine List.pairwise_iff_getElem.1 hnd a b (by simp; omega) (by simpa using hb) hab ?_
        rw [getD_of (show a < l.length by omega), getD_of hb] at e
        simp [e]
      rcases Nat.lt_or_gt_of_ne hne with h' | h'
      · exact key i j h' hj e
      · exact key j i h' hi e.symm
    rw [hg] at hiff
    refine Classical.byContradiction fun h0 => ?_
    rw [← hlen, (inv_no hp hsq h0).1] at hiff
    cases hiff
/-! ### the smallest ones -/
theorem aw5_len (a b c d : Int) : ([[a, b], [c, d]] : Mtx).length ≤ maxLen ∧ ∀ r ∈ ([[a, b], [c, d]] : Mtx), r.length ≤ maxLen := by
  refine ⟨(by decide : (2 : Nat) ≤ maxLen), fun r hr => ?_⟩
  simp only [List.mem_cons, List.mem_nil_iff, or_false] at hr
  rcases hr with rfl | rfl <;> exact (by decide : (2 : Nat) ≤ maxLen)
theorem aw5_sq {a b c d : Int} (h : ∀ x ∈ [a, b, c, d], inF (some (8, 285)) x = true) : sqM (some (8, 285)) [[a, b], [c, d]] = true := by
  have hm : Mx 8 2 2 [[a, b], [c, d]] := ⟨rfl, fun r hr => by
    simp only [List.mem_cons, List.mem_nil_iff, or_false] at hr
    have h2 := fun x hx => inF_some.1 (h x hx)
    rcases hr with rfl | rfl
    · exact ⟨rfl, fun x hx => h2 x (by simp at hx ⊢; rcases hx with rfl | rfl <;> simp)⟩
    · exact ⟨rfl, fun x hx => h2 x (by simp at hx ⊢; rcases hx with rfl | rfl <;> simp)⟩⟩
  exact hm.sq (by decide) (by decide)
theorem aw5_no : invR prm_285 [[1, 1], [1, 1]] = (2, []) := by
  have hsq := aw5_sq (a := 1) (b := 1) (c := 1) (d := 1) (by decide)
  obtain ⟨hm, -⟩ := sqM_Mx hsq
  exact invR_none prm_285 hsq (prm_285.fld.iv_twice (n := 2) (hm.bd prm_285) (a := 0) (b := 1) (by decide) (by decide) (by decide) fun j hj => by
    match j, hj with
    | 0, _ => rfl
    | 1, _ => rfl)
theorem aw5_rank : rankR prm_285 [[1, 1], [1, 1]] = (1, 0) := by
  have hsq := aw5_sq (a := 1) (b := 1) (c := 1) (d := 1) (by decide)
  obtain ⟨hm, -⟩ := sqM_Mx hsq
  rw [rankR_sq prm_285 hsq]
  show (((prm_285.fld.rk 2 (en [[1, 1], [1, 1]]) 2 : Nat) : Int), (0 : Int)) = _
  have h1 : prm_285.fld.rk 2 (en [[1, 1], [1, 1]]) 2 < 2 := prm_285.fld.rk_sing (prm_285.fld.iv_twice (n := 2) (hm.bd prm_285) (a := 0) (b := 1) (by decide) (by decide) (by decide) fun j hj => by
    match j, hj with
    | 0, _ => rfl
    | 1, _ => rfl)
  have h2 := prm_285.fld.rk_pos (n := 2) (c := 2) (hm.bd prm_285) (i := 0) (j := 0) (by decide) (by decide) (show (1 : Nat) ≠ 0 by decide)
  rw [show prm_285.fld.rk 2 (en [[1, 1], [1, 1]]) 2 = 1 by omega]
  rfl
theorem aw5_inv : ∃ x, invR prm_285 [[1, 1], [1, 2]] = (0, x) ∧ x.length = 2 := by
  have hsq := aw5_sq (a := 1) (b := 1) (c := 1) (d := 2) (by decide)
  obtain ⟨hm, -⟩ := sqM_Mx hsq
  have e : ([[1, 1], [1, 2]] : Mtx) = vrows prm_285 [1, 2] := by
    have hv : ∀ i k : Nat, vtab prm_285 [1, 2] i k = prm_285.fld.pow ([1, 2].getD i 0) k := fun _ _ => rfl
    show _ = tab 2 2 (vtab prm_285 [1, 2])
    have h0 : ∀ x, prm_285.fld.pow x 0 = 1 := fun _ => rfl
    have h1 : prm_285.fld.pow 1 1 = 1 := prm_285.fld.pow_one 1 (by rw [prm_285.fld_w]; decide)
    have h2 : prm_285.fld.pow 2 1 = 2 := prm_285.fld.pow_one 2 (by rw [prm_285.fld_w]; decide)
    show _ = [[((prm_285.fld.pow 1 0 : Nat) : Int), ((prm_285.fld.pow 1 1 : Nat) : Int)], [((prm_285.fld.pow 2 0 : Nat) : Int), ((prm_285.fld.pow 2 1 : Nat) : Int)]]
    rw [h0, h1, h0, h2]
    rfl
  have h0 : (invR prm_285 [[1, 1], [1, 2]]).1 = 0 := by
    rw [e]
    exact (vrows_inv prm_285 (l := [1, 2]) (by decide) (by decide) (by decide)).1.2 (by decide)
  obtain ⟨g, -, -, h⟩ := inv_reg prm_285 hsq h0
  exact ⟨_, h, tab_length _ _ _⟩
end Go.Gam

/- Matrices of powers: what package vander tells; rows that are chosen. No program in sight. -/
set_option linter.unusedVariables false
set_option linter.unusedSimpArgs false
namespace Go.Gam
open Px

theorem gpow_nn {wb p : Nat} (hp : Prm wb p) (x n : Int) : 0 ≤ gpow (some (wb, p)) x n ∧ gpow (some (wb, p)) x n < ((2 ^ wb : Nat) : Int) := by
  have h0 := hp.size.1
  unfold gpow
  split
  · have := hp.pow_lt x.toNat n.toNat
    exact ⟨Int.natCast_nonneg _, by show ((Px.pow x.toNat p n.toNat : Nat) : Int) < _; omega⟩
  · exact ⟨by omega, by omega⟩
/-- Powers of the rows' numbers; of powers of 2. -/
def pwT (o : Fq) : Tb := fun i j => (gpow o (i : Int) (j : Int)).toNat
def isT (o : Fq) : Tb := fun i j => (gpow o (gpow o 2 (i : Int)) (j : Int)).toNat
def fitB (o : Fq) (k m : Int) : Bool := o.isSome && decide (1 ≤ k ∧ 1 ≤ m ∧ k < 20 ∧ m < 20 ∧ k + m ≤ 20)
def rawB (o : Fq) (k m : Int) : Bool := o.isSome && decide (1 ≤ k ∧ k ≤ 20 ∧ 1 ≤ m ∧ m ≤ 20)
def rawM (o : Fq) (k m : Int) : Option Mtx := if rawB o k m = true then some (tab k.toNat m.toNat (pwT o)) else none
def isalM (o : Fq) (k m : Int) : Option Mtx := if fitB o k m = true then some (tab m.toNat k.toNat (isT o)) else none
section
variable {wb p : Nat} (hp : Prm wb p)
def vinv (k : Nat) : Tb := (hp.fld.iv k fun i j => hp.fld.pow i j).getD I1
def sysT (k : Nat) : Tb := hp.fld.mm k (fun i j => hp.fld.pow i j) (vinv hp k)
def sysM (k m : Int) : Option Mtx := if fitB (some (wb, p)) k m = true then some (tab (k + m).toNat k.toNat (sysT hp k.toNat)) else none
theorem pwT_pow {i j : Nat} (hi : i < 256) : pwT (some (wb, p)) i j = hp.fld.pow i j := by
  unfold pwT
  have := hp.size.1
  rw [gpow_fld hp (by omega), Int.toNat_natCast]
theorem isT_pow {i j : Nat} : isT (some (wb, p)) i j = hp.fld.pow (hp.fld.pow 2 i) j := by
  unfold isT
  have := hp.size.1
  have h2 : hp.fld.pow 2 i < 2 ^ wb := by have := hp.fld.pow_lt 2 i; rwa [hp.fld_w] at this
  rw [show (2 : Int) = ((2 : Nat) : Int) from rfl, gpow_fld hp (by omega), gpow_fld hp h2, Int.toNat_natCast]
theorem vinv_ok {k : Nat} (hk : k ≤ 256) : hp.fld.iv k (fun i j => hp.fld.pow i j) = some (vinv hp k) ∧ hp.fld.Iv k (fun i j => hp.fld.pow i j) (vinv hp k) := by
  have h16 := hp.size.1
  have hb : hp.fld.Bd fun i j => hp.fld.pow i j := fun i j => hp.fld.pow_lt _ _
  obtain ⟨g, hg⟩ := hp.fld.vander (n := k) (x := fun i => if i < 256 then i else 0) (fun i => by rw [hp.fld_w]; split <;> omega) (fun i j hi hj e => by
    rw [if_pos (by omega), if_pos (by omega)] at e
    exact e)
  have hc := hp.fld.iv_congr (n := k) (f := fun i j => hp.fld.pow i j) (g := fun i k => hp.fld.pow (if i < 256 then i else 0) k) hb (fun i j => hp.fld.pow_lt _ _) fun i j hi _ => by rw [if_pos (by omega)]
  rw [hg] at hc
  obtain ⟨g', hg'⟩ := Option.isSome_iff_exists.1 hc
  have e : vinv hp k = g' := by unfold vinv; rw [hg']; rfl
  rw [e]
  exact ⟨hg', hp.fld.iv_some hb hg'⟩
theorem tab_take {n k m : Nat} {f : Tb} (h : k ≤ n) : (tab n m f).take k = tab k m f := by
  unfold tab
  rw [← List.map_take, List.take_range, Nat.min_eq_left h]
theorem tab_drop {n k m : Nat} {f : Tb} (h : k ≤ n) : (tab n m f).drop k = tab (n - k) m fun i j => f (k + i) j := by
  unfold tab
  apply List.ext_getElem?
  intro i
  rw [List.getElem?_drop, List.getElem?_map, List.getElem?_map]
  by_cases hi : i < n - k
  · rw [List.getElem?_range hi, List.getElem?_range (show k + i < n by omega)]; rfl
  · rw [List.getElem?_eq_none (by simp; omega), List.getElem?_eq_none (by simp; omega)]; rfl
/-- The first rows' inverse, as it is told. -/
theorem raw_inv {k : Nat} (h1 : 1 ≤ k) (h2 : k ≤ 20) : invR hp (tab k k (pwT (some (wb, p)))) = (0, tab k k (vinv hp k)) := by
  have e : tab k k (pwT (some (wb, p))) = tab k k fun i j => hp.fld.pow i j := tab_congr fun i j hi _ => pwT_pow hp (by omega)
  rw [e]
  have hb : hp.fld.Bd fun i j => hp.fld.pow i j := fun i j => hp.fld.pow_lt _ _
  have hm := mx_tab hp (n := k) (m := k) hb
  have hl : (tab k k fun i j => hp.fld.pow i j).length = k := tab_length _ _ _
  obtain ⟨hi, hI⟩ := vinv_ok hp (k := k) (by omega)
  have hI2 := hI.congr hp.fld (hm.bd hp) fun i j hi hj => (en_tab hi hj : en (tab k k fun i j => hp.fld.pow i j) i j = _)
  obtain ⟨g, hg⟩ := hp.fld.iv_of_Iv hI2
  have hu := (hp.fld.iv_some (hm.bd hp) hg).uniq hp.fld hI.bd' fun i j hi hj => hI2.r i j hi hj
  rw [invR_some hp (hm.sq h1 h2) (g := g) (by rw [hl]; exact hg), hl]
  congr 1
  exact tab_congr fun i j hi hj => (hu i j hi hj).symm
theorem sys_mul {k m : Nat} (h1 : 1 ≤ k) (h2 : 1 ≤ m) (h3 : k + m ≤ 20) : mulM (some (wb, p)) (tab (k + m) k (pwT (some (wb, p)))) (tab k k (vinv hp k)) = some (tab (k + m) k (sysT hp k)) := by
  have hb : hp.fld.Bd fun i j => hp.fld.pow i j := fun i j => hp.fld.pow_lt _ _
  have e : tab (k + m) k (pwT (some (wb, p))) = tab (k + m) k fun i j => hp.fld.pow i j := tab_congr fun i j hi _ => pwT_pow hp (by omega)
  rw [e, mulM_tab hp (mx_tab hp hb) (mx_tab hp (vinv_ok hp (show k ≤ 256 by omega)).2.bd') ⟨by omega, by omega⟩ ⟨h1, by omega⟩ ⟨h1, by omega⟩]
  congr 1
  exact tab_congr fun i j hi hj => xsum_congr fun l hl => by rw [en_tab hi hl, en_tab hl hj]
end

/-! ### rows chosen -/
/-- What is chosen so far; which ones that are, bit by bit; where. -/
def stC (rows step : Nat) (s : List Nat × Nat × Nat) : List Nat × Nat × Nat :=
  let o := if s.2.1.testBit s.2.2 then s.1 else s.1 ++ [s.2.2]
  let b := if s.2.1.testBit s.2.2 then s.2.1 else s.2.1 ||| 1 <<< s.2.2
  let a := (s.2.2 + step) % rows
  (o, b, if b.testBit a then (a + 1) % rows else a)
def chS (rows step at0 : Nat) : Nat → List Nat × Nat × Nat
  | 0 => ([], 0, at0)
  | i + 1 => stC rows step (chS rows step at0 i)
def chI (rows step : Nat) : Nat → List Nat × Nat × Nat → List Nat × Nat × Nat
  | 0, s => s
  | i + 1, s => chI rows step i (stC rows step s)
theorem chI_st (rows step : Nat) : ∀ i s, chI rows step (i + 1) s = stC rows step (chI rows step i s)
  | 0, _ => rfl
  | i + 1, s => by rw [chI, chI_st rows step i, chI]
theorem chS_I (rows step at0 : Nat) : ∀ i, chS rows step at0 i = chI rows step i ([], 0, at0)
  | 0 => rfl
  | i + 1 => by rw [chS, chS_I rows step at0 i, ← chI_st]
/-- How many are chosen. -/
def chN (rows step : Nat) : Nat → Nat → Nat → Nat → Nat
  | 0, n, _, _ => n
  | i + 1, n, b, t =>
    bif Nat.beq ((b >>> t) % 2) 1 then
      (bif Nat.beq ((b >>> ((t + step) % rows)) % 2) 1 then chN rows step i n b (((t + step) % rows + 1) % rows) else chN rows step i n b ((t + step) % rows))
    else
      (bif Nat.beq (((b ||| 1 <<< t) >>> ((t + step) % rows)) % 2) 1 then chN rows step i (n + 1) (b ||| 1 <<< t) (((t + step) % rows + 1) % rows) else chN rows step i (n + 1) (b ||| 1 <<< t) ((t + step) % rows))
theorem beq_bit (b t : Nat) : Nat.beq ((b >>> t) % 2) 1 = b.testBit t := by
  rw [Nat.testBit_eq_decide_div_mod_eq, Nat.shiftRight_eq_div_pow]
  rw [Bool.eq_iff_iff, decide_eq_true_iff, Nat.beq_eq]
theorem chN_I (rows step : Nat) : ∀ i s, chN rows step i s.1.length s.2.1 s.2.2 = (chI rows step i s).1.length
  | 0, _ => rfl
  | i + 1, s => by
    rw [chI, ← chN_I rows step i, chN, beq_bit, beq_bit, beq_bit]
    unfold stC
    cases h : s.2.1.testBit s.2.2 with
    | true =>
      simp only [cond_true, if_true]
      cases h2 : s.2.1.testBit ((s.2.2 + step) % rows) <;> simp only [cond_true, cond_false, if_true, if_false, Bool.false_eq_true]
    | false =>
      simp only [cond_false, Bool.false_eq_true, if_false, List.length_append, List.length_singleton]
      cases h2 : (s.2.1 ||| 1 <<< s.2.2).testBit ((s.2.2 + step) % rows) <;> simp only [cond_true, cond_false, if_true, if_false, Bool.false_eq_true]
def chOk : Bool := (List.range 21).all fun rows => (List.range rows).all fun t => (List.range rows).all fun step => Nat.ble (rows - 1) (chN rows step (2 * rows) 0 0 t)
theorem chOk_t : chOk = true := by decide +kernel
/-- As many as are asked for are chosen. -/
theorem chS_many {rows step t : Nat} (h : rows ≤ 20) (ht : t < rows) : rows - 1 ≤ (chS rows (step % rows) t (2 * rows)).1.length := by
  have h1 := chOk_t
  unfold chOk at h1
  rw [List.all_eq_true] at h1
  have h2 := h1 rows (List.mem_range.2 (by omega))
  rw [List.all_eq_true] at h2
  have h3 := h2 t (List.mem_range.2 ht)
  rw [List.all_eq_true] at h3
  have h4 := h3 (step % rows) (List.mem_range.2 (Nat.mod_lt _ (by omega)))
  rw [chS_I, ← chN_I]
  exact Nat.le_of_ble_eq_true h4
theorem chS_at {rows step t : Nat} (h : 0 < rows) (ht : t < rows) : ∀ i, (chS rows step t i).2.2 < rows
  | 0 => ht
  | i + 1 => by
    show (stC _ _ _).2.2 < rows
    unfold stC
    dsimp only
    split <;> (try split) <;> exact Nat.mod_lt _ h
/-- What is known of the rows that are chosen. -/
theorem chS_ok {rows step t : Nat} (h : 0 < rows) (ht : t < rows) : ∀ i, (chS rows step t i).1.Nodup ∧ ∀ x, (x ∈ (chS rows step t i).1 ↔ (chS rows step t i).2.1.testBit x = true) ∧ (x ∈ (chS rows step t i).1 → x < rows)
  | 0 => ⟨List.nodup_nil, fun x => by simp [chS]⟩
  | i + 1 => by
    obtain ⟨h1, h2⟩ := chS_ok (step := step) h ht i
    have h3 := chS_at (step := step) h ht i
    show (stC _ _ _).1.Nodup ∧ ∀ x, (x ∈ (stC _ _ _).1 ↔ (stC _ _ _).2.1.testBit x = true) ∧ (x ∈ (stC _ _ _).1 → x < rows)
    generalize chS rows step t i = s at *
    unfold stC
    dsimp only
    cases hb : s.2.1.testBit s.2.2 with
    | true => simp only [if_true]; exact ⟨h1, h2⟩
    | false =>
      simp only [Bool.false_eq_true, if_false]
      have hni : s.2.2 ∉ s.1 := fun hm => by rw [(h2 _).1.1 hm] at hb; cases hb
      refine ⟨List.pairwise_append.2 ⟨h1, List.pairwise_singleton _ _, fun a ha b hb' => ?_⟩, fun x => ⟨?_, fun hx => ?_⟩⟩
      · obtain rfl : b = s.2.2 := by simpa using hb'
        exact fun e => hni (e ▸ ha)
      · rw [List.mem_append, Nat.testBit_or, Bool.or_eq_true, (h2 x).1, Nat.one_shiftLeft, Nat.testBit_two_pow]
        simp only [List.mem_singleton, decide_eq_true_iff]
        exact ⟨fun h => h.imp id Eq.symm, fun h => h.imp id Eq.symm⟩
      · rcases List.mem_append.1 hx with hx | hx
        · exact (h2 x).2 hx
        · obtain rfl : x = s.2.2 := by simpa using hx
          exact h3
def bls (b : Nat) : List Value := (List.range 20).map fun x => .bool (b.testBit x)
@[simp] theorem bls_length (b : Nat) : (bls b).length = 20 := by simp [bls]
theorem bls_zero : List.replicate 20 (Value.bool false) = bls 0 := by simp [bls]; rfl
theorem bls_at {b x : Nat} (h : x < 20) : (bls b)[x]? = some (.bool (b.testBit x)) := by simp [bls, h]
theorem bls_set {b x : Nat} (h : x < 20) : (bls b).set x (.bool true) = bls (b ||| 1 <<< x) := by
  apply List.ext_getElem?
  intro l
  by_cases hl : l < 20
  · rw [bls_at hl, List.getElem?_set]
    by_cases e : x = l
    · subst e
      rw [if_pos rfl, if_pos (by simpa using h), Nat.testBit_or, Nat.one_shiftLeft, Nat.testBit_two_pow]
      simp
    · rw [if_neg e, bls_at hl, Nat.testBit_or, Nat.one_shiftLeft, Nat.testBit_two_pow]
      simp [e]
  · rw [List.getElem?_eq_none (by simp; omega), List.getElem?_eq_none (by simp; omega)]
theorem Fo.ptr {D : FD} {B : Nat} {w : World} {v : Value} {o : Fq} (h : Fo D B w v o) : ∃ a, v = .pointer a ∧ a.isSome = o.isSome := by
  cases o with
  | none => exact ⟨none, h, rfl⟩
  | some q => obtain ⟨-, k, rfl, -⟩ := h; exact ⟨_, rfl, rfl⟩
theorem rawM_no {o : Fq} {k m : Int} (h : rawB o k m = false) : rawM o k m = none := by unfold rawM; rw [h]; rfl
theorem isalM_no {o : Fq} {k m : Int} (h : fitB o k m = false) : isalM o k m = none := by unfold isalM; rw [h]; rfl
theorem fitB_iff {o : Fq} {k m : Int} : fitB o k m = true ↔ o.isSome = true ∧ 1 ≤ k ∧ 1 ≤ m ∧ k < 20 ∧ m < 20 ∧ k + m ≤ 20 := by unfold fitB; rw [Bool.and_eq_true, decide_eq_true_iff]
theorem fitB_none (k m : Int) : fitB none k m = false := rfl
theorem pwT_nn {o : Fq} (h : ∀ wb p, o = some (wb, p) → Prm wb p) (x n : Int) : ((gpow o x n).toNat : Int) = gpow o x n := by
  cases o with
  | none => unfold gpow; split <;> simp [fpow]
  | some q => obtain ⟨wb, p⟩ := q; have := gpow_nn (h wb p rfl) x n; omega
theorem Fo.prms {D : FD} {B : Nat} {w : World} {v : Value} {o : Fq} (h : Fo D B w v o) : ∀ wb p, o = some (wb, p) → Prm wb p := fun wb p e => by subst e; exact h.1
end Go.Gam

/- Rows of the identity with other rows behind it: which of them, as many as columns, have an inverse; minors. No program in sight. -/
set_option linter.unusedVariables false
set_option linter.unusedSimpArgs false
namespace Go.Gam
open Px

/-! ### sums over a list -/
def xsumL : List Nat → (Nat → Nat) → Nat
  | [], _ => 0
  | j :: r, f => f j ^^^ xsumL r f
theorem xsumL_app (f : Nat → Nat) : ∀ (a b : List Nat), xsumL (a ++ b) f = xsumL a f ^^^ xsumL b f
  | [], b => by simp [xsumL]
  | j :: r, b => by rw [List.cons_append, xsumL, xsumL_app f r b, xsumL, Nat.xor_assoc]
theorem xsumL_range (f : Nat → Nat) : ∀ n, xsumL (List.range n) f = xsum n f
  | 0 => rfl
  | n + 1 => by rw [List.range_succ, xsumL_app, xsumL_range f n, xsum]; simp [xsumL]
theorem xsumL_filter {f : Nat → Nat} {p : Nat → Bool} : ∀ {L : List Nat}, (∀ j ∈ L, p j = false → f j = 0) → xsumL L f = xsumL (L.filter p) f
  | [], _ => rfl
  | j :: r, h => by
    have ih := xsumL_filter (L := r) fun j hj => h j (List.mem_cons_of_mem _ hj)
    cases hp : p j with
    | true => rw [List.filter_cons_of_pos hp, xsumL, xsumL, ih]
    | false => rw [List.filter_cons_of_neg (by simp [hp]), xsumL, ih, h j (List.mem_cons_self ..) hp, Nat.zero_xor]
theorem xsumL_len (f : Nat → Nat) : ∀ J : List Nat, xsumL J f = xsum J.length fun b => f (J.getD b 0)
  | [] => rfl
  | j :: r => by
    rw [xsumL, xsumL_len f r, List.length_cons, Nat.add_comm r.length 1, xsum_add]
    congr 1
    · show f j = 0 ^^^ f j; rw [Nat.zero_xor]
    · exact xsum_congr fun i _ => by rw [Nat.add_comm 1 i]; rfl
theorem sub_len {a b : List Nat} (ha : a.Nodup) (h : ∀ x ∈ a, x ∈ b) : a.length ≤ b.length := by
  by_cases hl : b.length ≤ a.length
  · exact Nat.le_of_eq (Fld.perm_of_sub a b ha h hl).length_eq
  · omega
theorem filter_two {α : Type} (p : α → Bool) : ∀ l : List α, (l.filter p).length + (l.filter fun x => !p x).length = l.length
  | [] => rfl
  | x :: r => by
    have ih := filter_two p r
    cases h : p x <;> simp [h] <;> omega

/-! ### minors -/
/-- The rows behind the identity that are chosen; the columns that no chosen row of the identity has. -/
def parR (k : Nat) (l : List Nat) : List Nat := (l.filter fun x => decide (k ≤ x)).map (· - k)
def misJ (k : Nat) (l : List Nat) : List Nat := (List.range k).filter fun j => !decide (j ∈ l)
theorem par_mis {k : Nat} {l : List Nat} (hl : l.length = k) (hn : l.Nodup) : (parR k l).length = (misJ k l).length := by
  have h1 := filter_two (fun x => decide (k ≤ x)) l
  have h2 := filter_two (fun j => decide (j ∈ l)) (List.range k)
  have e : (l.filter fun x => !decide (k ≤ x)).length = ((List.range k).filter fun j => decide (j ∈ l)).length := by
    apply Nat.le_antisymm
    · exact sub_len (hn.filter _) fun x hx => by
        simp only [List.mem_filter, Bool.not_eq_true', decide_eq_false_iff_not] at hx
        simp only [List.mem_filter, List.mem_range, decide_eq_true_iff]
        exact ⟨by omega, hx.1⟩
    · exact sub_len (List.nodup_range.filter _) fun x hx => by
        simp only [List.mem_filter, List.mem_range, decide_eq_true_iff] at hx
        simp only [List.mem_filter, Bool.not_eq_true', decide_eq_false_iff_not]
        exact ⟨hx.2, by omega⟩
  unfold parR misJ
  rw [List.length_map]
  rw [List.length_range] at h2
  omega
theorem parR_nodup {k : Nat} {l : List Nat} (hn : l.Nodup) : (parR k l).Nodup := by
  refine List.Pairwise.map _ (R := fun a b => k ≤ a ∧ k ≤ b ∧ a ≠ b) (fun a b h e => h.2.2 (by omega)) ?_
  refine List.Pairwise.imp_of_mem (fun ha hb hne => ?_) (hn.filter _)
  simp only [List.mem_filter, decide_eq_true_iff] at ha hb
  exact ⟨ha.2, hb.2, hne⟩
theorem misJ_nodup (k : Nat) (l : List Nat) : (misJ k l).Nodup := List.nodup_range.filter _
theorem parR_lt {k m : Nat} {l : List Nat} (h : ∀ x ∈ l, x < k + m) : ∀ r ∈ parR k l, r < m := fun r hr => by
  obtain ⟨x, hx, rfl⟩ := List.mem_map.1 hr
  simp only [List.mem_filter, decide_eq_true_iff] at hx
  have := h x hx.1
  omega
theorem misJ_lt {k : Nat} {l : List Nat} : ∀ j ∈ misJ k l, j < k := fun j hj => List.mem_range.1 (List.mem_filter.1 hj).1
def mnr (C : Tb) (R J : List Nat) : Tb := fun a b => C (R.getD a 0) (J.getD b 0)
/-- The identity's k rows, with others behind it. -/
def beh (k : Nat) (C : Tb) : Tb := fun i j => if i < k then I1 i j else C (i - k) j
namespace Fld
variable (F : Fld)
theorem mnr_bd {C : Tb} (h : F.Bd C) (R J : List Nat) : F.Bd (mnr C R J) := fun a b => h _ _
theorem beh_bd {k : Nat} {C : Tb} (h : F.Bd C) : F.Bd (beh k C) := fun i j => by unfold beh; split; exact F.I1_bd _ _; exact h _ _
theorem getD_mem {L : List Nat} {i : Nat} (h : i < L.length) : L.getD i 0 ∈ L := by rw [getD_of h]; exact List.getElem_mem h
theorem row_par {k : Nat} {C : Tb} {l : List Nat} {y : Nat → Nat} (hy : ∀ j, j < k → j ∈ l → y j = 0) (r : Nat) :
    (xsum k fun j => F.mul (C r j) (y j)) = xsum (misJ k l).length fun b => F.mul (C r ((misJ k l).getD b 0)) (y ((misJ k l).getD b 0)) := by
  rw [← xsumL_range, xsumL_filter (p := fun j => !decide (j ∈ l)) (fun j hj hp => by
    rw [hy j (List.mem_range.1 hj) (by simpa using hp), F.mul_zero])]
  exact xsumL_len _ _
/-- Chosen rows have an inverse, if the minor that they leave has. -/
theorem mds_of {k m : Nat} {C : Tb} {l : List Nat} (hC : F.Bd C) (hl : l.length = k) (hn : l.Nodup) (h : (F.iv (parR k l).length (mnr C (parR k l) (misJ k l))).isSome = true) :
    ∃ g, F.iv k (fun i j => beh k C (l.getD i 0) j) = some g := by
  obtain ⟨g, hg⟩ := Option.isSome_iff_exists.1 h
  have hI := F.iv_some (F.mnr_bd hC _ _) hg
  have hlen := par_mis hl hn
  refine F.iv_ofR (fun i j => F.beh_bd hC _ _) fun y h1 h2 => ?_
  have hin : ∀ x ∈ l, (xsum k fun j => F.mul (beh k C x j) (y j)) = 0 := fun x hx => by
    obtain ⟨i, hi⟩ := List.getElem?_of_mem hx
    have hil := (List.getElem?_eq_some_iff.1 hi).1
    have := h2 i (by omega)
    rw [List.getD_eq_getElem?_getD, hi] at this
    exact this
  have hid : ∀ j, j < k → j ∈ l → y j = 0 := fun j hj hjl => by
    have := hin j hjl
    rw [xsum_congr (g := fun s => F.mul (I1 j s) (y s)) fun s _ => by unfold beh; rw [if_pos hj]] at this
    have e := F.mm_idl (n := k) (f := fun s _ => y s) (i := j) (j := 0) hj (h1 j)
    unfold mm at e
    rw [← e]; exact this
  have hz : ∀ b, b < (parR k l).length → y ((misJ k l).getD b 0) = 0 := by
    refine hI.right F (y := fun b => y ((misJ k l).getD b 0)) (fun b => h1 _) fun a ha => ?_
    have hr := getD_mem ha
    obtain ⟨x, hx, hxe⟩ := List.mem_map.1 hr
    simp only [List.mem_filter, decide_eq_true_iff] at hx
    have := hin x hx.1
    rw [xsum_congr (g := fun s => F.mul (C (x - k) s) (y s)) fun s _ => by unfold beh; rw [if_neg (by omega)], F.row_par hid, ← hlen] at this
    unfold mnr
    rw [← hxe]
    exact this
  intro j hj
  by_cases hjl : j ∈ l
  · exact hid j hj hjl
  · have hm : j ∈ misJ k l := List.mem_filter.2 ⟨List.mem_range.2 hj, by simpa using hjl⟩
    obtain ⟨b, hb⟩ := List.getElem?_of_mem hm
    have hbl := (List.getElem?_eq_some_iff.1 hb).1
    have := hz b (by omega)
    rw [List.getD_eq_getElem?_getD, hb] at this
    exact this
/-- And the other way. -/
theorem mds_to {k m : Nat} {C : Tb} {l : List Nat} (hC : F.Bd C) (hl : l.length = k) (hn : l.Nodup) (h : (F.iv k (fun i j => beh k C (l.getD i 0) j)).isSome = true) :
    ∃ g, F.iv (parR k l).length (mnr C (parR k l) (misJ k l)) = some g := by
  obtain ⟨g, hg⟩ := Option.isSome_iff_exists.1 h
  have hI := F.iv_some (fun i j => F.beh_bd hC _ _) hg
  have hlen := par_mis hl hn
  refine F.iv_ofR (F.mnr_bd hC _ _) fun z h1 h2 => ?_
  let y : Nat → Nat := fun j => if j ∈ misJ k l then z ((misJ k l).idxOf j) else 0
  have hyb : ∀ j, y j < 2 ^ F.w := fun j => by
    show (if _ then _ else _) < _
    split
    · exact h1 _
    · exact F.zero_lt
  have hid : ∀ j, j < k → j ∈ l → y j = 0 := fun j hj hjl => if_neg fun hm => by
    have := (List.mem_filter.1 hm).2
    simp [hjl] at this
  have hyz : ∀ b, b < (misJ k l).length → y ((misJ k l).getD b 0) = z b := fun b hb => by
    show (if _ then _ else _) = _
    rw [if_pos (getD_mem hb), getD_of hb, List.Nodup.idxOf_getElem (misJ_nodup k l) b hb]
  have hy0 := hI.right F hyb fun i hi => by
    have hx := getD_mem (L := l) (i := i) (by omega)
    generalize l.getD i 0 = x at hx
    by_cases hxk : x < k
    · rw [xsum_congr (g := fun s => F.mul (I1 x s) (y s)) fun s _ => by unfold beh; rw [if_pos hxk]]
      have e := F.mm_idl (n := k) (f := fun s _ => y s) (i := x) (j := 0) hxk (hyb x)
      unfold mm at e
      rw [e]; exact hid x hxk hx
    · rw [xsum_congr (g := fun s => F.mul (C (x - k) s) (y s)) fun s _ => by unfold beh; rw [if_neg hxk], F.row_par hid]
      have hxp : x - k ∈ parR k l := List.mem_map.2 ⟨x, List.mem_filter.2 ⟨hx, by simpa using hxk⟩, rfl⟩
      obtain ⟨a, ha⟩ := List.getElem?_of_mem hxp
      have hal := (List.getElem?_eq_some_iff.1 ha).1
      have := h2 a hal
      unfold mnr at this
      rw [List.getD_eq_getElem?_getD, ha, hlen] at this
      exact Eq.trans (xsum_congr fun b hb => by rw [hyz b hb]; rfl) this
  intro b hb
  rw [← hyz b (by omega)]
  exact hy0 _ (misJ_lt _ (getD_mem (by omega)))

/-! ### rows of powers, columns for rows -/
theorem pow_tr {r : Nat} {x z : Nat → Nat} (hx : ∀ b, x b < 2 ^ F.w) (hu : ∀ a b, a < r → b < r → x a = x b → a = b) (hz : ∀ b, z b < 2 ^ F.w) (h : ∀ e, e < r → (xsum r fun b => F.mul (F.pow (x b) e) (z b)) = 0) : ∀ b, b < r → z b = 0 := by
  obtain ⟨g, hg⟩ := F.vander hx hu
  have hI := F.iv_some (fun i j => F.pow_lt _ _) hg
  exact hI.left F hz fun e he => by rw [← h e he]; exact xsum_congr fun b _ => F.comm _ _
theorem sq_inj {a b : Nat} (ha : a < 2 ^ F.w) (hb : b < 2 ^ F.w) (h : F.mul a a = F.mul b b) : a = b := by
  have h1 := F.sq_xor a b
  rw [h, Nat.xor_self] at h1
  rcases F.nzd _ _ (Px.xor_lt ha hb) (Px.xor_lt ha hb) h1 with h2 | h2 <;> exact Px.xor_eq_zero h2
theorem pow_two (a : Nat) (h : a < 2 ^ F.w) : F.pow a 2 = F.mul a a := by rw [show 2 = 1 + 1 from rfl, F.pow_add, F.pow_one a h]
/-- Three rows at most of powers of unlike numbers, the first three: any of them, of as many columns. -/
theorem three {R J : List Nat} {x : Nat → Nat} (hx : ∀ j, x j < 2 ^ F.w) (hx0 : ∀ j ∈ J, x j ≠ 0) (hu : ∀ i ∈ J, ∀ j ∈ J, x i = x j → i = j) (hR : R.Nodup) (hR3 : ∀ e ∈ R, e < 3) (hJ : J.Nodup) (hl : R.length = J.length) :
    ∃ g, F.iv R.length (mnr (fun i j => F.pow (x j) i) R J) = some g := by
  refine F.iv_ofR (fun a b => F.pow_lt _ _) fun z hz h => ?_
  have hrow : ∀ e ∈ R, (xsum R.length fun b => F.mul (F.pow (x (J.getD b 0)) e) (z b)) = 0 := fun e he => by
    obtain ⟨a, ha⟩ := List.getElem?_of_mem he
    have := h a (List.getElem?_eq_some_iff.1 ha).1
    unfold mnr at this
    rw [List.getD_eq_getElem?_getD, ha] at this
    exact this
  have hJu : ∀ a b, a < R.length → b < R.length → x (J.getD a 0) = x (J.getD b 0) → a = b := fun a b ha hb e => by
    have h1 := hu _ (getD_mem (L := J) (by omega)) _ (getD_mem (L := J) (by omega)) e
    rw [getD_of (show a < J.length by omega), getD_of (show b < J.length by omega)] at h1
    refine Classical.byContradiction fun hne => ?_
    rcases Nat.lt_or_gt_of_ne hne with h' | h'
    · exact List.pairwise_iff_getElem.1 hJ a b _ _ h' h1
    · exact List.pairwise_iff_getElem.1 hJ b a _ _ h' h1.symm
  have hJ0 : ∀ b, b < R.length → x (J.getD b 0) ≠ 0 := fun b hb => hx0 _ (getD_mem (by omega))
  generalize hX : (fun b => x (J.getD b 0)) = X
  have hXe : ∀ b, x (J.getD b 0) = X b := fun b => by rw [← hX]
  have hXb : ∀ b, X b < 2 ^ F.w := fun b => by rw [← hXe]; exact hx _
  simp only [hXe] at hrow hJu hJ0
  clear hX hXe hl h
  -- all rows from 0 on
  have full : (∀ e, e < R.length → e ∈ R) → ∀ b, b < R.length → z b = 0 := fun hf => F.pow_tr hXb hJu hz fun e he => hrow e (hf e he)
  match R, hR, hR3, hrow, hJu, hJ0, full with
  | [], _, _, _, _, _, _ => intro b hb; simp at hb
  | [e], _, _, hrow, _, hJ0, _ =>
    intro b hb
    have hb0 : b = 0 := by simpa using hb
    subst hb0
    have h1 := hrow e (by simp)
    simp only [List.length_singleton, xsum, Nat.zero_xor] at h1
    rcases F.nzd _ _ (F.pow_lt _ _) (hz 0) h1 with h2 | h2
    · exact absurd h2 (F.pow_ne (hXb 0) (hJ0 0 (by simp)) e)
    · exact h2
  | [e, f], hR, hR3, hrow, hJu, hJ0, full =>
    have hef : e ≠ f := by simpa using hR
    have he := hR3 e (by simp)
    have hf := hR3 f (by simp)
    have cases3 : (0 ∈ [e, f] ∧ 1 ∈ [e, f]) ∨ (0 ∈ [e, f] ∧ 2 ∈ [e, f]) ∨ (1 ∈ [e, f] ∧ 2 ∈ [e, f]) := by
      simp only [List.mem_cons, List.mem_nil_iff, or_false]; omega
    rcases cases3 with ⟨h0, h1⟩ | ⟨h0, h1⟩ | ⟨h0, h1⟩
    · exact full fun s hs => by
        have : s = 0 ∨ s = 1 := by simp at hs; omega
        rcases this with rfl | rfl
        · exact h0
        · exact h1
    · refine F.pow_tr (x := fun b => F.mul (X b) (X b)) (fun b => F.lt _ _) (fun a b ha hb h => hJu a b ha hb (F.sq_inj (hXb a) (hXb b) h)) hz fun s hs => ?_
      have : s = 0 ∨ s = 1 := by simp at hs; omega
      rcases this with rfl | rfl
      · exact hrow 0 h0
      · exact Eq.trans (xsum_congr fun b _ => by rw [F.pow_one _ (F.lt _ _), F.pow_two _ (hXb b)]) (hrow 2 h1)
    · have := F.pow_tr (x := X) (z := fun b => F.mul (X b) (z b)) hXb hJu (fun b => F.lt _ _) fun s hs => by
        have : s = 0 ∨ s = 1 := by simp at hs; omega
        rcases this with rfl | rfl
        · exact Eq.trans (xsum_congr fun b _ => by rw [F.pow_one _ (hXb b)]; exact F.one _ (F.lt _ _)) (hrow 1 h0)
        · exact Eq.trans (xsum_congr fun b _ => by rw [F.pow_one _ (hXb b), F.pow_two _ (hXb b), F.assoc]) (hrow 2 h1)
      intro b hb
      rcases F.nzd _ _ (hXb b) (hz b) (this b hb) with h2 | h2
      · exact absurd h2 (hJ0 b hb)
      · exact h2
  | [e, f, g], hR, hR3, _, _, _, full =>
    have he := hR3 e (by simp)
    have hf := hR3 f (by simp)
    have hg := hR3 g (by simp)
    simp at hR
    exact full fun s hs => by
      have : s = 0 ∨ s = 1 ∨ s = 2 := by simp at hs; omega
      simp only [List.mem_cons, List.mem_nil_iff, or_false]
      omega
  | e :: f :: g :: i :: r, hR, hR3, _, _, _, _ =>
    have he := hR3 e (by simp)
    have hf := hR3 f (by simp)
    have hg := hR3 g (by simp)
    have hi := hR3 i (by simp)
    simp at hR
    omega
end Fld
end Go.Gam

/- What the statements of layer 6 ask of matrices of powers. No program in sight. -/
set_option linter.unusedVariables false
set_option linter.unusedSimpArgs false
namespace Go.Gam
open Px

def casts (l : List Nat) : List Int := l.map fun (x : Nat) => (x : Int)
theorem casts_length (l : List Nat) : (casts l).length = l.length := by simp [casts]
section
variable {wb p : Nat} (hp : Prm wb p)
theorem tab_lens {n m : Nat} {f : Tb} (hn : n ≤ 20) (hm : m ≤ 20) : (tab n m f).length ≤ 20 ∧ ∀ r ∈ tab n m f, r.length ≤ 20 :=
  ⟨by rw [tab_length]; exact hn, fun r hr => by obtain ⟨i, _, rfl⟩ := List.mem_map.1 hr; simpa using hm⟩
theorem inv0 {k : Nat} {f : Tb} (hb : hp.fld.Bd f) (h1 : 1 ≤ k) (h2 : k ≤ 20) (h : ∃ g, hp.fld.iv k f = some g) : (invR hp (tab k k f)).1 = 0 := by
  have hm := mx_tab hp (n := k) (m := k) hb
  have hl : (tab k k f).length = k := tab_length _ _ _
  obtain ⟨g, hg⟩ := h
  have hc := hp.fld.iv_congr (n := k) (hm.bd hp) hb fun i j hi hj => (en_tab hi hj : en (tab k k f) i j = f i j)
  rw [hg] at hc
  obtain ⟨g', hg'⟩ := Option.isSome_iff_exists.1 hc
  rw [invR_some hp (hm.sq h1 h2) (g := g') (by rw [hl]; exact hg')]
theorem pick_tab {n k : Nat} {f : Tb} {l : List Nat} (hb : hp.fld.Bd f) (hn : 1 ≤ n ∧ n ≤ 20) (hk : 1 ≤ k ∧ k ≤ 20) (hl : 1 ≤ l.length ∧ l.length ≤ 20) (h : ∀ x ∈ l, x < n) :
    pickM (some (wb, p)) (tab n k f) (casts l) = some (tab l.length k fun i j => f (l.getD i 0) j) := by
  have hm := mx_tab hp (n := n) (m := k) hb
  rw [pickM_t (hm.may hn.1 hn.2 hk.1 hk.2) (by rw [casts_length]; exact hl) (List.all_eq_true.2 fun z hz => by
    obtain ⟨x, hx, rfl⟩ := List.mem_map.1 hz
    have := h x hx
    rw [tab_length]
    exact decide_eq_true ⟨by omega, by omega⟩)]
  congr 1
  unfold casts
  rw [List.map_map]
  apply List.ext_getElem?
  intro i
  by_cases hi : i < l.length
  · rw [List.getElem?_map, List.getElem?_eq_getElem hi, tab_at hi]
    show some (rowM _ _) = _
    congr 1
    have hx := h l[i] (List.getElem_mem hi)
    rw [show ((fun (x : Nat) => (x : Int)) l[i]) = ((l[i] : Nat) : Int) from rfl, rowM_of (tab_at hx), getD_of hi]
  · rw [List.getElem?_eq_none (by simp; omega), List.getElem?_eq_none (by rw [tab_length]; omega)]
theorem join_tab {n m k : Nat} {f g : Tb} (hf : hp.fld.Bd f) (hg : hp.fld.Bd g) (hn : 1 ≤ n) (hm : 1 ≤ m) (hnm : n + m ≤ 20) (hk : 1 ≤ k ∧ k ≤ 20) :
    joinM (some (wb, p)) (tab n k f) (tab m k g) = some (tab (n + m) k fun i j => if i < n then f i j else g (i - n) j) := by
  rw [joinM_t ((mx_tab hp hf).may hn (by omega) hk.1 hk.2) ((mx_tab hp hg).may hm (by omega) hk.1 hk.2) (by rw [wid_tab (by omega), wid_tab (by omega)]) (by rw [tab_length, tab_length]; omega)]
  congr 1
  unfold tab
  rw [List.range_add, List.map_append, List.map_map]
  congr 1
  · exact List.map_congr_left fun i hi => by simp only [List.mem_range.1 hi, if_true]
  · refine List.map_congr_left fun i _ => ?_
    show _ = List.map _ _
    refine List.map_congr_left fun j _ => ?_
    show _ = ((if n + i < n then f (n + i) j else g (n + i - n) j : Nat) : Int)
    rw [if_neg (by omega), Nat.add_sub_cancel_left]
/-! ### with the identity ahead -/
theorem sysM_is {k m : Nat} (h1 : 1 ≤ k) (h2 : 1 ≤ m) (h3 : k + m ≤ 20) : sysM hp (k : Int) (m : Int) = some (tab (k + m) k (sysT hp k)) := by
  unfold sysM fitB
  rw [if_pos (by rw [decide_eq_true (by omega)]; rfl)]
  rfl
theorem isalM_is {o : Fq} (ho : o.isSome = true) {k m : Nat} (h1 : 1 ≤ k) (h2 : 1 ≤ m) (h3 : k + m ≤ 20) : isalM o (k : Int) (m : Int) = some (tab m k (isT o)) := by
  unfold isalM fitB
  rw [if_pos (by rw [ho, decide_eq_true (by omega)]; rfl)]
  rfl
theorem rawM_is {o : Fq} (ho : o.isSome = true) {k m : Nat} (h1 : 1 ≤ k) (h2 : k ≤ 20) (h3 : 1 ≤ m) (h4 : m ≤ 20) : rawM o (k : Int) (m : Int) = some (tab k m (pwT o)) := by
  unfold rawM rawB
  rw [if_pos (by rw [ho, decide_eq_true (by omega)]; rfl)]
  rfl
theorem sysT_bd (k : Nat) : hp.fld.Bd (sysT hp k) := hp.fld.mm_bd _ _ _
theorem pts_inv {k : Nat} {l : List Nat} (hl : l.length = k) (hn : l.Nodup) (h : ∀ x ∈ l, x < 256) : ∃ g, hp.fld.iv k (fun i j => hp.fld.pow (l.getD i 0) j) = some g := by
  have h16 := hp.size.1
  refine hp.fld.vander (x := fun i => l.getD i 0) (fun i => ?_) fun i j hi hj e => ?_
  · rw [hp.fld_w, List.getD_eq_getElem?_getD]
    cases hi : l[i]? with
    | none => simp; omega
    | some x => have := h x (List.mem_of_getElem? hi); simp; omega
  · rw [getD_of (show i < l.length by omega), getD_of (show j < l.length by omega)] at e
    refine Classical.byContradiction fun hne => ?_
    rcases Nat.lt_or_gt_of_ne hne with h' | h'
    · exact List.pairwise_iff_getElem.1 hn i j _ _ h' e
    · exact List.pairwise_iff_getElem.1 hn j i _ _ h' e.symm
theorem van_iv {k : Nat} {l : List Nat} (hk : k ≤ 20) (hl : l.length = k) (hn : l.Nodup) (h : ∀ x ∈ l, x < 256) : ∃ g, hp.fld.iv k (fun i j => sysT hp k (l.getD i 0) j) = some g := by
  obtain ⟨g, hg⟩ := pts_inv hp hl hn h
  have h1 := hp.fld.iv_some (fun i j => hp.fld.pow_lt _ _) hg
  have h2 := (vinv_ok hp (k := k) (by omega)).2.symm
  exact hp.fld.iv_of_Iv (h1.mul hp.fld h2)
theorem van_any {k m : Nat} {l : List Nat} (h1 : 1 ≤ k) (h2 : 1 ≤ m) (h3 : k + m ≤ 20) (hl : l.length = k) (hn : l.Nodup) (h : ∀ x ∈ l, x < k + m) :
    ∃ P, pickM (some (wb, p)) (tab (k + m) k (sysT hp k)) (casts l) = some P ∧ (invR hp P).1 = 0 := by
  refine ⟨_, pick_tab hp (sysT_bd hp k) ⟨by omega, h3⟩ ⟨h1, by omega⟩ ⟨by omega, by omega⟩ h, ?_⟩
  rw [hl]
  exact inv0 hp (fun i j => sysT_bd hp k _ _) h1 (by omega) (van_iv hp (by omega) hl hn fun x hx => by have := h x hx; omega)
theorem sys_id {k m : Nat} (h : k ≤ 20) : (tab (k + m) k (sysT hp k)).take k = idM k := by
  rw [tab_take (by omega), idM_tab]
  exact tab_congr fun i j hi hj => (vinv_ok hp (k := k) (by omega)).2.r i j hi hj
theorem sysT_one (i : Nat) : sysT hp 1 i 0 = 1 := by
  have h1 := (vinv_ok hp (k := 1) (by decide)).2
  have e := h1.r 0 0 (by decide) (by decide)
  have hb := h1.bd' 0 0
  have h : ∀ i : Nat, hp.fld.mm 1 (fun i j => hp.fld.pow i j) (vinv hp 1) i 0 = vinv hp 1 0 0 := fun i => by
    show (0 ^^^ hp.fld.mul 1 (vinv hp 1 0 0)) = _
    rw [Nat.zero_xor, hp.fld.one _ hb]
  rw [h] at e
  show hp.fld.mm 1 _ _ i 0 = 1
  rw [h, e]; rfl
/-! ### ISA-L's -/
include hp in
theorem isT_zero_r (i : Nat) : isT (some (wb, p)) i 0 = 1 := by rw [isT_pow hp]; rfl
include hp in
theorem isT_zero_l (j : Nat) : isT (some (wb, p)) 0 j = 1 := by rw [isT_pow hp]; exact hp.fld.one_pow j
include hp in
theorem isT_bd : hp.fld.Bd (isT (some (wb, p))) := fun i j => by rw [isT_pow hp]; exact hp.fld.pow_lt _ _
theorem two_inj {i j : Nat} (hi : i < 255) (hj : j < 255) (h : hp.fld.pow 2 i = hp.fld.pow 2 j) : i = j := by
  have ho := hp.order
  rw [← hp.pw_pow, ← hp.pw_pow] at h
  exact hp.pw_inj (by omega) (by omega) h
theorem join_id {k m : Nat} {f : Tb} (hf : hp.fld.Bd f) (h1 : 1 ≤ k) (h2 : 1 ≤ m) (h3 : k + m ≤ 20) : joinM (some (wb, p)) (idM k) (tab m k f) = some (tab (k + m) k (beh k f)) := by
  rw [idM_tab]; exact join_tab hp hp.fld.I1_bd hf h1 h2 h3 ⟨h1, by omega⟩
theorem isal_any {k m : Nat} {l : List Nat} (h1 : 1 ≤ k) (h2 : 1 ≤ m) (h3 : k + m ≤ 20) (hm3 : m ≤ 3) (hl : l.length = k) (hn : l.Nodup) (h : ∀ x ∈ l, x < k + m) :
    ∃ J P, joinM (some (wb, p)) (idM k) (tab m k (isT (some (wb, p)))) = some J ∧ pickM (some (wb, p)) J (casts l) = some P ∧ (invR hp P).1 = 0 := by
  have hb := hp.fld.beh_bd (k := k) (isT_bd hp)
  refine ⟨tab (k + m) k (beh k (isT (some (wb, p)))), _, ?_, pick_tab hp hb ⟨by omega, h3⟩ ⟨h1, by omega⟩ ⟨by omega, by omega⟩ h, ?_⟩
  · rw [idM_tab]; exact join_tab hp hp.fld.I1_bd (isT_bd hp) h1 h2 h3 ⟨h1, by omega⟩
  · rw [hl]
    refine inv0 hp (fun i j => hb _ _) h1 (by omega) (hp.fld.mds_of (m := m) (isT_bd hp) hl hn ?_)
    have hlen := par_mis hl hn
    have hR := parR_lt h
    obtain ⟨g, hg⟩ := hp.fld.three (R := parR k l) (J := misJ k l) (x := fun j => hp.fld.pow 2 j) (fun j => hp.fld.pow_lt _ _) (fun j _ => hp.fld.pow_ne hp.two_lt (by decide) j) (fun i hi j hj e => by
      have := misJ_lt i hi
      have := misJ_lt j hj
      exact two_inj hp (by omega) (by omega) e) (parR_nodup hn) (fun e he => by have := hR e he; omega) (misJ_nodup k l) hlen
    have e : mnr (isT (some (wb, p))) (parR k l) (misJ k l) = mnr (fun i j => hp.fld.pow (hp.fld.pow 2 j) i) (parR k l) (misJ k l) := by
      funext a b
      show isT _ _ _ = hp.fld.pow (hp.fld.pow 2 _) _
      rw [isT_pow hp, hp.fld.pow_mul, hp.fld.pow_mul, Nat.mul_comm]
    rw [e, hg]; rfl
end
theorem sysM_no {wb p : Nat} (hp : Prm wb p) {k m : Int} (h : fitB (some (wb, p)) k m = false) : sysM hp k m = none := if_neg (by rw [h]; decide)
theorem aw6_isal : isalM (some (8, 285)) 2 2 = some [[1, 1], [1, 2]] := by
  rw [show isalM (some (8, 285)) 2 2 = some (tab 2 2 (isT (some (8, 285)))) from isalM_is rfl (k := 2) (m := 2) (by decide) (by decide) (by decide)]
  show some [[((isT (some (8, 285)) 0 0 : Nat) : Int), ((isT (some (8, 285)) 0 1 : Nat) : Int)], [((isT (some (8, 285)) 1 0 : Nat) : Int), ((isT (some (8, 285)) 1 1 : Nat) : Int)]] = _
  rw [isT_zero_r prm_285, isT_zero_l prm_285, isT_zero_r prm_285, isT_pow prm_285, prm_285.fld.pow_one _ (prm_285.fld.pow_lt _ _), prm_285.fld.pow_one 2 (by rw [prm_285.fld_w]; decide)]
  rfl
theorem aw6_raw : rawM (some (8, 285)) 3 2 = some [[1, 0], [1, 1], [1, 2]] := by
  rw [show rawM (some (8, 285)) 3 2 = some (tab 3 2 (pwT (some (8, 285)))) from rawM_is rfl (k := 3) (m := 2) (by decide) (by decide) (by decide) (by decide)]
  show some [[((pwT (some (8, 285)) 0 0 : Nat) : Int), ((pwT (some (8, 285)) 0 1 : Nat) : Int)], [((pwT (some (8, 285)) 1 0 : Nat) : Int), ((pwT (some (8, 285)) 1 1 : Nat) : Int)], [((pwT (some (8, 285)) 2 0 : Nat) : Int), ((pwT (some (8, 285)) 2 1 : Nat) : Int)]] = _
  rw [pwT_pow prm_285 (by decide), pwT_pow prm_285 (by decide), pwT_pow prm_285 (by decide), pwT_pow prm_285 (by decide), pwT_pow prm_285 (by decide), pwT_pow prm_285 (by decide)]
  rw [prm_285.fld.pow_one 0 (by rw [prm_285.fld_w]; decide), prm_285.fld.pow_one 1 (by rw [prm_285.fld_w]; decide), prm_285.fld.pow_one 2 (by rw [prm_285.fld_w]; decide)]
  rfl
theorem Mat.three {D : FD} {B N cap : Nat} {w : World} {E2 : TypeId} {sa : Option Addr} {b : Option Nat} {u v x : Value} {r s t : List Int} (h : Own D B N w E2 (.slice sa 3 cap) b [u, v, x]) (hE : E2 ≠ D.T) (hr : Row D B w.heap.size w u (zints r)) (hs : Row D B w.heap.size w v (zints s)) (ht : Row D B w.heap.size w x (zints t)) : Mat D B w.heap.size w sa cap [r, s, t] :=
  ⟨[u, v, x], rfl, h.row hE, fun j v' r' hv hr' => by
    match j with
    | 0 => simp at hv hr'; subst hv; subst hr'; exact hr
    | 1 => simp at hv hr'; subst hv; subst hr'; exact hs
    | 2 => simp at hv hr'; subst hv; subst hr'; exact ht
    | j + 3 => simp at hv⟩
theorem aw6_len (a b c d : Int) : ([[a, b], [c, d]] : Mtx).length ≤ 1000 ∧ ∀ r ∈ ([[a, b], [c, d]] : Mtx), r.length ≤ 1000 := by
  refine ⟨by simp, fun r hr => ?_⟩
  simp only [List.mem_cons, List.mem_nil_iff, or_false] at hr
  rcases hr with rfl | rfl <;> simp
theorem aw6_len3 (a b c d e f : Int) : ([[a, b], [c, d], [e, f]] : Mtx).length ≤ 1000 ∧ ∀ r ∈ ([[a, b], [c, d], [e, f]] : Mtx), r.length ≤ 1000 := by
  refine ⟨by simp, fun r hr => ?_⟩
  simp only [List.mem_cons, List.mem_nil_iff, or_false] at hr
  rcases hr with rfl | rfl | rfl <;> simp
end Go.Gam

/- Jerasure's rows of powers, their columns reduced, what is left behind the identity. No program in sight. -/
set_option linter.unusedVariables false
set_option linter.unusedSimpArgs false
set_option linter.unusedSectionVars false
namespace Go.Gam
open Px

/-- Columns. -/
def colS (i q x : Nat) (f : Tb) : Tb := fun r j => if r < x then f r (Fld.sw i q j) else f r j
namespace Fld
variable (F : Fld)
def scC (fr j c x : Nat) (f : Tb) : Tb := fun r l => if fr ≤ r ∧ r < x ∧ l = j then F.mul (f r l) c else f r l
def clC (i j x : Nat) (f : Tb) : Tb := fun r l => if l ≠ i ∧ (l < j ∨ l = j ∧ r < x) then f r l ^^^ F.mul (f r i) (f i l) else f r l
theorem colS_bd {i q x : Nat} {f : Tb} (h : F.Bd f) : F.Bd (colS i q x f) := fun r j => by unfold colS; split <;> exact h _ _
theorem scC_bd {fr j c x : Nat} {f : Tb} (h : F.Bd f) : F.Bd (F.scC fr j c x f) := fun r l => by unfold scC; split; exact F.lt _ _; exact h _ _
theorem clC_bd {i j x : Nat} {f : Tb} (h : F.Bd f) : F.Bd (F.clC i j x f) := fun r l => by unfold clC; split; exact Px.xor_lt (h _ _) (F.lt _ _); exact h _ _
/-- One step's table. -/
def stC (n k i : Nat) (f : Tb) : Tb := tr (F.stp (tr f) k i i).1
theorem stC_is {n k i q : Nat} {f : Tb} (hq : piv (tr f) k i i (k - i) = some q) (hi : i < n) : ∀ r, r < n → ∀ l, l < k → F.clC i k 0 (F.scC 0 i (F.inv (f i q)) n (colS i q n f)) r l = F.stC n k i f r l := by
  intro r hr l hl
  unfold stC stp
  rw [hq]
  show _ = F.op i q (F.inv (f i q)) (fun a => f i (sw i q a)) (tr f) l r
  have e1 : ∀ a j, a < n → colS i q n f a j = f a (sw i q j) := fun a j ha => if_pos ha
  have e2 : ∀ a j, a < n → F.scC 0 i (F.inv (f i q)) n (colS i q n f) a j = if j = i then F.mul (f a (sw i q j)) (F.inv (f i q)) else f a (sw i q j) := fun a j ha => by
    unfold scC; rw [e1 a j ha]
    by_cases h : j = i
    · rw [if_pos ⟨Nat.zero_le _, ha, h⟩, if_pos h]
    · rw [if_neg (fun c => h c.2.2), if_neg h]
  have e3 : sw i q i = q := if_pos rfl
  unfold clC Fld.op tr
  rw [e2 r l hr, e2 r i hr, e2 i l hi, e3, if_pos rfl]
  by_cases h : l = i
  · rw [if_neg (fun c => c.1 h), if_pos h, if_pos h, h, e3]
  · rw [if_pos ⟨h, .inl hl⟩, if_neg h, if_neg h, if_neg h, F.comm (F.mul (f r q) _)]
/-- Full rank at the end: full rank all the way. -/
theorem red_all {n k : Nat} {f : Tb} (hf : F.Bd f) (h : (F.red n f k).2 = k) : ∀ d c, c + d = k → (F.red n f c).2 = c
  | 0, c, e => by obtain rfl : c = k := e; exact h
  | d + 1, c, e => by
    have ih := red_all hf h d (c + 1) (by omega)
    have h1 := (F.red_ok (n := n) hf c).tc
    have h2 : (F.red n f (c + 1)).2 = (F.stp (F.red n f c).1 n c (F.red n f c).2).2 := rfl
    rw [ih] at h2
    unfold stp at h2
    split at h2
    · dsimp only at h2; omega
    · dsimp only at h2; omega
/-- Rows and columns times numbers that aren't 0. -/
theorem iv_scaled {n : Nat} {f g : Tb} {a b : Nat → Nat} (hf : F.Bd f) (hg : F.Bd g) (ha : ∀ j, a j < 2 ^ F.w) (hb : ∀ i, b i < 2 ^ F.w) (ha0 : ∀ j, j < n → a j ≠ 0) (hb0 : ∀ i, i < n → b i ≠ 0)
    (h : ∀ i j, i < n → j < n → g i j = F.mul (F.mul (f i j) (a j)) (b i)) (hi : (F.iv n f).isSome = true) : ∃ x, F.iv n g = some x := by
  obtain ⟨x, hx⟩ := Option.isSome_iff_exists.1 hi
  have hI := F.iv_some hf hx
  refine F.iv_of hg fun y h1 h2 i hin => ?_
  have h3 := hI.left F (y := fun l => F.mul (y l) (b l)) (fun l => F.lt _ _) (fun j hj => by
    have e := h2 j hj
    rw [xsum_congr (g := fun l => F.mul (F.mul (F.mul (y l) (b l)) (f l j)) (a j)) fun l hl => by
      rw [h l j hl hj, F.comm (F.mul (f l j) (a j)), F.assoc (F.mul (y l) (b l)), F.assoc (y l)], ← xsum_mul] at e
    rcases F.nzd _ _ (xsum_lt fun l _ => F.lt _ _) (ha j) e with e | e
    · exact e
    · exact absurd e (ha0 j hj)) i hin
  rcases F.nzd _ _ (h1 i) (hb i) h3 with e | e
  · exact e
  · exact absurd e (hb0 i hin)
end Fld

def extT (o : Fq) (k m : Nat) : Tb := fun i j => if i = k + m - 1 then (if j = k - 1 then 1 else 0) else pwT o i j
def extM (o : Fq) (k m : Int) : Option Mtx := if fitB o k m = true then some (tab (k + m).toNat k.toNat (extT o k.toNat m.toNat)) else none
theorem extM_no {o : Fq} {k m : Int} (h : fitB o k m = false) : extM o k m = none := by unfold extM; rw [h]; rfl
section
variable {wb p : Nat} (hp : Prm wb p)
include hp in
theorem pwT_bd : hp.fld.Bd (pwT (some (wb, p))) := fun i j => by
  have := gpow_nn hp (i : Int) (j : Int)
  unfold pwT
  rw [hp.fld_w]; omega
include hp in
theorem extT_bd (k m : Nat) : hp.fld.Bd (extT (some (wb, p)) k m) := fun i j => by
  have := hp.fld.one_lt; have := hp.fld.zero_lt
  unfold extT
  split
  · split <;> omega
  · exact pwT_bd hp i j
/-- Any k of the rows have an inverse. -/
theorem ext_iv {k m : Nat} {l : List Nat} (hk : 1 ≤ k) (h20 : k + m ≤ 20) (hl : l.length = k) (hn : l.Nodup) (h : ∀ x ∈ l, x < k + m) : ∃ g, hp.fld.iv k (fun i j => extT (some (wb, p)) k m (l.getD i 0) j) = some g := by
  have hbd : hp.fld.Bd (fun i j => extT (some (wb, p)) k m (l.getD i 0) j) := fun i j => extT_bd hp k m _ _
  have hot : ∀ x, x < k + m → x ≠ k + m - 1 → ∀ j, extT (some (wb, p)) k m x j = hp.fld.pow x j := fun x hx hne j => by
    unfold extT; rw [if_neg hne]; exact pwT_pow hp (by omega)
  by_cases hlast : k + m - 1 ∈ l
  · refine hp.fld.iv_ofR hbd fun y h1 h2 => ?_
    have hrow : ∀ x ∈ l, (xsum k fun s => hp.fld.mul (extT (some (wb, p)) k m x s) (y s)) = 0 := fun x hx => by
      obtain ⟨i, hi⟩ := List.getElem?_of_mem hx
      have hil := (List.getElem?_eq_some_iff.1 hi).1
      have := h2 i (by omega)
      rw [List.getD_eq_getElem?_getD, hi] at this
      exact this
    have hy : y (k - 1) = 0 := by
      have e := hrow _ hlast
      rw [xsum_single (i := k - 1) (by omega) (fun j _ hj => by unfold extT; rw [if_pos rfl, if_neg hj, hp.fld.zero_mul])] at e
      unfold extT at e
      rw [if_pos rfl, if_pos rfl, hp.fld.one _ (h1 _)] at e
      exact e
    obtain ⟨g, hg⟩ := pts_inv hp (k := k - 1) (l := l.erase (k + m - 1)) (by rw [List.length_erase_of_mem hlast, hl]) (hn.erase _) (fun x hx => by have := h x (List.mem_of_mem_erase hx); omega)
    have hI := hp.fld.iv_some (fun i j => hp.fld.pow_lt _ _) hg
    have hz := hI.right hp.fld h1 (fun j hj => by
      have hjl : j < (l.erase (k + m - 1)).length := by rw [List.length_erase_of_mem hlast, hl]; exact hj
      have hx := Fld.getD_mem hjl
      generalize (l.erase (k + m - 1)).getD j 0 = x at hx
      have hxl := List.mem_of_mem_erase hx
      have hne : x ≠ k + m - 1 := ((hn.mem_erase_iff).1 hx).1
      have e := hrow x hxl
      obtain ⟨k', rfl⟩ : ∃ k', k = k' + 1 := ⟨k - 1, by omega⟩
      rw [xsum_congr (g := fun s => hp.fld.mul (hp.fld.pow x s) (y s)) fun s _ => by rw [hot x (h x hxl) hne]] at e
      have e2 : xsum (k' + 1) (fun s => hp.fld.mul (hp.fld.pow x s) (y s)) = xsum k' (fun s => hp.fld.mul (hp.fld.pow x s) (y s)) ^^^ hp.fld.mul (hp.fld.pow x k') (y k') := rfl
      rw [e2, show y k' = 0 from hy, hp.fld.mul_zero, Nat.xor_zero] at e
      exact e)
    intro i hi
    by_cases e : i = k - 1
    · rw [e]; exact hy
    · exact hz i (by omega)
  · obtain ⟨g, hg⟩ := pts_inv hp hl hn (fun x hx => by have := h x hx; omega)
    have := hp.fld.iv_congr (f := fun i j => hp.fld.pow (l.getD i 0) j) (g := fun i j => extT (some (wb, p)) k m (l.getD i 0) j) (n := k) (fun i j => hp.fld.pow_lt _ _) hbd (fun i j hi _ => by
      have hx := Fld.getD_mem (L := l) (i := i) (by omega)
      exact (hot _ (h _ hx) (fun e => hlast (e ▸ hx)) j).symm)
    rw [hg] at this
    exact Option.isSome_iff_exists.1 this.symm
theorem ext_top {k m : Nat} (hk : 1 ≤ k) (hm : 1 ≤ m) (h20 : k + m ≤ 20) : ∃ g, hp.fld.iv k (extT (some (wb, p)) k m) = some g := by
  obtain ⟨g, hg⟩ := ext_iv hp (l := List.range k) hk h20 (by simp) List.nodup_range (fun x hx => by have := List.mem_range.1 hx; omega)
  have := hp.fld.iv_congr (f := fun i j => extT (some (wb, p)) k m ((List.range k).getD i 0) j) (g := extT (some (wb, p)) k m) (n := k) (fun i j => extT_bd hp k m _ _) (extT_bd hp k m) (fun i j hi _ => by
    rw [getD_of (show i < (List.range k).length by simpa using hi), List.getElem_range])
  rw [hg] at this
  exact Option.isSome_iff_exists.1 this.symm
/-- The table once i columns are reduced. -/
def redC (k m i : Nat) : Tb := Fld.tr (hp.fld.red k (Fld.tr (extT (some (wb, p)) k m)) i).1
theorem tr_bd {f : Tb} (h : hp.fld.Bd f) : hp.fld.Bd (Fld.tr f) := fun i j => h j i
theorem redC_bd (k m i : Nat) : hp.fld.Bd (redC hp k m i) := tr_bd hp (hp.fld.red_ok (tr_bd hp (extT_bd hp k m)) i).bd
theorem redC_zero (k m : Nat) : redC hp k m 0 = extT (some (wb, p)) k m := rfl
theorem redC_full {k m : Nat} (hk : 1 ≤ k) (hm : 1 ≤ m) (h20 : k + m ≤ 20) : ∀ c, c ≤ k → (hp.fld.red k (Fld.tr (extT (some (wb, p)) k m)) c).2 = c := fun c hc => by
  obtain ⟨g, hg⟩ := ext_top hp hk hm h20
  have h1 := (hp.fld.iv_some (extT_bd hp k m) hg).tr hp.fld
  obtain ⟨g', hg'⟩ := hp.fld.iv_of_Iv h1
  have h2 := hp.fld.rk_iv (n := k) (f := Fld.tr (extT (some (wb, p)) k m)) (by rw [hg']; rfl)
  exact hp.fld.red_all (tr_bd hp (extT_bd hp k m)) h2 (k - c) c (by omega)
/-- There is a column to begin with. -/
theorem redC_piv {k m i : Nat} (hk : 1 ≤ k) (hm : 1 ≤ m) (h20 : k + m ≤ 20) (hi : i < k) : ∃ q, Fld.piv (Fld.tr (redC hp k m i)) k i i (k - i) = some q ∧ redC hp k m (i + 1) = hp.fld.stC (k + m) k i (redC hp k m i) := by
  have h1 := redC_full hp hk hm h20 i (by omega)
  have h2 := redC_full hp hk hm h20 (i + 1) hi
  have e : hp.fld.red k (Fld.tr (extT (some (wb, p)) k m)) (i + 1) = hp.fld.stp (hp.fld.red k (Fld.tr (extT (some (wb, p)) k m)) i).1 k i i := by
    show hp.fld.stp _ k i _ = _
    rw [h1]
  rw [e] at h2
  unfold redC Fld.stC
  rw [e]
  unfold Fld.stp at h2
  show ∃ q, Fld.piv (hp.fld.red k (Fld.tr (extT (some (wb, p)) k m)) i).1 k i i (k - i) = some q ∧ _
  cases hq : Fld.piv (hp.fld.red k (Fld.tr (extT (some (wb, p)) k m)) i).1 k i i (k - i) with
  | none => rw [hq] at h2; dsimp only at h2; omega
  | some q => exact ⟨q, rfl, rfl⟩
/-- What is behind the identity. -/
def jG (k m : Nat) : Tb := fun r j => redC hp k m k (k + r) j
theorem jG_bd (k m : Nat) : hp.fld.Bd (jG hp k m) := fun r j => redC_bd hp k m k _ _
theorem jG_ex {k m : Nat} (hk : 1 ≤ k) (hm : 1 ≤ m) (h20 : k + m ≤ 20) : ∃ C C', hp.fld.Iv k C C' ∧ ∀ i j, j < k → beh k (jG hp k m) i j = hp.fld.mm k (extT (some (wb, p)) k m) C i j := by
  have hr := hp.fld.red_ok (n := k) (tr_bd hp (extT_bd hp k m)) k
  have ht := redC_full hp hk hm h20 k (Nat.le_refl _)
  obtain ⟨E, E', hE, he⟩ := hr.ex
  obtain ⟨q, hq, hqe⟩ := hr.pv
  refine ⟨Fld.tr E, Fld.tr E', hE.tr hp.fld, fun i j hj => ?_⟩
  have hx : redC hp k m k i j = hp.fld.mm k (extT (some (wb, p)) k m) (Fld.tr E) i j := 
    (he j i hj).trans (hp.fld.mm_tr k (Fld.tr (extT (some (wb, p)) k m)) E i j).symm
  rw [← hx]
  unfold beh
  split
  · rename_i hi
    have := (hq i (by rw [ht]; exact hi)).2 j hj
    rw [hqe ht i (by rw [ht]; exact hi)] at this
    show _ = (hp.fld.red k (Fld.tr (extT (some (wb, p)) k m)) k).1 j i
    rw [this]
    unfold I1
    by_cases e : i = j
    · rw [if_pos e, if_pos e.symm]
    · rw [if_neg e, if_neg (Ne.symm e)]
  · show redC hp k m k (k + (i - k)) j = _
    rw [show k + (i - k) = i by omega]
theorem jG_any {k m : Nat} {l : List Nat} (hk : 1 ≤ k) (hm : 1 ≤ m) (h20 : k + m ≤ 20) (hl : l.length = k) (hn : l.Nodup) (h : ∀ x ∈ l, x < k + m) : ∃ g, hp.fld.iv k (fun i j => beh k (jG hp k m) (l.getD i 0) j) = some g := by
  obtain ⟨C, C', hC, he⟩ := jG_ex hp hk hm h20
  obtain ⟨g, hg⟩ := ext_iv hp hk h20 hl hn h
  have h1 := (hp.fld.iv_some (fun i j => extT_bd hp k m _ _) hg).mul hp.fld hC
  exact hp.fld.iv_of_Iv (h1.congr hp.fld (fun i j => hp.fld.beh_bd (jG_bd hp k m) _ _) fun i j _ hj => he _ j hj)
theorem jG_ne {k m r j : Nat} (hk : 1 ≤ k) (hm : 1 ≤ m) (h20 : k + m ≤ 20) (hr : r < m) (hj : j < k) : jG hp k m r j ≠ 0 := fun h0 => by
  obtain ⟨g, hg⟩ := jG_any hp (l := (List.range k).set j (k + r)) hk hm h20 (by simp) (by
    refine List.pairwise_iff_getElem.2 fun a b ha hb hab => ?_
    simp only [List.length_set, List.length_range] at ha hb
    rw [List.getElem_set, List.getElem_set]
    simp only [List.getElem_range]
    split <;> split <;> omega) (fun x hx => by
      rcases List.mem_or_eq_of_mem_set hx with h | h
      · have := List.mem_range.1 h; omega
      · omega)
  have hI := hp.fld.iv_some (fun i j => hp.fld.beh_bd (jG_bd hp k m) _ _) hg
  have := hI.right hp.fld (y := fun s => if s = j then 1 else 0) (fun s => by have := hp.fld.one_lt; have := hp.fld.zero_lt; show (if s = j then 1 else 0) < _; split <;> omega) (fun i hi => by
    rw [xsum_single (i := j) hj (fun s _ hs => by rw [if_neg hs, hp.fld.mul_zero])]
    by_cases e : i = j
    · rw [e, getD_of (show j < ((List.range k).set j (k + r)).length by simpa using hj), List.getElem_set_self]
      unfold beh; rw [if_neg (by omega), show k + r - k = r by omega, h0, hp.fld.zero_mul]
    · rw [getD_of (show i < ((List.range k).set j (k + r)).length by simpa using hi), List.getElem_set_ne (Ne.symm e), List.getElem_range]
      unfold beh I1; rw [if_pos hi, if_neg e, hp.fld.zero_mul]) j hj
  simp at this
/-- The parity rows. -/
def jA (k m : Nat) : Nat → Nat := fun j => hp.fld.inv (jG hp k m 0 j)
def jC (k m : Nat) : Tb := fun r j => hp.fld.mul (jG hp k m r j) (jA hp k m j)
def jB (k m : Nat) : Nat → Nat := fun r => if r = 0 then 1 else hp.fld.inv (jC hp k m r 0)
def parT (k m : Nat) : Tb := fun r j => hp.fld.mul (jC hp k m r j) (jB hp k m r)
def parM (k m : Int) : Option Mtx := if fitB (some (wb, p)) k m = true then some (tab m.toNat k.toNat (parT hp k.toNat m.toNat)) else none
theorem jA_lt (k m j : Nat) : jA hp k m j < 2 ^ hp.fld.w := hp.fld.inv_lt _
theorem jC_bd (k m : Nat) : hp.fld.Bd (jC hp k m) := fun r j => hp.fld.lt _ _
theorem jB_lt (k m r : Nat) : jB hp k m r < 2 ^ hp.fld.w := by unfold jB; split; exact hp.fld.one_lt; exact hp.fld.inv_lt _
theorem parT_bd (k m : Nat) : hp.fld.Bd (parT hp k m) := fun r j => hp.fld.lt _ _
theorem parT_zero {k m j : Nat} : parT hp k m 0 j = jC hp k m 0 j := by unfold parT jB; rw [if_pos rfl, hp.fld.mul_one _ (jC_bd hp k m _ _)]
theorem parT_pos {k m r j : Nat} (h : r ≠ 0) : parT hp k m r j = hp.fld.mul (jC hp k m r j) (hp.fld.inv (jC hp k m r 0)) := by unfold parT jB; rw [if_neg h]
variable {k m : Nat} (hk : 1 ≤ k) (hm : 1 ≤ m) (h20 : k + m ≤ 20)
include hk hm h20
theorem jA_ne {j : Nat} (hj : j < k) : jA hp k m j ≠ 0 := hp.fld.inv_ne (jG_bd hp k m _ _) (jG_ne hp hk hm h20 (by omega) hj)
theorem jC_ne {r j : Nat} (hr : r < m) (hj : j < k) : jC hp k m r j ≠ 0 := fun h => by
  rcases hp.fld.nzd _ _ (jG_bd hp k m _ _) (jA_lt hp k m j) h with e | e
  · exact jG_ne hp hk hm h20 hr hj e
  · exact jA_ne hp hk hm h20 hj e
theorem jB_ne {r : Nat} (hr : r < m) : jB hp k m r ≠ 0 := by
  unfold jB; split
  · decide
  · exact hp.fld.inv_ne (jC_bd hp k m _ _) (jC_ne hp hk hm h20 hr (by omega))
theorem parT_ne {r j : Nat} (hr : r < m) (hj : j < k) : parT hp k m r j ≠ 0 := fun h => by
  rcases hp.fld.nzd _ _ (jC_bd hp k m _ _) (jB_lt hp k m r) h with e | e
  · exact jC_ne hp hk hm h20 hr hj e
  · exact jB_ne hp hk hm h20 hr e
theorem parT_top {j : Nat} (hj : j < k) : parT hp k m 0 j = 1 := by
  rw [parT_zero]; exact hp.fld.mul_inv (jG_bd hp k m _ _) (jG_ne hp hk hm h20 (by omega) hj)
theorem parT_left {r : Nat} (hr : r < m) : parT hp k m r 0 = 1 := by
  by_cases e : r = 0
  · subst e; exact parT_top hp hk hm h20 (by omega)
  · rw [parT_pos hp e]; exact hp.fld.mul_inv (jC_bd hp k m _ _) (jC_ne hp hk hm h20 hr (by omega))
theorem par_any {l : List Nat} (hl : l.length = k) (hn : l.Nodup) (h : ∀ x ∈ l, x < k + m) : ∃ g, hp.fld.iv k (fun i j => beh k (parT hp k m) (l.getD i 0) j) = some g := by
  obtain ⟨g, hg⟩ := jG_any hp hk hm h20 hl hn h
  obtain ⟨x, hx⟩ := hp.fld.mds_to (m := m) (jG_bd hp k m) hl hn (by rw [hg]; rfl)
  refine hp.fld.mds_of (m := m) (parT_bd hp k m) hl hn ?_
  have hR := parR_lt h
  have hlen := par_mis hl hn
  obtain ⟨y, hy⟩ := hp.fld.iv_scaled (n := (parR k l).length) (f := mnr (jG hp k m) (parR k l) (misJ k l)) (g := mnr (parT hp k m) (parR k l) (misJ k l)) (a := fun j => jA hp k m ((misJ k l).getD j 0)) (b := fun i => jB hp k m ((parR k l).getD i 0)) (hp.fld.mnr_bd (jG_bd hp k m) _ _) (hp.fld.mnr_bd (parT_bd hp k m) _ _) (fun j => jA_lt hp k m _) (fun i => jB_lt hp k m _)
    (fun j hj => jA_ne hp hk hm h20 (misJ_lt _ (Fld.getD_mem (by omega)))) (fun i hi => jB_ne hp hk hm h20 (hR _ (Fld.getD_mem hi))) (fun i j _ _ => rfl) (by rw [hx]; rfl)
  rw [hy]; rfl
end
end Go.Gam
