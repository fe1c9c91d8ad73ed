/- Texts of the claim CauchyTells (part 6), put together in the order of their imports. -/
import Derived.Test.YtaeljbdpjiciaaaKCauchyTells5
import Derived.Deep.WholeRow
import Derived.MapKept
/- The walk of package invert: reduce. -/
set_option linter.unusedVariables false
set_option linter.unusedSimpArgs false
namespace Go.Proofs.Ytaeljbdpjiciaaa
open Go Go.Gam


namespace FxFInvC
theorem en29 : Ent Try.prog 29 := ent Try.func29 (by kernel_rfl) (by kernel_rfl)
theorem en46 : Ent Try.prog 46 := ent Try.func46 (by kernel_rfl) (by kernel_rfl)
theorem en91 : Ent Try.prog 91 := ent Try.func91 (by kernel_rfl) (by kernel_rfl)
theorem en92 : Ent Try.prog 92 := ent Try.func92 (by kernel_rfl) (by kernel_rfl)
theorem hmix : Try.prog.follows .mixedOrders = true := by kernel_rfl
theorem on3 : Gam.One Try.prog 3 := by unfold Gam.One; kernel_rfl
theorem on37 : Gam.One Try.prog 37 := by unfold Gam.One; kernel_rfl
theorem sc23 : Scalar Try.prog 23 := ⟨_, Try.underlying23, by simp, by simp⟩
theorem sc28 : Scalar Try.prog 28 := ⟨_, Try.underlying28, by simp, by simp⟩
theorem sc3 : Scalar Try.prog 3 := ⟨_, Try.underlying3, by simp, by simp⟩
theorem sc37 : Scalar Try.prog 37 := ⟨_, Try.underlying37, by simp, by simp⟩
theorem sl28 : Sl Try.prog 28 37 (.slice none 0 0) 24 := sl_of Try.underlying28 rfl (by kernel_rfl)
theorem sl37 : Sl Try.prog 37 3 (.int .i64 0) 8 := sl_of Try.underlying37 rfl (by kernel_rfl)
theorem zv3 : Zv Try.prog 3 (.int .i64 0) := zv_of rfl (by kernel_rfl)
end FxFInvC
open FxFInvC

set_option maxRecDepth 100000 in
set_option maxHeartbeats 1000000 in
theorem reduce_ok (B N wb p : Nat) (hp : Prm wb p) (fv : Value) (g cap n m cols : Nat) (bs rc : Nat → Nat) (f : Tb) (w : World) (hI : Inv FDx B w) (hf : Fo FDx B w fv (some (wb, p))) (hO : Gam.Own FDx B N w 37 (.slice (some ⟨g, 0, none⟩) n cap) (some g) (vls n m bs rc)) (hW : Wr FDx B N w.heap.size w n m bs rc f) (hN : N ≤ w.heap.size) (hfb : hp.fld.Bd f) (hcm : cols ≤ m) (hnm : n ≤ 40 ∧ m ≤ 40) : Ret Try.prog 62 [fv, .slice (some ⟨g, 0, none⟩) n cap, .int .i64 (cols : Int)] w fun v w' => v = .int .i64 ((hp.fld.rk n f cols : Nat) : Int) ∧ (∃ bs rc, Gam.Own FDx B N w' 37 (.slice (some ⟨g, 0, none⟩) n cap) (some g) (vls n m bs rc) ∧ Wr FDx B N w.heap.size w' n m bs rc (hp.fld.red n f cols).1) ∧ StZ FDx B (fun k => N ≤ k) w w' := by
 refine enter 102 [(0, fv), (1, .slice (some ⟨g, 0, none⟩) n cap), (2, .int .i64 (cols : Int))] 6 Try.func62 rfl rfl rfl rfl rfl ?_; intro a hF
 have hS := StZ.refl (Z := fun k => N ≤ k) hI
 have hfw := hp.fld_w
 have h16 : 2 ^ wb ≤ 65536 := by rcases hp.w with h | h <;> rw [h] <;> decide
 obtain ⟨KM, hKM⟩ : ∃ k, k = w.heap.size := ⟨_, rfl⟩
 rw [← hKM] at hW
 have hgK : g < KM := by rw [hKM]; exact (hO.lt _ rfl).2
 refine W_sr rfl (fun K hK => ?_)
 obtain ⟨pf, hpf⟩ : ∃ pf, pf = w.heap.size := ⟨_, rfl⟩
 have hKpf : KM ≤ pf := by omega
 refine s_boxN (D := FDx) (B := B) hF rfl (hf.cells1) (by decide) hS.inv rfl ?_; clear hF a; intro w' a hm hI' hbf hsz hF
 replace hf := hf.mb hm
 replace hO := hO.mb hm (fun _ _ => by simp)
 replace hW := hW.mb0 hm
 replace hS := hS.mb0 hm
 clear hm hI' hsz
 rw [← hpf] at hbf hF
 have hkf := hbf.kc
 clear hbf
 obtain ⟨pa, hpa⟩ : ∃ pf, pf = w'.heap.size := ⟨_, rfl⟩
 have hKpa : KM ≤ pa := by have := hS.ext.size; omega
 refine s_boxN (D := FDx) (B := B) hF rfl (rfl) (by decide) hS.inv rfl ?_; clear hF a; intro w' a hm hI' hba hsz hF
 replace hf := hf.mb hm
 replace hO := hO.mb hm (fun _ _ => by simp)
 replace hW := hW.mb0 hm
 replace hkf := hkf.mb hm (by simp)
 replace hS := hS.mb0 hm
 clear hm hI' hsz
 rw [← hpa] at hba hF
 have hka := hba.kc
 clear hba
 refine sv hF (v_assign rfl) rfl ?_; clear hF a; intro a hF
 refine WL_nil (hK _ _ ?_)
 clear hK K
 replace hF := hF.sub _ (c_ 6 rfl (c_ 4 rfl (c_ 3 rfl (c_ 2 rfl (n_)))))
 refine W_scope ?_
 refine W_sr rfl (fun K hK => ?_)
 obtain ⟨pt, hpt⟩ : ∃ pf, pf = w'.heap.size := ⟨_, rfl⟩
 have hKpt : KM ≤ pt := by have := hS.ext.size; omega
 have hlka := hka.2.1
 have hlkf := hkf.2.1
 have hapt : pa < pt := by rw [hpt]; exact hlka
 have hfpt : pf < pt := by rw [hpt]; exact hlkf
 have hgpf : g ≠ pf := by omega
 have hgpa : g ≠ pa := by omega
 refine s_alloc (D := FDx) (B := B) hF zv3 (by decide) hS.inv rfl ?_; clear hF a; intro w' a hm hI' hbt hsz hF
 replace hf := hf.mb hm
 replace hO := hO.mb hm (fun _ _ => by simp)
 replace hW := hW.mb0 hm
 replace hkf := hkf.mb hm (by simp)
 replace hka := hka.mb hm (by simp)
 replace hS := hS.mb0 hm
 clear hm hI' hsz
 rw [← hpt] at hbt hF
 refine s_stb (D := FDx) (B := B) hF on3 rfl rfl (rfl) hbt hS.inv ?_; intro w' hm hI' hbx'
 replace hf := hf.mb hm
 replace hO := hO.mb hm (fun k e e2 => by cases e; cases e2; exact absurd hgK (by omega))
 replace hW := hW.mbx hm (fun k e => by cases e; omega)
 replace hkf := hkf.mb hm (by simp; omega)
 replace hka := hka.mb hm (by simp; omega)
 replace hS := hS.mb hm (fun k h => by cases h; exact ⟨by omega, _, _, _, hbt.blk⟩)
 replace hbt := hbx'
 clear hm hI' hbx'
 refine WL_nil (hK _ _ ?_)
 clear hK K
 refine W_sr rfl (fun K hK => ?_)
 refine sv hF (v_mkf (cs := [.tmp 3, .tmp 4, .tmp 7]) (vs := [.pointer (some ⟨pf, 0, none⟩), .pointer (some ⟨pa, 0, none⟩), .pointer (some ⟨pt, 0, none⟩)]) rfl) rfl ?_; clear hF a; intro a hF
 refine sv hF (v_assign rfl) rfl ?_; clear hF a; intro a hF
 refine WL_nil (hK _ _ ?_)
 clear hK K
 replace hF := hF.sub _ (c_ 8 rfl (c_ 7 rfl (c_ 6 rfl (c_ 4 rfl (c_ 3 rfl (c_ 2 rfl (n_)))))))
 refine W_seq ?_
 refine W_label ?_
 refine W_seq ?_
 refine W_sr rfl (fun K hK => ?_)
 refine sv2 hF (v_move rfl) (v_move rfl) rfl rfl ?_; clear hF a; intro a hF
 refine WL_nil (hK _ _ ?_)
 clear hK K
 replace hF := hF.sub _ (c_ 19 rfl (c_ 18 rfl (c_ 8 rfl (c_ 7 rfl (c_ 6 rfl (c_ 4 rfl (c_ 3 rfl (n_))))))))
 refine W_block ?_
 refine W_loop (fun q a w1 => ∃ (c : Nat) (bs rc : Nat → Nat), Fr 102 [(3, .pointer (some ⟨pf, 0, none⟩)), (4, .pointer (some ⟨pa, 0, none⟩)), (7, .pointer (some ⟨pt, 0, none⟩)), (8, .func (.func 91) ([] : List Value).toArray ([.pointer (some ⟨pf, 0, none⟩), .pointer (some ⟨pa, 0, none⟩), .pointer (some ⟨pt, 0, none⟩)] : List Value).toArray), (18, .int .i64 (cols : Int)), (19, .int .i64 (c : Int))] a ∧ (StZ FDx B (fun k => N ≤ k) w w1) ∧ (Fo FDx B w1 fv (some (wb, p))) ∧ (KC FDx B w1 ⟨pf, 0, none⟩ (fv)) ∧ (KC FDx B w1 ⟨pa, 0, none⟩ (.slice (some ⟨g, 0, none⟩) n cap)) ∧ (Box FDx B pt w1 pt 3 (.int .i64 ((hp.fld.red n f c).2 : Int))) ∧ (Gam.Own FDx B N w1 37 (.slice (some ⟨g, 0, none⟩) n cap) (some g) (vls n m bs rc)) ∧ (Wr FDx B N KM w1 n m bs rc ((hp.fld.red n f c).1)) ∧ (c ≤ cols) ∧ (q + c = cols)) (cols) ?_ ?_
 ·
  skip
  exact ⟨0, _, _, hF.sub _ (c_ 3 rfl (c_ 4 rfl (c_ 7 rfl (c_ 8 rfl (c_ 18 rfl (c_ 19 rfl (n_))))))), hS, hf, hkf, hka, hbt, hO, hW, by omega, by omega⟩
 ·
  skip
  clear hF
  clear hS hf hkf hka hbt hO hW
  rintro q a w1 ⟨c, bs, rc, hF, hS, hf, hkf, hka, hbt, hO, hW, hc, hq⟩
  refine W_sr rfl (fun K hK => ?_)
  refine sv hF (v_lss rfl rfl) rfl ?_; clear hF a; intro a hF
  refine WL_nil (hK _ _ ?_)
  clear hK K
  refine W_seq ?_
  refine W_if hF rfl (fun hc1 => ?_) (fun hc1 => ?_)
  ·
   skip
   try simp only [dcl] at hc1
   obtain ⟨f1, hf1⟩ : ∃ x, x = (hp.fld.red n f c).1 := ⟨_, rfl⟩
   obtain ⟨t, ht1⟩ : ∃ x, x = (hp.fld.red n f c).2 := ⟨_, rfl⟩
   have hRd := hp.fld.red_ok (n := n) hfb c
   rw [← hf1, ← ht1] at hRd
   rw [← hf1] at hW
   rw [← ht1] at hbt
   have hb1 := hRd.bd
   have htn := hRd.tn
   clear hRd
   have hcl : c < m := by omega
   refine W_skip ?_
   refine W_seq ?_
   refine W_block ?_
   refine W_sr rfl (fun K hK => ?_)
   refine sv hF (v_move rfl) rfl ?_; clear hF a; intro a hF
   obtain ⟨pc, hpc⟩ : ∃ pf, pf = w1.heap.size := ⟨_, rfl⟩
   have hKpc : KM ≤ pc := by have := hS.ext.size; omega
   have hapc : pa < pc := by rw [hpc]; exact hka.2.1
   have hfpc : pf < pc := by rw [hpc]; exact hkf.2.1
   have htpc : pt < pc := by rw [hpc]; exact hbt.kc.2.1
   refine s_alloc (D := FDx) (B := B) hF zv3 (by decide) hS.inv rfl ?_; clear hF a; intro w' a hm hI' hbc hsz hF
   replace hf := hf.mb hm
   replace hkf := hkf.mb hm (by simp)
   replace hka := hka.mb hm (by simp)
   replace hbt := hbt.mb hm (by simp)
   replace hO := hO.mb hm (fun _ _ => by simp)
   replace hW := hW.mb0 hm
   replace hS := hS.mb0 hm
   clear hm hI' hsz
   rw [← hpc] at hbc hF
   refine s_stb (D := FDx) (B := B) hF on3 rfl rfl (rfl) hbc hS.inv ?_; intro w' hm hI' hbx'
   replace hf := hf.mb hm
   replace hkf := hkf.mb hm (by simp; omega)
   replace hka := hka.mb hm (by simp; omega)
   replace hbt := hbt.mb hm (by simp; omega)
   replace hO := hO.mb hm (fun k e e2 => by cases e; cases e2; exact absurd hgK (by omega))
   replace hW := hW.mbx hm (fun k e => by cases e; omega)
   replace hS := hS.mb hm (fun k h => by cases h; exact ⟨by omega, _, _, _, hbc.blk⟩)
   replace hbc := hbx'
   clear hm hI' hbx'
   refine WL_nil (hK _ _ ?_)
   clear hK K
   replace hF := hF.sub _ (c_ 9 rfl (c_ 3 rfl (c_ 4 rfl (c_ 7 rfl (c_ 8 rfl (c_ 18 rfl (c_ 19 rfl (n_))))))))
   refine W_seq ?_
   refine W_sr rfl (fun K hK => ?_)
   refine sv hF (v_load sc3 rfl (hbt.at)) rfl ?_; clear hF a; intro a hF
   refine sv hF (v_load sc28 rfl (hka.c)) rfl ?_; clear hF a; intro a hF
   refine sv hF (v_lenS rfl sl28 rfl) rfl ?_; clear hF a; intro a hF
   refine sv hF (v_eql rfl rfl) rfl ?_; clear hF a; intro a hF
   refine WL_nil (hK _ _ ?_)
   clear hK K
   replace hF := hF.sub _ (c_ 25 rfl (c_ 9 rfl (c_ 3 rfl (c_ 4 rfl (c_ 7 rfl (c_ 8 rfl (c_ 18 rfl (c_ 19 rfl (n_)))))))))
   refine W_if hF rfl (fun hc2 => ?_) (fun hc2 => ?_)
   ·
    skip
    try simp only [dcl] at hc2
    refine W_exit rfl ?_
    refine W_sr rfl (fun K hK => ?_)
    refine sv hF (v_load sc3 rfl (by first | assumption | (rw [toNat_c]; assumption) | exact KC.c (by assumption) | (rw [toNat_c]; exact KC.c (by assumption)) | exact Box.at (by assumption))) rfl ?_; clear hF a; intro a hF
    refine sv hF (v_assign rfl) rfl ?_; clear hF a; intro a hF
    refine WL_nil (hK _ _ ?_)
    clear hK K
    replace hF := hF.sub _ (c_ 6 rfl (c_ 101 rfl (c_ 3 rfl (c_ 4 rfl (c_ 7 rfl (c_ 8 rfl (c_ 18 rfl (c_ 19 rfl (n_)))))))))
    refine W_ret ?_
    refine ⟨_, _, hF, rfl, ?_⟩
    have hfull := hp.fld.red_full (n := n) (f := f) (c := c) (by rw [← ht1]; omega) (cols - c)
    rw [show c + (cols - c) = cols by omega] at hfull
    exact ⟨by unfold Fld.rk; rw [hfull, ← ht1], ⟨bs, rc, hO, by rw [← hKM, hfull, ← hf1]; exact hW⟩, hS⟩
   ·
    skip
    try simp only [dcl] at hc2
    refine W_skip ?_
    have hcapn := (hO.row (by decide)).capd
    have ht : t < n := by omega
    have hdl : ((tab n m f1).drop t).length = n - t := by rw [List.length_drop, tab_length]
    refine W_sd (m := 8) rfl hmix hS.inv (fun K hK w1 hS' hh => ?_)
    replace hf := hf.st hS'
    replace hkf := hkf.st hS'
    replace hka := hka.st hS'
    replace hbt := hbt.st hS'
    replace hO := hO.st (by decide) hS'
    replace hW := hW.st hS'
    replace hbc := hbc.st hS'
    replace hS := hS.trans hS'
    clear hS'
    clear hh
    refine a_v (i := 0) rfl (by kernel_rfl) hF (fun w2 hx => v_load sc3 rfl (hbt.kc.ld hx)) rfl ?_; clear hF a; intro a hF
    refine a_v (i := 1) rfl (by kernel_rfl) hF (fun w2 hx => v_load sc28 rfl (hka.ld hx)) rfl ?_; clear hF a; intro a hF
    refine a_v (i := 2) rfl (by kernel_rfl) hF (fun w2 hx => v_load sc3 rfl (hbt.kc.ld hx)) rfl ?_; clear hF a; intro a hF
    refine a_v (i := 3) rfl (by kernel_rfl) hF (fun w2 hx => v_slLo sl28 rfl rfl (by omega) (by omega)) rfl ?_; clear hF a; intro a hF
    rw [← hdl] at hF
    refine a_v (i := 4) rfl (by kernel_rfl) hF (fun w2 hx => v_mkf (cs := [.tmp 9]) (vs := [.pointer (some ⟨pc, 0, none⟩)]) rfl) rfl ?_; clear hF a; intro a hF
    have hcap := hO.kc (by decide) (vls_at ht)
    have hMt := (hW.mat (gb := g) hO (by decide)).from (lo := t) (b := (tab n m f1).drop t) (by rw [tab_length]; omega) rfl
    refine a_e (i := 5) rfl (by kernel_rfl) ?_
    refine sc hF rfl rfl rfl en92 rfl (IdxR_ok B _ 93 [.pointer (some ⟨pc, 0, none⟩)] (fun r => decide (r.getD c 0 ≠ 0)) _ _ _ _ hS.inv hMt (by rw [hdl]; exact Nat.le_trans (show _ ≤ 1000 by omega) (by decide)) (ent Try.func93 (by kernel_rfl) (by kernel_rfl)) (fun r hr pr cr w3 hs hrow => red2_ok B _ pc c pr cr r w3 hs.inv hrow (hbc.kc.st hs) (by rw [tab_mem hr]; exact hcl) (by omega))) ?_; clear hF a; intro v w' a hv hF
    obtain ⟨rfl, hS'⟩ := hv
    refine WL_nil ⟨hS'.ext, ?_⟩
    replace hf := hf.st hS'
    replace hkf := hkf.st hS'
    replace hka := hka.st hS'
    replace hbt := hbt.st hS'
    replace hO := hO.st (by decide) hS'
    replace hW := hW.st hS'
    replace hbc := hbc.st hS'
    replace hS := hS.trans hS'
    clear hS'
    clear hMt hcap
    have hidx := piv_idx (n := n) (f := f1) (t := t) hcl htn (p := fun r => decide (r.getD c 0 ≠ 0)) (fun r => rfl)
    have hib : -1 ≤ idxZ (fun r => decide (r.getD c 0 ≠ 0)) ((tab n m f1).drop t) ∧ idxZ (fun r => decide (r.getD c 0 ≠ 0)) ((tab n m f1).drop t) ≤ 40 := by rcases hidx with ⟨h, _⟩ | ⟨k, _, _, _, h⟩ <;> omega
    refine a_v (i := 6) rfl (by kernel_rfl) hF (fun w2 hx => v_addI rfl rfl (by omega)) rfl ?_; clear hF a; intro a hF
    refine a_v (i := 7) rfl (by kernel_rfl) hF (fun w2 hx => v_assign rfl) rfl ?_; clear hF a; intro a hF
    refine a_done (by kernel_rfl) (hK _ _ ?_)
    clear hK K
    replace hF := hF.sub _ (c_ 10 rfl (c_ 9 rfl (c_ 3 rfl (c_ 4 rfl (c_ 7 rfl (c_ 8 rfl (c_ 18 rfl (c_ 19 rfl (n_)))))))))
    refine W_seq ?_
    refine W_sr rfl (fun K hK => ?_)
    refine sv hF (v_move rfl) rfl ?_; clear hF a; intro a hF
    refine sv hF (v_load sc3 rfl (hbt.at)) rfl ?_; clear hF a; intro a hF
    refine sv hF (v_lss rfl rfl) rfl ?_; clear hF a; intro a hF
    refine WL_nil (hK _ _ ?_)
    clear hK K
    replace hF := hF.sub _ (c_ 35 rfl (c_ 10 rfl (c_ 9 rfl (c_ 3 rfl (c_ 4 rfl (c_ 7 rfl (c_ 8 rfl (c_ 18 rfl (c_ 19 rfl (n_))))))))))
    refine W_if hF rfl (fun hc3 => ?_) (fun hc3 => ?_)
    ·
     skip
     try simp only [dcl] at hc3
     have hpn : Fld.piv f1 n c t (n - t) = none := by
      rcases hidx with ⟨_, h⟩ | ⟨k, _, _, _, h⟩
      ·
       exact h
      ·
       exfalso; omega
     have hrd := hp.fld.red_none hf1.symm ht1.symm hpn
     have hrd1 : (hp.fld.red n f (c + 1)).1 = f1 := by rw [hrd]
     have hrd2 : (hp.fld.red n f (c + 1)).2 = t := by rw [hrd]
     clear hidx hib
     rw [← hrd1] at hW
     rw [← hrd2] at hbt
     clear hbc
     refine W_exit rfl ?_
     refine W_reg rfl (fun K hK => ?_)
     refine sv hF (v_addI rfl rfl (by omega)) rfl ?_; clear hF a; intro a hF
     refine sv hF (v_move rfl) rfl ?_; clear hF a; intro a hF
     refine WL_nil (hK _ _ ?_)
     clear hK K
     replace hF := hF.sub _ (c_ 19 rfl (c_ 100 rfl (c_ 3 rfl (c_ 4 rfl (c_ 7 rfl (c_ 8 rfl (c_ 18 rfl (n_))))))))
     exact ⟨q - 1, by omega, c + 1, _, _, hF.sub _ (c_ 3 rfl (c_ 4 rfl (c_ 7 rfl (c_ 8 rfl (c_ 18 rfl (c_ 19 rfl (n_))))))), hS, hf, hkf, hka, hbt, hO, hW, by omega, by omega⟩
    ·
     skip
     try simp only [dcl] at hc3
     obtain ⟨k, hpk, htk, hkn, hik⟩ : ∃ k, Fld.piv f1 n c t (n - t) = some k ∧ t ≤ k ∧ k < n ∧ idxZ (fun r => decide (r.getD c 0 ≠ 0)) ((tab n m f1).drop t) = (k : Int) - (t : Int) := by
      rcases hidx with ⟨h, _⟩ | h
      ·
       exfalso; omega
      ·
       exact h
     rw [hik, show (t : Int) + ((k : Int) - (t : Int)) = (k : Int) by omega] at hF
     clear hidx hib hik
     obtain ⟨-, -, hk0, -⟩ := Fld.piv_some hpk
     have hswt : Fld.sw t k t = k := by unfold Fld.sw; rw [if_pos rfl]
     refine W_skip ?_
     refine W_cut (fun a w1 => Fr 102 [(3, .pointer (some ⟨pf, 0, none⟩)), (4, .pointer (some ⟨pa, 0, none⟩)), (7, .pointer (some ⟨pt, 0, none⟩)), (8, .func (.func 91) ([] : List Value).toArray ([.pointer (some ⟨pf, 0, none⟩), .pointer (some ⟨pa, 0, none⟩), .pointer (some ⟨pt, 0, none⟩)] : List Value).toArray), (18, .int .i64 (cols : Int)), (19, .int .i64 (c : Int)), (9, .pointer (some ⟨pc, 0, none⟩)), (10, .int .i64 (k : Int))] a ∧ (StZ FDx B (fun k => N ≤ k) w w1) ∧ (Fo FDx B w1 fv (some (wb, p))) ∧ (KC FDx B w1 ⟨pf, 0, none⟩ (fv)) ∧ (KC FDx B w1 ⟨pa, 0, none⟩ (.slice (some ⟨g, 0, none⟩) n cap)) ∧ (Box FDx B pt w1 pt 3 (.int .i64 (t : Int))) ∧ (Box FDx B pc w1 pc 3 (.int .i64 (c : Int))) ∧ (Gam.Own FDx B N w1 37 (.slice (some ⟨g, 0, none⟩) n cap) (some g) (vls n m (fun i => bs (Fld.sw t k i)) (fun i => rc (Fld.sw t k i)))) ∧ (Wr FDx B N KM w1 n m (fun i => bs (Fld.sw t k i)) (fun i => rc (Fld.sw t k i)) (fun i j => f1 (Fld.sw t k i) j))) ?_ ?_
     ·
      skip
      refine W_dS (fun (w2 : World) => w2.cell? ⟨pa, 0, none⟩ = some (.slice (some ⟨g, 0, none⟩) n cap) ∧ w2.cell? ⟨pt, 0, none⟩ = some (.int .i64 (t : Int))) (m := 16) rfl hmix (fun K hK => ?_)
      have hS' := St.drew hS.inv
      replace hf := hf.st hS'
      replace hkf := hkf.st hS'
      replace hka := hka.st hS'
      replace hbt := hbt.st hS'
      replace hO := hO.st (by decide) hS'
      replace hW := hW.st hS'
      replace hbc := hbc.st hS'
      replace hS := hS.trans hS'
      clear hS'
      have hSS : (fun (w2 : World) => w2.cell? ⟨pa, 0, none⟩ = some (.slice (some ⟨g, 0, none⟩) n cap) ∧ w2.cell? ⟨pt, 0, none⟩ = some (.int .i64 (t : Int))) _ := And.intro hka.c hbt.at
      refine b_v (i := 0) rfl (by kernel_rfl) hF (fun w2 hx => v_load sc28 rfl (hx.1)) rfl hSS ?_; clear hF a; intro a hF
      refine b_v (i := 1) rfl (by kernel_rfl) hF (fun w2 hx => v_load sc3 rfl (hx.2)) rfl hSS ?_; clear hF a; intro a hF
      refine b_v (i := 2) rfl (by kernel_rfl) hF (fun w2 hx => v_load sc28 rfl (hx.1)) rfl hSS ?_; clear hF a; intro a hF
      refine b_v (i := 3) rfl (by kernel_rfl) hF (fun w2 hx => v_move rfl) rfl hSS ?_; clear hF a; intro a hF
      refine b_v (i := 4) rfl (by kernel_rfl) hF (fun w2 hx => v_load sc28 rfl (hx.1)) rfl hSS ?_; clear hF a; intro a hF
      refine b_v (i := 5) rfl (by kernel_rfl) hF (fun w2 hx => v_move rfl) rfl hSS ?_; clear hF a; intro a hF
      refine b_v (i := 6) rfl (by kernel_rfl) hF (fun w2 hx => v_ixS sl28 rfl rfl (by omega) (by omega)) rfl hSS ?_; clear hF a; intro a hF
      refine b_v (i := 8) rfl (by kernel_rfl) hF (fun w2 hx => v_load sc28 rfl (hx.1)) rfl hSS ?_; clear hF a; intro a hF
      refine b_v (i := 9) rfl (by kernel_rfl) hF (fun w2 hx => v_load sc3 rfl (hx.2)) rfl hSS ?_; clear hF a; intro a hF
      refine b_v (i := 10) rfl (by kernel_rfl) hF (fun w2 hx => v_ixS sl28 rfl rfl (by omega) (by omega)) rfl hSS ?_; clear hF a; intro a hF
      refine b_e2 (i := 7) (i' := 11) (by kernel_rfl) rfl rfl ?_ ?_
      ·
       skip
       refine sv hF (v_load sc37 rfl (by rw [toNat_c]; exact (hO.kc (by decide) (vls_at hkn)).c)) rfl ?_; clear hF a; intro a hF
       refine WL_nil ⟨hSS, ?_⟩
       refine b_e (i := 11) (by kernel_rfl) rfl ?_
       refine sv hF (v_load sc37 rfl (by rw [toNat_c]; exact (hO.kc (by decide) (vls_at ht)).c)) rfl ?_; clear hF a; intro a hF
       refine WL_nil ⟨hSS, ?_⟩
       refine b_v (i := 12) rfl (by kernel_rfl) hF (fun w2 hx => v_ixS sl28 rfl rfl (by omega) (by omega)) rfl hSS ?_; clear hF a; intro a hF
       refine b_e (i := 13) (by kernel_rfl) rfl ?_
       refine s_set (D := FDx) (B := B) hF on37 rfl (by rw [toNat_c, vls_length]; omega) rfl rfl hO (by decide) hS.inv ?_; intro w' hm hI' ho'
       replace hf := hf.mb hm
       replace hkf := hkf.mb hm (fun e => hgpf (Option.some.inj e))
       replace hka := hka.mb hm (fun e => hgpa (Option.some.inj e))
       replace hbt := hbt.mb hm (hbt.ne_own hO (by decide))
       replace hW := hW.mbo hm hO (by decide)
       replace hbc := hbc.mb hm (hbc.ne_own hO (by decide))
       replace hS := hS.mb hm (fun k e => ⟨(hO.lt k e).1, hO.isrow k e⟩)
       replace hO := ho'
       clear hm hI' ho'
       clear hSS
       have hSS : (fun (w2 : World) => w2.cell? ⟨pa, 0, none⟩ = some (.slice (some ⟨g, 0, none⟩) n cap) ∧ w2.cell? ⟨pt, 0, none⟩ = some (.int .i64 (t : Int))) _ := And.intro hka.c hbt.at
       refine WL_nil ⟨hSS, ?_⟩
       refine b_v (i := 14) rfl (by kernel_rfl) hF (fun w2 hx => v_ixS sl28 rfl rfl (by omega) (by omega)) rfl hSS ?_; clear hF a; intro a hF
       refine b_e (i := 15) (by kernel_rfl) rfl ?_
       refine s_set (D := FDx) (B := B) hF on37 rfl (by rw [toNat_c, List.length_set, vls_length]; omega) rfl rfl hO (by decide) hS.inv ?_; intro w' hm hI' ho'
       replace hf := hf.mb hm
       replace hkf := hkf.mb hm (fun e => hgpf (Option.some.inj e))
       replace hka := hka.mb hm (fun e => hgpa (Option.some.inj e))
       replace hbt := hbt.mb hm (hbt.ne_own hO (by decide))
       replace hW := hW.mbo hm hO (by decide)
       replace hbc := hbc.mb hm (hbc.ne_own hO (by decide))
       replace hS := hS.mb hm (fun k e => ⟨(hO.lt k e).1, hO.isrow k e⟩)
       replace hO := ho'
       clear hm hI' ho'
       clear hSS
       have hSS : (fun (w2 : World) => w2.cell? ⟨pa, 0, none⟩ = some (.slice (some ⟨g, 0, none⟩) n cap) ∧ w2.cell? ⟨pt, 0, none⟩ = some (.int .i64 (t : Int))) _ := And.intro hka.c hbt.at
       refine WL_nil ⟨hSS, ?_⟩
       refine b_done (by kernel_rfl) (hK _ _ ?_)
       clear hK K
       replace hF := hF.sub _ (c_ 10 rfl (c_ 9 rfl (c_ 3 rfl (c_ 4 rfl (c_ 7 rfl (c_ 8 rfl (c_ 18 rfl (c_ 19 rfl (n_)))))))))
       exact ⟨hF.sub _ (c_ 3 rfl (c_ 4 rfl (c_ 7 rfl (c_ 8 rfl (c_ 18 rfl (c_ 19 rfl (c_ 9 rfl (c_ 10 rfl (n_))))))))), hS, hf, hkf, hka, hbt, hbc, hO.cast (by rw [toNat_c, toNat_c, Nat.zero_add, Nat.zero_add]; exact vls_sw ht hkn), hW.sw ht hkn⟩
      ·
       skip
       refine sv hF (v_load sc37 rfl (by rw [toNat_c]; exact (hO.kc (by decide) (vls_at ht)).c)) rfl ?_; clear hF a; intro a hF
       refine WL_nil ⟨hSS, ?_⟩
       refine b_e (i := 7) (by kernel_rfl) rfl ?_
       refine sv hF (v_load sc37 rfl (by rw [toNat_c]; exact (hO.kc (by decide) (vls_at hkn)).c)) rfl ?_; clear hF a; intro a hF
       refine WL_nil ⟨hSS, ?_⟩
       refine b_v (i := 12) rfl (by kernel_rfl) hF (fun w2 hx => v_ixS sl28 rfl rfl (by omega) (by omega)) rfl hSS ?_; clear hF a; intro a hF
       refine b_e (i := 13) (by kernel_rfl) rfl ?_
       refine s_set (D := FDx) (B := B) hF on37 rfl (by rw [toNat_c, vls_length]; omega) rfl rfl hO (by decide) hS.inv ?_; intro w' hm hI' ho'
       replace hf := hf.mb hm
       replace hkf := hkf.mb hm (fun e => hgpf (Option.some.inj e))
       replace hka := hka.mb hm (fun e => hgpa (Option.some.inj e))
       replace hbt := hbt.mb hm (hbt.ne_own hO (by decide))
       replace hW := hW.mbo hm hO (by decide)
       replace hbc := hbc.mb hm (hbc.ne_own hO (by decide))
       replace hS := hS.mb hm (fun k e => ⟨(hO.lt k e).1, hO.isrow k e⟩)
       replace hO := ho'
       clear hm hI' ho'
       clear hSS
       have hSS : (fun (w2 : World) => w2.cell? ⟨pa, 0, none⟩ = some (.slice (some ⟨g, 0, none⟩) n cap) ∧ w2.cell? ⟨pt, 0, none⟩ = some (.int .i64 (t : Int))) _ := And.intro hka.c hbt.at
       refine WL_nil ⟨hSS, ?_⟩
       refine b_v (i := 14) rfl (by kernel_rfl) hF (fun w2 hx => v_ixS sl28 rfl rfl (by omega) (by omega)) rfl hSS ?_; clear hF a; intro a hF
       refine b_e (i := 15) (by kernel_rfl) rfl ?_
       refine s_set (D := FDx) (B := B) hF on37 rfl (by rw [toNat_c, List.length_set, vls_length]; omega) rfl rfl hO (by decide) hS.inv ?_; intro w' hm hI' ho'
       replace hf := hf.mb hm
       replace hkf := hkf.mb hm (fun e => hgpf (Option.some.inj e))
       replace hka := hka.mb hm (fun e => hgpa (Option.some.inj e))
       replace hbt := hbt.mb hm (hbt.ne_own hO (by decide))
       replace hW := hW.mbo hm hO (by decide)
       replace hbc := hbc.mb hm (hbc.ne_own hO (by decide))
       replace hS := hS.mb hm (fun k e => ⟨(hO.lt k e).1, hO.isrow k e⟩)
       replace hO := ho'
       clear hm hI' ho'
       clear hSS
       have hSS : (fun (w2 : World) => w2.cell? ⟨pa, 0, none⟩ = some (.slice (some ⟨g, 0, none⟩) n cap) ∧ w2.cell? ⟨pt, 0, none⟩ = some (.int .i64 (t : Int))) _ := And.intro hka.c hbt.at
       refine WL_nil ⟨hSS, ?_⟩
       refine b_done (by kernel_rfl) (hK _ _ ?_)
       clear hK K
       replace hF := hF.sub _ (c_ 10 rfl (c_ 9 rfl (c_ 3 rfl (c_ 4 rfl (c_ 7 rfl (c_ 8 rfl (c_ 18 rfl (c_ 19 rfl (n_)))))))))
       exact ⟨hF.sub _ (c_ 3 rfl (c_ 4 rfl (c_ 7 rfl (c_ 8 rfl (c_ 18 rfl (c_ 19 rfl (c_ 9 rfl (c_ 10 rfl (n_))))))))), hS, hf, hkf, hka, hbt, hbc, hO.cast (by rw [toNat_c, toNat_c, Nat.zero_add, Nat.zero_add]; exact vls_sw ht hkn), hW.sw ht hkn⟩
     ·
      skip
      clear hF
      clear hS hf hkf hka hbt hbc hO hW
      rintro a w1 ⟨hF, hS, hf, hkf, hka, hbt, hbc, hO, hW⟩
      refine W_sd (m := 14) rfl hmix hS.inv (fun K hK w1 hS' hh => ?_)
      replace hf := hf.st hS'
      replace hkf := hkf.st hS'
      replace hka := hka.st hS'
      replace hbt := hbt.st hS'
      replace hO := hO.st (by decide) hS'
      replace hW := hW.st hS'
      replace hbc := hbc.st hS'
      replace hS := hS.trans hS'
      clear hS'
      clear hh
      refine a_v (i := 0) rfl (by kernel_rfl) hF (fun w2 hx => v_load sc23 rfl (hkf.ld hx)) rfl ?_; clear hF a; intro a hF
      refine a_v (i := 1) rfl (by kernel_rfl) hF (fun w2 hx => v_load sc28 rfl (hka.ld hx)) rfl ?_; clear hF a; intro a hF
      refine a_v (i := 2) rfl (by kernel_rfl) hF (fun w2 hx => v_load sc3 rfl (hbt.kc.ld hx)) rfl ?_; clear hF a; intro a hF
      refine a_v (i := 3) rfl (by kernel_rfl) hF (fun w2 hx => v_ixS sl28 rfl rfl (by omega) (by omega)) rfl ?_; clear hF a; intro a hF
      refine a_v (i := 4) rfl (by kernel_rfl) hF (fun w2 hx => v_load sc37 rfl (by rw [toNat_c]; exact (hO.kc (by decide) (vls_at ht)).ld hx)) rfl ?_; clear hF a; intro a hF
      rw [hswt] at hF
      refine a_v (i := 5) rfl (by kernel_rfl) hF (fun w2 hx => v_load sc3 rfl (hbc.kc.ld hx)) rfl ?_; clear hF a; intro a hF
      refine a_v (i := 6) rfl (by kernel_rfl) hF (fun w2 hx => v_ixS sl37 rfl rfl (by omega) (by omega)) rfl ?_; clear hF a; intro a hF
      have hrk := hW.rd ht hcl
      rw [hswt] at hrk
      refine a_v (i := 7) rfl (by kernel_rfl) hF (fun w2 hx => v_load sc3 rfl (by rw [toNat_c]; exact hrk.ld hx)) rfl ?_; clear hF a; intro a hF
      refine a_e (i := 8) rfl (by kernel_rfl) ?_
      refine sc hF rfl rfl rfl en46 rfl (Inv_gf B (some (wb, p)) fv ((f1 k c : Nat) : Int) _ hS.inv hf) ?_; clear hF a; intro v w' a hv hF
      obtain ⟨rfl, hS'⟩ := hv
      refine WL_nil ⟨hS'.ext, ?_⟩
      replace hf := hf.st hS'
      replace hkf := hkf.st hS'
      replace hka := hka.st hS'
      replace hbt := hbt.st hS'
      replace hO := hO.st (by decide) hS'
      replace hW := hW.st hS'
      replace hbc := hbc.st hS'
      replace hS := hS.trans hS'
      clear hS'
      clear hrk
      have hkb := hb1 k c
      rw [hfw] at hkb
      rw [ginv_fld hp hkb hk0] at hF
      refine a_v (i := 9) rfl (by kernel_rfl) hF (fun w2 hx => v_move rfl) rfl ?_; clear hF a; intro a hF
      refine a_v (i := 10) rfl (by kernel_rfl) hF (fun w2 hx => v_ext rfl rfl) rfl ?_; clear hF a; intro a hF
      refine a_v (i := 11) rfl (by kernel_rfl) hF (fun w2 hx => v_ext rfl rfl) rfl ?_; clear hF a; intro a hF
      refine a_v (i := 12) rfl (by kernel_rfl) hF (fun w2 hx => v_assign rfl) rfl ?_; clear hF a; intro a hF
      refine a_v (i := 13) rfl (by kernel_rfl) hF (fun w2 hx => v_assign rfl) rfl ?_; clear hF a; intro a hF
      refine a_done (by kernel_rfl) (hK _ _ ?_)
      clear hK K
      replace hF := hF.sub _ (c_ 11 rfl (c_ 3 rfl (c_ 4 rfl (c_ 7 rfl (c_ 8 rfl (c_ 18 rfl (c_ 19 rfl (c_ 9 rfl (n_)))))))))
      refine W_seq ?_
      refine W_sr rfl (fun K hK => ?_)
      refine sv hF (v_load sc28 rfl (hka.c)) rfl ?_; clear hF a; intro a hF
      refine sv hF (v_load sc3 rfl (hbt.at)) rfl ?_; clear hF a; intro a hF
      refine sv hF (v_ixS sl28 rfl rfl (by omega) (by omega)) rfl ?_; clear hF a; intro a hF
      refine sv hF (v_load sc37 rfl (by rw [toNat_c]; exact (hO.kc (by decide) (vls_at ht)).c)) rfl ?_; clear hF a; intro a hF
      rw [hswt] at hF
      refine sv hF (v_lenS rfl sl37 rfl) rfl ?_; clear hF a; intro a hF
      refine sv hF (v_move rfl) rfl ?_; clear hF a; intro a hF
      refine WL_nil (hK _ _ ?_)
      clear hK K
      replace hF := hF.sub _ (c_ 67 rfl (c_ 66 rfl (c_ 65 rfl (c_ 11 rfl (c_ 3 rfl (c_ 4 rfl (c_ 7 rfl (c_ 8 rfl (c_ 18 rfl (c_ 19 rfl (c_ 9 rfl (n_))))))))))))
      refine W_block ?_
      refine W_loop (fun q2 a w3 => ∃ (j : Nat), Fr 102 [(3, .pointer (some ⟨pf, 0, none⟩)), (4, .pointer (some ⟨pa, 0, none⟩)), (7, .pointer (some ⟨pt, 0, none⟩)), (8, .func (.func 91) ([] : List Value).toArray ([.pointer (some ⟨pf, 0, none⟩), .pointer (some ⟨pa, 0, none⟩), .pointer (some ⟨pt, 0, none⟩)] : List Value).toArray), (18, .int .i64 (cols : Int)), (19, .int .i64 (c : Int)), (9, .pointer (some ⟨pc, 0, none⟩)), (11, .int .i64 ((hp.fld.inv (f1 k c) : Nat) : Int)), (65, .slice (some ⟨bs k, 0, none⟩) m (rc k)), (66, .int .i64 (m : Int)), (67, .int .i64 (j : Int))] a ∧ (StZ FDx B (fun k => N ≤ k) w w3) ∧ (Fo FDx B w3 fv (some (wb, p))) ∧ (KC FDx B w3 ⟨pf, 0, none⟩ (fv)) ∧ (KC FDx B w3 ⟨pa, 0, none⟩ (.slice (some ⟨g, 0, none⟩) n cap)) ∧ (Box FDx B pt w3 pt 3 (.int .i64 (t : Int))) ∧ (Box FDx B pc w3 pc 3 (.int .i64 (c : Int))) ∧ (Gam.Own FDx B N w3 37 (.slice (some ⟨g, 0, none⟩) n cap) (some g) (vls n m (fun i => bs (Fld.sw t k i)) (fun i => rc (Fld.sw t k i)))) ∧ (Wr FDx B N KM w3 n m (fun i => bs (Fld.sw t k i)) (fun i => rc (Fld.sw t k i)) (hp.fld.sclF t (hp.fld.inv (f1 k c)) j (fun i j => f1 (Fld.sw t k i) j))) ∧ (j ≤ m) ∧ (q2 + j = m)) (m) ?_ ?_
      ·
       skip
       exact ⟨0, hF.sub _ (c_ 3 rfl (c_ 4 rfl (c_ 7 rfl (c_ 8 rfl (c_ 18 rfl (c_ 19 rfl (c_ 9 rfl (c_ 11 rfl (c_ 65 rfl (c_ 66 rfl (c_ 67 rfl (n_)))))))))))), hS, hf, hkf, hka, hbt, hbc, hO, hW.congr (fun a _ l _ => by unfold Fld.sclF; rw [if_neg (by omega)]), by omega, by omega⟩
      ·
       skip
       clear hF
       clear hS hf hkf hka hbt hbc hO hW
       rintro q2 a w3 ⟨j, hF, hS, hf, hkf, hka, hbt, hbc, hO, hW, hj, hq2⟩
       refine W_sr rfl (fun K hK => ?_)
       refine sv hF (v_lss rfl rfl) rfl ?_; clear hF a; intro a hF
       refine WL_nil (hK _ _ ?_)
       clear hK K
       refine W_seq ?_
       refine W_if hF rfl (fun hc4 => ?_) (fun hc4 => ?_)
       ·
        skip
        try simp only [dcl] at hc4
        have hlt : j < m := by omega
        have hrk := hW.rd ht hlt
        rw [hswt] at hrk
        have hbs := hp.fld.sclF_bd (t := t) (s := hp.fld.inv (f1 k c)) (J := j) (f := fun i j => f1 (Fld.sw t k i) j) (fun a b => hb1 _ b)
        have hbj := hbs t j
        have hbi := hp.fld.inv_lt (f1 k c)
        have hbm := hp.fld.lt (((hp.fld.sclF t (hp.fld.inv (f1 k c)) j (fun i j => f1 (Fld.sw t k i) j)) t j)) (hp.fld.inv (f1 k c))
        rw [hfw] at hbj hbi hbm
        refine W_skip ?_
        refine W_seq ?_
        refine W_block ?_
        refine W_sr rfl (fun K hK => ?_)
        refine sv hF (v_move rfl) rfl ?_; clear hF a; intro a hF
        refine sv hF (v_ixS sl37 rfl rfl (by omega) (by omega)) rfl ?_; clear hF a; intro a hF
        refine sv hF (v_load sc3 rfl (by rw [toNat_c]; exact hrk.c)) rfl ?_; clear hF a; intro a hF
        refine sv2 hF (v_assign rfl) (v_assign rfl) rfl rfl ?_; clear hF a; intro a hF
        refine WL_nil (hK _ _ ?_)
        clear hK K
        replace hF := hF.sub _ (c_ 14 rfl (c_ 13 rfl (c_ 3 rfl (c_ 4 rfl (c_ 7 rfl (c_ 8 rfl (c_ 18 rfl (c_ 19 rfl (c_ 9 rfl (c_ 11 rfl (c_ 65 rfl (c_ 66 rfl (c_ 67 rfl (n_))))))))))))))
        clear hrk
        have hct := (hO.kc (by decide) (vls_at ht)).c
        rw [hswt] at hct
        refine W_dS (fun (w2 : World) => w2.cell? ⟨pf, 0, none⟩ = some (fv) ∧ w2.cell? ⟨pa, 0, none⟩ = some (.slice (some ⟨g, 0, none⟩) n cap) ∧ w2.cell? ⟨pt, 0, none⟩ = some (.int .i64 (t : Int)) ∧ w2.cell? ⟨g, 0 + t, none⟩ = some (.slice (some ⟨bs k, 0, none⟩) m (rc k))) (m := 11) rfl hmix (fun K hK => ?_)
        have hS' := St.drew hS.inv
        replace hf := hf.st hS'
        replace hkf := hkf.st hS'
        replace hka := hka.st hS'
        replace hbt := hbt.st hS'
        replace hO := hO.st (by decide) hS'
        replace hW := hW.st hS'
        replace hbc := hbc.st hS'
        replace hS := hS.trans hS'
        clear hS'
        have hSS : (fun (w2 : World) => w2.cell? ⟨pf, 0, none⟩ = some (fv) ∧ w2.cell? ⟨pa, 0, none⟩ = some (.slice (some ⟨g, 0, none⟩) n cap) ∧ w2.cell? ⟨pt, 0, none⟩ = some (.int .i64 (t : Int)) ∧ w2.cell? ⟨g, 0 + t, none⟩ = some (.slice (some ⟨bs k, 0, none⟩) m (rc k))) _ := And.intro hkf.c (And.intro hka.c (And.intro hbt.at hct))
        refine b_v (i := 0) rfl (by kernel_rfl) hF (fun w2 hx => v_load sc28 rfl (hx.2.1)) rfl hSS ?_; clear hF a; intro a hF
        refine b_v (i := 1) rfl (by kernel_rfl) hF (fun w2 hx => v_load sc3 rfl (hx.2.2.1)) rfl hSS ?_; clear hF a; intro a hF
        refine b_v (i := 2) rfl (by kernel_rfl) hF (fun w2 hx => v_ixS sl28 rfl rfl (by omega) (by omega)) rfl hSS ?_; clear hF a; intro a hF
        refine b_v (i := 3) rfl (by kernel_rfl) hF (fun w2 hx => v_load sc37 rfl (by rw [toNat_c]; exact hx.2.2.2)) rfl hSS ?_; clear hF a; intro a hF
        refine b_v (i := 4) rfl (by kernel_rfl) hF (fun w2 hx => v_move rfl) rfl hSS ?_; clear hF a; intro a hF
        refine b_v (i := 5) rfl (by kernel_rfl) hF (fun w2 hx => v_load sc23 rfl (hx.1)) rfl hSS ?_; clear hF a; intro a hF
        refine b_v (i := 6) rfl (by kernel_rfl) hF (fun w2 hx => v_move rfl) rfl hSS ?_; clear hF a; intro a hF
        refine b_v (i := 7) rfl (by kernel_rfl) hF (fun w2 hx => v_move rfl) rfl hSS ?_; clear hF a; intro a hF
        refine b_e (i := 8) (by kernel_rfl) rfl ?_
        refine sc hF rfl rfl rfl en29 rfl (Mul_gf B (some (wb, p)) fv (((hp.fld.sclF t (hp.fld.inv (f1 k c)) j (fun i j => f1 (Fld.sw t k i) j)) t j : Nat) : Int) ((hp.fld.inv (f1 k c) : Nat) : Int) _ hS.inv hf) ?_; clear hF a; intro v w' a hv hF
        obtain ⟨rfl, hS'⟩ := hv
        replace hf := hf.st hS'
        replace hkf := hkf.st hS'
        replace hka := hka.st hS'
        replace hbt := hbt.st hS'
        replace hO := hO.st (by decide) hS'
        replace hW := hW.st hS'
        replace hbc := hbc.st hS'
        replace hS := hS.trans hS'
        clear hS'
        rw [gmul_num hp hbj hbi] at hF
        clear hSS
        replace hct := (hO.kc (by decide) (vls_at ht)).c
        rw [hswt] at hct
        have hSS : (fun (w2 : World) => w2.cell? ⟨pf, 0, none⟩ = some (fv) ∧ w2.cell? ⟨pa, 0, none⟩ = some (.slice (some ⟨g, 0, none⟩) n cap) ∧ w2.cell? ⟨pt, 0, none⟩ = some (.int .i64 (t : Int)) ∧ w2.cell? ⟨g, 0 + t, none⟩ = some (.slice (some ⟨bs k, 0, none⟩) m (rc k))) _ := And.intro hkf.c (And.intro hka.c (And.intro hbt.at hct))
        refine WL_nil ⟨hSS, ?_⟩
        refine b_v (i := 9) rfl (by kernel_rfl) hF (fun w2 hx => v_ixS sl37 rfl rfl (by omega) (by omega)) rfl hSS ?_; clear hF a; intro a hF
        refine b_e (i := 10) (by kernel_rfl) rfl ?_
        have hR0 := hW.row t ht
        have hR0s := hW.ge ht
        rw [hswt] at hR0 hR0s
        refine s_set (D := FDx) (B := B) hF on3 rfl (by rw [toNat_c, zints_length, trow_length]; omega) rfl rfl hR0 (by decide) hS.inv ?_; intro w' hm hI' ho'
        replace hf := hf.mb hm
        replace hkf := hkf.mb hm ((hswt ▸ hW.ne ht hKpf : some (bs k) ≠ some pf))
        replace hka := hka.mb hm ((hswt ▸ hW.ne ht hKpa : some (bs k) ≠ some pa))
        replace hbt := hbt.mb hm ((hswt ▸ hW.ne ht hKpt : some (bs k) ≠ some pt))
        replace hO := hO.mb hm (hO.ne_type hR0 (by decide))
        replace hW := hW.set (g := hp.fld.sclF t (hp.fld.inv (f1 k c)) (j + 1) (fun i j => f1 (Fld.sw t k i) j)) ht (by rw [hswt]; exact hm) (by rw [hswt]; exact ho'.cast (by rw [toNat_c, Nat.zero_add, zints_set, trow_set (g := hp.fld.sclF t (hp.fld.inv (f1 k c)) (j + 1) (fun i j => f1 (Fld.sw t k i) j))]; intro l hl; exact Fld.sclF_at _ l)) (fun a ha hai l hl => by unfold Fld.sclF; rw [if_neg (by omega), if_neg (by omega)])
        replace hbc := hbc.mb hm ((hswt ▸ hW.ne ht hKpc : some (bs k) ≠ some pc))
        replace hS := hS.mb hm (fun k e => ⟨by cases e; exact hR0s.1, hR0.isrow k e⟩)
        replace hR0 := ho'
        clear hm hI' ho'
        clear hR0 hR0s hct
        clear hSS
        replace hct := (hO.kc (by decide) (vls_at ht)).c
        rw [hswt] at hct
        have hSS : (fun (w2 : World) => w2.cell? ⟨pf, 0, none⟩ = some (fv) ∧ w2.cell? ⟨pa, 0, none⟩ = some (.slice (some ⟨g, 0, none⟩) n cap) ∧ w2.cell? ⟨pt, 0, none⟩ = some (.int .i64 (t : Int)) ∧ w2.cell? ⟨g, 0 + t, none⟩ = some (.slice (some ⟨bs k, 0, none⟩) m (rc k))) _ := And.intro hkf.c (And.intro hka.c (And.intro hbt.at hct))
        refine WL_nil ⟨hSS, ?_⟩
        refine b_done (by kernel_rfl) (hK _ _ ?_)
        clear hK K
        replace hF := hF.sub _ (c_ 3 rfl (c_ 4 rfl (c_ 7 rfl (c_ 8 rfl (c_ 18 rfl (c_ 19 rfl (c_ 9 rfl (c_ 11 rfl (c_ 65 rfl (c_ 66 rfl (c_ 67 rfl (n_))))))))))))
        refine W_reg rfl (fun K hK => ?_)
        refine sv hF (v_addI rfl rfl (by omega)) rfl ?_; clear hF a; intro a hF
        refine sv hF (v_move rfl) rfl ?_; clear hF a; intro a hF
        refine WL_nil (hK _ _ ?_)
        clear hK K
        exact ⟨q2 - 1, by omega, j + 1, hF.sub _ (c_ 3 rfl (c_ 4 rfl (c_ 7 rfl (c_ 8 rfl (c_ 18 rfl (c_ 19 rfl (c_ 9 rfl (c_ 11 rfl (c_ 65 rfl (c_ 66 rfl (c_ 67 rfl (n_)))))))))))), hS, hf, hkf, hka, hbt, hbc, hO, hW, by omega, by omega⟩
       ·
        skip
        try simp only [dcl] at hc4
        have hjm : j = m := by omega
        rw [hjm] at hW
        refine W_exit rfl ?_
        refine W_seq ?_
        refine W_sr rfl (fun K hK => ?_)
        refine sv hF (v_load sc28 rfl (hka.c)) rfl ?_; clear hF a; intro a hF
        refine sv hF (v_lenS rfl sl28 rfl) rfl ?_; clear hF a; intro a hF
        refine sv hF (v_move rfl) rfl ?_; clear hF a; intro a hF
        refine WL_nil (hK _ _ ?_)
        clear hK K
        replace hF := hF.sub _ (c_ 85 rfl (c_ 84 rfl (c_ 83 rfl (c_ 3 rfl (c_ 4 rfl (c_ 7 rfl (c_ 8 rfl (c_ 18 rfl (c_ 19 rfl (c_ 9 rfl (c_ 11 rfl (c_ 65 rfl (c_ 66 rfl (c_ 67 rfl (n_)))))))))))))))
        refine W_block ?_
        refine W_loop (fun q3 a w4 => ∃ (i : Nat), Fr 102 [(3, .pointer (some ⟨pf, 0, none⟩)), (4, .pointer (some ⟨pa, 0, none⟩)), (7, .pointer (some ⟨pt, 0, none⟩)), (8, .func (.func 91) ([] : List Value).toArray ([.pointer (some ⟨pf, 0, none⟩), .pointer (some ⟨pa, 0, none⟩), .pointer (some ⟨pt, 0, none⟩)] : List Value).toArray), (18, .int .i64 (cols : Int)), (19, .int .i64 (c : Int)), (9, .pointer (some ⟨pc, 0, none⟩)), (83, .slice (some ⟨g, 0, none⟩) n cap), (84, .int .i64 (n : Int)), (85, .int .i64 (i : Int))] a ∧ (StZ FDx B (fun k => N ≤ k) w w4) ∧ (Fo FDx B w4 fv (some (wb, p))) ∧ (KC FDx B w4 ⟨pf, 0, none⟩ (fv)) ∧ (KC FDx B w4 ⟨pa, 0, none⟩ (.slice (some ⟨g, 0, none⟩) n cap)) ∧ (Box FDx B pt w4 pt 3 (.int .i64 (t : Int))) ∧ (Box FDx B pc w4 pc 3 (.int .i64 (c : Int))) ∧ (Gam.Own FDx B N w4 37 (.slice (some ⟨g, 0, none⟩) n cap) (some g) (vls n m (fun i => bs (Fld.sw t k i)) (fun i => rc (Fld.sw t k i)))) ∧ (Wr FDx B N KM w4 n m (fun i => bs (Fld.sw t k i)) (fun i => rc (Fld.sw t k i)) (hp.fld.cleF t c i (hp.fld.sclF t (hp.fld.inv (f1 k c)) m (fun i j => f1 (Fld.sw t k i) j)))) ∧ (i ≤ n) ∧ (q3 + i = n)) (n) ?_ ?_
        ·
         skip
         exact ⟨0, hF.sub _ (c_ 3 rfl (c_ 4 rfl (c_ 7 rfl (c_ 8 rfl (c_ 18 rfl (c_ 19 rfl (c_ 9 rfl (c_ 83 rfl (c_ 84 rfl (c_ 85 rfl (n_))))))))))), hS, hf, hkf, hka, hbt, hbc, hO, hW.congr (fun a _ l _ => by unfold Fld.cleF; rw [if_neg (by omega)]), by omega, by omega⟩
        ·
         skip
         clear hF
         clear hS hf hkf hka hbt hbc hO hW
         rintro q3 a w4 ⟨i, hF, hS, hf, hkf, hka, hbt, hbc, hO, hW, hi, hq3⟩
         refine W_sr rfl (fun K hK => ?_)
         refine sv hF (v_lss rfl rfl) rfl ?_; clear hF a; intro a hF
         refine WL_nil (hK _ _ ?_)
         clear hK K
         refine W_seq ?_
         refine W_if hF rfl (fun hc5 => ?_) (fun hc5 => ?_)
         ·
          skip
          try simp only [dcl] at hc5
          have hlt : i < n := by omega
          refine W_skip ?_
          refine W_seq ?_
          refine W_block ?_
          refine W_sr rfl (fun K hK => ?_)
          refine sv hF (v_move rfl) rfl ?_; clear hF a; intro a hF
          refine sv hF (v_ixS sl28 rfl rfl (by omega) (by omega)) rfl ?_; clear hF a; intro a hF
          refine sv hF (v_load sc37 rfl (by rw [toNat_c]; exact (hO.kc (by decide) (vls_at hlt)).c)) rfl ?_; clear hF a; intro a hF
          refine sv2 hF (v_assign rfl) (v_assign rfl) rfl rfl ?_; clear hF a; intro a hF
          refine WL_nil (hK _ _ ?_)
          clear hK K
          refine W_sr rfl (fun K hK => ?_)
          refine sv hF (v_move rfl) rfl ?_; clear hF a; intro a hF
          refine sv hF (v_load sc3 rfl (hbt.at)) rfl ?_; clear hF a; intro a hF
          refine sv hF (v_neq rfl rfl) rfl ?_; clear hF a; intro a hF
          refine WL_nil (hK _ _ ?_)
          clear hK K
          refine W_if hF rfl (fun hc6 => ?_) (fun hc6 => ?_)
          ·
           skip
           try simp only [dcl] at hc6
           have hbd4 : hp.fld.Bd (hp.fld.cleF t c i (hp.fld.sclF t (hp.fld.inv (f1 k c)) m (fun i j => f1 (Fld.sw t k i) j))) := hp.fld.cleF_bd (hp.fld.sclF_bd (fun a b => hb1 _ b))
           have hit : i ≠ t := by omega
           refine W_reg rfl (fun K hK => ?_)
           refine sv2 hF (v_move rfl) (v_move rfl) rfl rfl ?_; clear hF a; intro a hF
           refine sv hF (v_load sc3 rfl (hbc.at)) rfl ?_; clear hF a; intro a hF
           refine sc hF rfl rfl rfl en91 rfl (clear_ok B N KM wb p hp fv pf pa pt g cap n m (fun i => bs (Fld.sw t k i)) (fun i => rc (Fld.sw t k i)) (hp.fld.cleF t c i (hp.fld.sclF t (hp.fld.inv (f1 k c)) m (fun i j => f1 (Fld.sw t k i) j))) i t c _ hS.inv hf hkf hka hbt.kc ⟨hKpf, hKpa, hKpt⟩ hO hW hbd4 hlt ht hit hcl hnm) ?_; clear hF a; intro v w' a hv hF
           obtain ⟨-, hO', hW', hz⟩ := hv
           have hni := hW.ge hlt
           replace hkf := hkf.stz hz (fun e => hW.ne hlt hKpf (congrArg some e.symm))
           replace hka := hka.stz hz (fun e => hW.ne hlt hKpa (congrArg some e.symm))
           replace hbt := hbt.stz hz (fun e => hW.ne hlt hKpt (congrArg some e.symm))
           replace hbc := hbc.stz hz (fun e => hW.ne hlt hKpc (congrArg some e.symm))
           replace hf := hf.stz hz
           replace hS := hS.transZ (hz.weak (fun k e => by subst e; exact hni.1))
           replace hO := hO'
           replace hW := hW'.congr (fun a ha l hl => hp.fld.cleF_step (m := m) hcl (by omega) a l hl)
           clear hO' hW' hz hni
           refine WL_nil (hK _ _ ?_)
           clear hK K
           replace hF := hF.sub _ (c_ 95 rfl (c_ 94 rfl (c_ 93 rfl (c_ 92 rfl (c_ 91 rfl (c_ 90 rfl (c_ 16 rfl (c_ 15 rfl (c_ 89 rfl (c_ 88 rfl (c_ 87 rfl (c_ 86 rfl (c_ 3 rfl (c_ 4 rfl (c_ 7 rfl (c_ 8 rfl (c_ 18 rfl (c_ 19 rfl (c_ 9 rfl (c_ 83 rfl (c_ 84 rfl (c_ 85 rfl (n_)))))))))))))))))))))))
           refine W_reg rfl (fun K hK => ?_)
           refine sv hF (v_addI rfl rfl (by omega)) rfl ?_; clear hF a; intro a hF
           refine sv hF (v_move rfl) rfl ?_; clear hF a; intro a hF
           refine WL_nil (hK _ _ ?_)
           clear hK K
           exact ⟨q3 - 1, by omega, i + 1, hF.sub _ (c_ 3 rfl (c_ 4 rfl (c_ 7 rfl (c_ 8 rfl (c_ 18 rfl (c_ 19 rfl (c_ 9 rfl (c_ 83 rfl (c_ 84 rfl (c_ 85 rfl (n_))))))))))), hS, hf, hkf, hka, hbt, hbc, hO, hW, by omega, by omega⟩
          ·
           skip
           try simp only [dcl] at hc6
           obtain rfl : i = t := by omega
           replace hW := hW.congr (fun a _ l _ => hp.fld.cleF_skip a l)
           refine W_skip ?_
           refine W_reg rfl (fun K hK => ?_)
           refine sv hF (v_addI rfl rfl (by omega)) rfl ?_; clear hF a; intro a hF
           refine sv hF (v_move rfl) rfl ?_; clear hF a; intro a hF
           refine WL_nil (hK _ _ ?_)
           clear hK K
           exact ⟨q3 - 1, by omega, i + 1, hF.sub _ (c_ 3 rfl (c_ 4 rfl (c_ 7 rfl (c_ 8 rfl (c_ 18 rfl (c_ 19 rfl (c_ 9 rfl (c_ 83 rfl (c_ 84 rfl (c_ 85 rfl (n_))))))))))), hS, hf, hkf, hka, hbt, hbc, hO, hW, by omega, by omega⟩
         ·
          skip
          try simp only [dcl] at hc5
          obtain rfl : i = n := by omega
          have hrd := hp.fld.red_some hf1.symm ht1.symm hpk
          have hrd2 : (hp.fld.red i f (c + 1)).2 = t + 1 := by rw [hrd]
          replace hW := hW.congr (g := (hp.fld.red i f (c + 1)).1) (fun a ha l hl => by rw [hrd]; exact hp.fld.op_eq hcl a ha l hl)
          refine W_exit rfl ?_
          refine W_reg rfl (fun K hK => ?_)
          refine sv hF (v_load sc3 rfl (hbt.at)) rfl ?_; clear hF a; intro a hF
          refine sv hF (v_addI rfl rfl (by omega)) rfl ?_; clear hF a; intro a hF
          refine s_stb (D := FDx) (B := B) hF on3 rfl rfl (rfl) hbt hS.inv ?_; intro w' hm hI' hbx'
          replace hf := hf.mb hm
          replace hkf := hkf.mb hm (by simp; omega)
          replace hka := hka.mb hm (by simp; omega)
          replace hO := hO.mb hm (fun k e e2 => by cases e; cases e2; exact absurd hgK (by omega))
          replace hW := hW.mbx hm (fun k e => by cases e; omega)
          replace hS := hS.mb hm (fun k h => by cases h; exact ⟨by omega, _, _, _, hbt.blk⟩)
          replace hbt := hbx'
          clear hm hI' hbx'
          rw [show ((t : Int) + 1) = (((hp.fld.red i f (c + 1)).2 : Nat) : Int) by rw [hrd2]; omega] at hbt
          clear hbc
          refine WL_nil (hK _ _ ?_)
          clear hK K
          refine W_reg rfl (fun K hK => ?_)
          refine sv hF (v_addI rfl rfl (by omega)) rfl ?_; clear hF a; intro a hF
          refine sv hF (v_move rfl) rfl ?_; clear hF a; intro a hF
          refine WL_nil (hK _ _ ?_)
          clear hK K
          exact ⟨q - 1, by omega, c + 1, _, _, hF.sub _ (c_ 3 rfl (c_ 4 rfl (c_ 7 rfl (c_ 8 rfl (c_ 18 rfl (c_ 19 rfl (n_))))))), hS, hf, hkf, hka, hbt, hO, hW, by omega, by omega⟩
  ·
   skip
   try simp only [dcl] at hc1
   refine W_exit rfl ?_
   refine W_sr rfl (fun K hK => ?_)
   refine sv hF (v_load sc3 rfl (by first | assumption | (rw [toNat_c]; assumption) | exact KC.c (by assumption) | (rw [toNat_c]; exact KC.c (by assumption)) | exact Box.at (by assumption))) rfl ?_; clear hF a; intro a hF
   refine sv hF (v_assign rfl) rfl ?_; clear hF a; intro a hF
   refine WL_nil (hK _ _ ?_)
   clear hK K
   replace hF := hF.sub _ (c_ 6 rfl (c_ 101 rfl (c_ 3 rfl (c_ 4 rfl (c_ 7 rfl (c_ 8 rfl (c_ 18 rfl (c_ 19 rfl (n_)))))))))
   refine W_ret ?_
   refine ⟨_, _, hF, rfl, ?_⟩
   obtain rfl : c = cols := by omega
   exact ⟨rfl, ⟨bs, rc, hO, by rw [← hKM]; exact hW⟩, hS⟩

end Go.Proofs.Ytaeljbdpjiciaaa

/- The walks of package matrix: the identity; rows picked, joined. -/
set_option linter.unusedVariables false
set_option linter.unusedSimpArgs false
namespace Go.Proofs.Ytaeljbdpjiciaaa
open Go Go.Gam


namespace FxFMatB
theorem en68 : Ent Try.prog 68 := ent Try.func68 (by kernel_rfl) (by kernel_rfl)
theorem on3 : Gam.One Try.prog 3 := by unfold Gam.One; kernel_rfl
theorem sl28 : Sl Try.prog 28 37 (.slice none 0 0) 24 := sl_of Try.underlying28 rfl (by kernel_rfl)
theorem sl37 : Sl Try.prog 37 3 (.int .i64 0) 8 := sl_of Try.underlying37 rfl (by kernel_rfl)
end FxFMatB
open FxFMatB

set_option maxRecDepth 100000 in
set_option maxHeartbeats 1000000 in
theorem Clone_ok (B M : Nat) (pxs : Option Addr) (cxs : Nat) (xs : List Int) (w : World) (hI : Inv FDx B w) (hx : Row FDx B M w (.slice pxs xs.length cxs) (zints xs)) (hM : M ≤ w.heap.size) (hl : xs.length ≤ 1000000) : Ret Try.prog 63 [.slice pxs xs.length cxs] w fun v w' => ∃ ob, Gam.Own FDx B w.heap.size w' FDx.E v ob (zints (xs)) ∧ St FDx B w w' := by
 refine enter 8 [(0, .slice pxs xs.length cxs)] 2 Try.func63 rfl rfl rfl rfl rfl ?_; intro a hF
 have hS := St.refl hI
 refine W_sr rfl (fun K hK => ?_)
 refine sv hF (v_assign rfl) rfl ?_; clear hF a; intro a hF
 refine WL_nil (hK _ _ ?_)
 clear hK K
 refine W_seq ?_
 refine W_sr rfl (fun K hK => ?_)
 refine sv hF (v_move rfl) rfl ?_; clear hF a; intro a hF
 refine sv hF (v_eqlSl (by exact Try.underlying37) rfl rfl) rfl ?_; clear hF a; intro a hF
 refine WL_nil (hK _ _ ?_)
 clear hK K
 replace hF := hF.sub _ (c_ 4 rfl (c_ 2 rfl (c_ 0 rfl (n_))))
 refine W_if hF rfl (fun hc1 => ?_) (fun hc1 => ?_)
 ·
  skip
  try simp only [dcl] at hc1
  refine W_sr rfl (fun K hK => ?_)
  refine sv hF (v_assign rfl) rfl ?_; clear hF a; intro a hF
  refine WL_nil (hK _ _ ?_)
  clear hK K
  replace hF := hF.sub _ (c_ 2 rfl (c_ 0 rfl (n_)))
  refine W_ret ?_
  refine ⟨_, _, hF, rfl, ?_⟩
  have hn : pxs = none := by cases pxs with | none => rfl | some a => simp at hc1
  subst hn
  have he := ofz hx.nilx
  subst he
  exact ⟨none, Gam.Own.nil _ _ _ _ _, hS⟩
 ·
  skip
  try simp only [dcl] at hc1
  refine W_skip ?_
  refine W_sr rfl (fun K hK => ?_)
  refine s_bs (D := FDx) (B := B) hF sl37 rfl rfl (by decide) (by simp [Value.cells]) (by decide) hS.inv rfl ?_; clear hF a; intro w' a hm hI' hO hF
  replace hx := hx.mb hm (fun _ h => by cases h)
  replace hS := hS.mb0 hm
  clear hm hI'
  refine sv hF (v_move rfl) rfl ?_; clear hF a; intro a hF
  refine s_app (D := FDx) (B := B) hF rfl sl37 rfl rfl hO (hx) (by intro u hu; obtain ⟨_, _, rfl⟩ := List.mem_map.1 hu; rfl) (by simp; omega) (by simp [maxLen]; omega) (by have := hS.ext.size; omega) (by decide) hS.inv rfl ?_; clear hF a; intro v' b' w' a ho' hm hI' hb' hF
  replace hx := hx.mb hm (fun k h => Nat.le_trans (hM) (hO.lt k h).1)
  replace hS := hS.mb hm (fun k h => Nat.le_trans (Nat.le_refl _) (hO.lt k h).1)
  replace hO := ho'
  clear hm hI' ho'
  refine sv hF (v_assign rfl) rfl ?_; clear hF a; intro a hF
  refine WL_nil (hK _ _ ?_)
  clear hK K
  replace hF := hF.sub _ (c_ 2 rfl (n_))
  refine W_ret ?_
  refine ⟨_, _, hF, rfl, ?_⟩
  exact ⟨_, hO.cast (List.nil_append _), hS⟩

set_option maxRecDepth 100000 in
set_option maxHeartbeats 1000000 in
theorem Identity_ok (B : Nat) (n : Int) (w : World) (hI : Inv FDx B w) (hn : -9223372036854775808 ≤ n ∧ n < 9223372036854775808) : Ret Try.prog 61 [.int .i64 n] w fun v w' => ∃ ob, MOwn FDx B w.heap.size 0 w'.heap.size w' 37 v ob (identM n) ∧ St FDx B w w' := by
 refine enter 24 [(0, .int .i64 n)] 2 Try.func61 rfl rfl rfl rfl rfl ?_; intro a hF
 have hS := St.refl hI
 refine W_sr rfl (fun K hK => ?_)
 refine sv hF (v_assign rfl) rfl ?_; clear hF a; intro a hF
 refine WL_nil (hK _ _ ?_)
 clear hK K
 refine W_seq ?_
 refine W_sr rfl (fun K hK => ?_)
 refine sv hF (v_move rfl) rfl ?_; clear hF a; intro a hF
 refine sc hF rfl rfl rfl en68 rfl (within_ok n _) ?_; clear hF a; intro v w' a hv hF
 obtain ⟨rfl, hw⟩ := hv
 obtain rfl := hw.symm
 have hS' := St.refl hS.inv
 replace hS := hS.trans hS'
 clear hS'
 refine sv hF (v_not rfl) rfl ?_; clear hF a; intro a hF
 refine WL_nil (hK _ _ ?_)
 clear hK K
 replace hF := hF.sub _ (c_ 8 rfl (c_ 2 rfl (c_ 0 rfl (n_))))
 refine W_if hF rfl (fun hc1 => ?_) (fun hc1 => ?_)
 ·
  skip
  try simp only [dcl] at hc1
  refine W_sr rfl (fun K hK => ?_)
  refine sv hF (v_assign rfl) rfl ?_; clear hF a; intro a hF
  refine WL_nil (hK _ _ ?_)
  clear hK K
  replace hF := hF.sub _ (c_ 2 rfl (c_ 0 rfl (n_)))
  refine W_ret ?_
  refine ⟨_, _, hF, rfl, ?_⟩
  have he : identM n = [] := if_neg (by simpa using hc1)
  rw [he]
  exact ⟨none, MOwn.nil _ _ _ _ _ _ _ (Nat.zero_le _), hS⟩
 ·
  skip
  try simp only [dcl] at hc1
  have hn20 : 1 ≤ n ∧ n ≤ 20 := by simpa using hc1
  refine W_skip ?_
  refine W_sr rfl (fun K hK => ?_)
  refine sv hF (v_assign rfl) rfl ?_; clear hF a; intro a hF
  refine WL_nil (hK _ _ ?_)
  clear hK K
  replace hF := hF.sub _ (c_ 3 rfl (c_ 2 rfl (c_ 0 rfl (n_))))
  refine W_seq ?_
  refine W_sr rfl (fun K hK => ?_)
  refine sv2 hF (v_move rfl) (v_move rfl) rfl rfl ?_; clear hF a; intro a hF
  refine WL_nil (hK _ _ ?_)
  clear hK K
  refine W_block ?_
  refine W_loop (fun m a w1 => ∃ (i : Nat) (v3 : Value) (b3 : Option Nat), Fr 24 [(0, .int .i64 n), (3, v3), (9, .int .i64 n), (10, .int .i64 (i : Int))] a ∧ (St FDx B w w1) ∧ (MOwn FDx B w.heap.size 0 w1.heap.size w1 37 v3 b3 ((List.range i).map (unitR n.toNat))) ∧ (i ≤ n.toNat) ∧ (m + i = n.toNat)) (n.toNat) ?_ ?_
  ·
   skip
   exact ⟨0, _, none, hF.sub _ (c_ 0 rfl (c_ 3 rfl (c_ 9 rfl (c_ 10 rfl (n_))))), hS, MOwn.nil _ _ _ _ _ _ _ (Nat.zero_le _), by omega, by omega⟩
  ·
   skip
   clear hF
   clear hS
   rintro m a w1 ⟨i, v3, b3, hF, hS, hMO, hi, hm⟩
   obtain ⟨K, hKe⟩ : ∃ K, K = w1.heap.size := ⟨_, rfl⟩
   rw [← hKe] at hMO
   have hKs : K ≤ w1.heap.size := by omega
   have hNK : w.heap.size ≤ K := by have := hS.ext.size; omega
   clear hKe
   refine W_sr rfl (fun K hK => ?_)
   refine sv hF (v_lss rfl rfl) rfl ?_; clear hF a; intro a hF
   refine WL_nil (hK _ _ ?_)
   clear hK K
   refine W_seq ?_
   refine W_if hF rfl (fun hc2 => ?_) (fun hc2 => ?_)
   ·
    skip
    try simp only [dcl] at hc2
    have hlt : i < n.toNat := by omega
    refine W_skip ?_
    refine W_seq ?_
    refine W_block ?_
    refine W_sr rfl (fun K hK => ?_)
    refine sv2 hF (v_move rfl) (v_assign rfl) rfl rfl ?_; clear hF a; intro a hF
    refine WL_nil (hK _ _ ?_)
    clear hK K
    replace hF := hF.sub _ (c_ 4 rfl (c_ 0 rfl (c_ 3 rfl (c_ 9 rfl (c_ 10 rfl (n_))))))
    refine W_sr rfl (fun K hK => ?_)
    refine sv hF (v_move rfl) rfl ?_; clear hF a; intro a hF
    refine s_mk (D := FDx) (B := B) (m := n.toNat) hF sl37 rfl rfl (by omega) (by omega) (by simp only [maxLen]; omega) (by decide) hS.inv rfl ?_; clear hF a; intro w' a hm hI' hO hF
    replace hO := hO.le hKs
    replace hMO := hMO.mb0 hm
    replace hKs := Nat.le_trans hKs hm.size
    replace hS := hS.mb0 hm
    clear hm hI'
    replace hO := hO.cast (show List.replicate n.toNat (Value.int .i64 0) = zints (List.replicate n.toNat 0) by simp [zints])
    generalize Array.size _ = gO at hO hF
    refine sv hF (v_assign rfl) rfl ?_; clear hF a; intro a hF
    refine WL_nil (hK _ _ ?_)
    clear hK K
    replace hF := hF.sub _ (c_ 5 rfl (c_ 4 rfl (c_ 0 rfl (c_ 3 rfl (c_ 9 rfl (c_ 10 rfl (n_)))))))
    refine W_sr rfl (fun K hK => ?_)
    refine sv2 hF (v_move rfl) (v_move rfl) rfl rfl ?_; clear hF a; intro a hF
    refine sv hF (v_ixS sl37 rfl rfl (by omega) (by omega)) rfl ?_; clear hF a; intro a hF
    refine s_set (D := FDx) (B := B) hF on3 rfl (by rw [toNat_c]; simp; omega) rfl rfl hO (by decide) hS.inv ?_; intro w' hm hI' ho'
    replace hMO := hMO.mbo hm hO (by decide) (Nat.le_refl _) (Nat.zero_le _)
    replace hKs := Nat.le_trans hKs hm.size
    replace hS := hS.mb hm (fun k h => Nat.le_trans (hNK) (hO.lt k h).1)
    replace hO := ho'
    clear hm hI' ho'
    rw [toNat_c, Nat.zero_add, zints_set, unitR_set _ _ (by omega)] at hO
    refine WL_nil (hK _ _ ?_)
    clear hK K
    replace hF := hF.sub _ (c_ 5 rfl (c_ 0 rfl (c_ 3 rfl (c_ 9 rfl (c_ 10 rfl (n_))))))
    refine W_reg rfl (fun K hK => ?_)
    refine sv2 hF (v_move rfl) (v_move rfl) rfl rfl ?_; clear hF a; intro a hF
    skip
    refine s_bs (D := FDx) (B := B) hF sl28 rfl rfl (by decide) (by simp [Value.cells]) (by decide) hS.inv rfl ?_; clear hF a; intro w' a hm hI' hL hF
    replace hMO := hMO.mb0 hm
    replace hKs := Nat.le_trans hKs hm.size
    replace hO := hO.mb hm (fun _ _ => by simp)
    replace hS := hS.mb0 hm
    clear hm hI'
    replace hMO := hMO.up hKs
    clear hKs
    refine s_appM (D := FDx) (B := B) hF rfl sl28 rfl rfl hMO hL (.of hO (Nat.zero_le _)) rfl rfl (by simp; omega) (hS.ext.size) (by decide) (by decide) hS.inv rfl ?_; clear hF a; intro v' b' w' a ho' hm hI' hF
    replace hS := hS.mb hm (fun k h => (hMO.lt k h).1)
    have hKm := hm.size
    replace hMO := ho'
    clear hm hI' ho' hL
    refine sv hF (v_assign rfl) rfl ?_; clear hF a; intro a hF
    refine WL_nil (hK _ _ ?_)
    clear hK K
    replace hF := hF.sub _ (c_ 3 rfl (c_ 0 rfl (c_ 9 rfl (c_ 10 rfl (n_)))))
    refine W_reg rfl (fun K hK => ?_)
    refine sv hF (v_addI rfl rfl (by omega)) rfl ?_; clear hF a; intro a hF
    refine sv hF (v_move rfl) rfl ?_; clear hF a; intro a hF
    refine WL_nil (hK _ _ ?_)
    clear hK K
    exact ⟨m - 1, by omega, i + 1, _, _, hF.sub _ (c_ 0 rfl (c_ 3 rfl (c_ 9 rfl (c_ 10 rfl (n_))))), hS, (hMO.up hKm).cast (idM_snoc _ _).symm, by omega, by omega⟩
   ·
    skip
    try simp only [dcl] at hc2
    refine W_exit rfl ?_
    refine W_sr rfl (fun K hK => ?_)
    refine sv2 hF (v_move rfl) (v_assign rfl) rfl rfl ?_; clear hF a; intro a hF
    refine WL_nil (hK _ _ ?_)
    clear hK K
    replace hF := hF.sub _ (c_ 2 rfl (c_ 23 rfl (c_ 0 rfl (c_ 3 rfl (c_ 9 rfl (c_ 10 rfl (n_)))))))
    refine W_ret ?_
    refine ⟨_, _, hF, rfl, ?_⟩
    obtain rfl : i = n.toNat := by omega
    exact ⟨_, (hMO.up hKs).cast (by unfold identM; rw [if_pos hn20, idM_eq]), hS⟩

end Go.Proofs.Ytaeljbdpjiciaaa

/- The walks of package matrix: products. -/
set_option linter.unusedVariables false
set_option linter.unusedSimpArgs false
namespace Go.Proofs.Ytaeljbdpjiciaaa
open Go Go.Gam


namespace FxFMatC
end FxFMatC
open FxFMatC

end Go.Proofs.Ytaeljbdpjiciaaa

/- The walk of package matrix: Mul. -/
set_option linter.unusedVariables false
set_option linter.unusedSimpArgs false
namespace Go.Proofs.Ytaeljbdpjiciaaa
open Go Go.Gam


namespace FxFMatD
end FxFMatD
open FxFMatD

end Go.Proofs.Ytaeljbdpjiciaaa

/- The walk of package matrix: Apply. -/
set_option linter.unusedVariables false
set_option linter.unusedSimpArgs false
namespace Go.Proofs.Ytaeljbdpjiciaaa
open Go Go.Gam


namespace FxFMatE
end FxFMatE
open FxFMatE

end Go.Proofs.Ytaeljbdpjiciaaa

/- The walks of package invert: Inverse, Rank, Solve. -/
set_option linter.unusedVariables false
set_option linter.unusedSimpArgs false
namespace Go.Proofs.Ytaeljbdpjiciaaa
open Go Go.Gam


namespace FxFInvD
theorem en56 : Ent Try.prog 56 := ent Try.func56 (by kernel_rfl) (by kernel_rfl)
theorem en59 : Ent Try.prog 59 := ent Try.func59 (by kernel_rfl) (by kernel_rfl)
theorem en60 : Ent Try.prog 60 := ent Try.func60 (by kernel_rfl) (by kernel_rfl)
theorem en61 : Ent Try.prog 61 := ent Try.func61 (by kernel_rfl) (by kernel_rfl)
theorem en62 : Ent Try.prog 62 := ent Try.func62 (by kernel_rfl) (by kernel_rfl)
theorem en63 : Ent Try.prog 63 := ent Try.func63 (by kernel_rfl) (by kernel_rfl)
theorem sc37 : Scalar Try.prog 37 := ⟨_, Try.underlying37, by simp, by simp⟩
theorem sl28 : Sl Try.prog 28 37 (.slice none 0 0) 24 := sl_of Try.underlying28 rfl (by kernel_rfl)
theorem sl37 : Sl Try.prog 37 3 (.int .i64 0) 8 := sl_of Try.underlying37 rfl (by kernel_rfl)
end FxFInvD
open FxFInvD

set_option maxRecDepth 100000 in
set_option maxHeartbeats 1000000 in
theorem square_ok (B M : Nat) (o : Fq) (fv : Value) (pmt : Option Addr) (cmt : Nat) (mt : Mtx) (w : World) (hI : Inv FDx B w) (hf : Fo FDx B w fv o) (hAmt : Mat FDx B M w pmt cmt mt) (hlmt : mt.length ≤ maxLen) (hbmt : ∀ r ∈ mt, r.length ≤ maxLen) : Ret Try.prog 59 [fv, .slice pmt mt.length cmt] w fun v w' => v = .bool (sqM o mt) ∧ St FDx B w w' := by
 refine enter 17 [(0, fv), (1, .slice pmt mt.length cmt)] 4 Try.func59 rfl rfl rfl rfl rfl ?_; intro a hF
 have hS := St.refl hI
 refine W_sr rfl (fun K hK => ?_)
 refine sv hF (v_assign rfl) rfl ?_; clear hF a; intro a hF
 refine WL_nil (hK _ _ ?_)
 clear hK K
 refine W_sr rfl (fun K hK => ?_)
 refine sv2 hF (v_move rfl) (v_move rfl) rfl rfl ?_; clear hF a; intro a hF
 refine sc hF rfl rfl rfl en56 rfl (May_ok B M o fv pmt cmt mt _ hS.inv hf hAmt hlmt hbmt) ?_; clear hF a; intro v w' a hv hF
 obtain ⟨rfl, hS'⟩ := hv
 replace hAmt := hAmt.st hS'
 replace hS := hS.trans hS'
 clear hS'
 obtain hc1 | hc1 : (mayM o mt) = true ∨ (mayM o mt) = false := by cases (mayM o mt) <;> simp
 ·
  rw [hc1] at hF
  have hmay : mayM o mt = true := hc1
  have hmp := mayM_pos hmay
  obtain ⟨r0, h0⟩ : ∃ r, mt[0]? = some r := ⟨_, List.getElem?_eq_getElem (by omega)⟩
  obtain ⟨g0, o0, pr0, cr0, hg0, hk0, hrow0, -⟩ := hAmt.row h0
  have hw0 := wid_at h0
  subst hg0
  refine sv hF (v_move rfl) rfl ?_; clear hF a; intro a hF
  refine svg hF rfl ?_
  refine sv hF (v_move rfl) rfl ?_; clear hF a; intro a hF
  refine svg hF rfl ?_
  refine sv hF (v_lenS rfl sl28 rfl) rfl ?_; clear hF a; intro a hF
  refine svg hF rfl ?_
  refine sv hF (v_move rfl) rfl ?_; clear hF a; intro a hF
  refine svg hF rfl ?_
  refine sv hF (v_ixS sl28 rfl rfl (by decide) (by omega)) rfl ?_; clear hF a; intro a hF
  refine svg hF rfl ?_
  refine sv hF (v_load sc37 rfl hk0.c) rfl ?_; clear hF a; intro a hF
  refine svg hF rfl ?_
  refine sv hF (v_lenS rfl sl37 rfl) rfl ?_; clear hF a; intro a hF
  refine svg hF rfl ?_
  refine sv hF (v_eql rfl rfl) rfl ?_; clear hF a; intro a hF
  refine sv2 hF (v_pickT rfl rfl) (v_assign rfl) rfl rfl ?_; clear hF a; intro a hF
  refine WL_nil (hK _ _ ?_)
  clear hK K
  replace hF := hF.sub _ (c_ 4 rfl (n_))
  refine W_ret ?_
  refine ⟨_, _, hF, rfl, ?_⟩
  exact ⟨by congr 1; unfold sqM; rw [hmay, hw0]; simp only [Bool.true_and]; rw [decide_eq_decide]; omega, hS⟩
 ·
  rw [hc1] at hF
  refine sv hF (v_move rfl) rfl ?_; clear hF a; intro a hF
  refine svn hF rfl rfl rfl ?_; clear hF a; intro a hF
  refine svn hF rfl rfl rfl ?_; clear hF a; intro a hF
  refine svn hF rfl rfl rfl ?_; clear hF a; intro a hF
  refine svn hF rfl rfl rfl ?_; clear hF a; intro a hF
  refine svn hF rfl rfl rfl ?_; clear hF a; intro a hF
  refine svn hF rfl rfl rfl ?_; clear hF a; intro a hF
  refine svn hF rfl rfl rfl ?_; clear hF a; intro a hF
  refine sv2 hF (v_pickF rfl rfl) (v_assign rfl) rfl rfl ?_; clear hF a; intro a hF
  refine WL_nil (hK _ _ ?_)
  clear hK K
  replace hF := hF.sub _ (c_ 4 rfl (n_))
  refine W_ret ?_
  refine ⟨_, _, hF, rfl, ?_⟩
  exact ⟨by congr 1; unfold sqM; rw [show mayM o mt = false by simpa using hc1]; rfl, hS⟩

set_option maxRecDepth 100000 in
set_option maxHeartbeats 1000000 in
theorem Inverse_ok (B M wb p : Nat) (hp : Prm wb p) (fv : Value) (pmt : Option Addr) (cmt : Nat) (mt : Mtx) (w : World) (hI : Inv FDx B w) (hM : M ≤ w.heap.size) (hf : Fo FDx B w fv (some (wb, p))) (hAmt : Mat FDx B M w pmt cmt mt) (hlmt : mt.length ≤ maxLen) (hbmt : ∀ r ∈ mt, r.length ≤ maxLen) : Ret Try.prog 28 [fv, .slice pmt mt.length cmt] w fun v w' => ∃ ob u, v = .tuple #[u, .int .i64 (invR hp mt).1] ∧ MOwn FDx B w.heap.size 0 w'.heap.size w' 37 u ob (invR hp mt).2 ∧ St FDx B w w' := by
 refine enter2 42 [(0, fv), (1, .slice pmt mt.length cmt)] 4 5 Try.func28 rfl rfl rfl rfl rfl ?_; intro a hF
 have hS := St.refl hI
 refine W_sr rfl (fun K hK => ?_)
 refine sv2 hF (v_assign rfl) (v_assign rfl) rfl rfl ?_; clear hF a; intro a hF
 refine WL_nil (hK _ _ ?_)
 clear hK K
 refine W_seq ?_
 refine W_sr rfl (fun K hK => ?_)
 refine sv2 hF (v_move rfl) (v_move rfl) rfl rfl ?_; clear hF a; intro a hF
 refine sc hF rfl rfl rfl en59 rfl (square_ok B M (some (wb, p)) fv pmt cmt mt _ hS.inv hf hAmt hlmt hbmt) ?_; clear hF a; intro v w' a hv hF
 obtain ⟨rfl, hS'⟩ := hv
 replace hf := hf.st hS'
 replace hAmt := hAmt.st hS'
 replace hS := hS.trans hS'
 clear hS'
 refine sv hF (v_not rfl) rfl ?_; clear hF a; intro a hF
 refine WL_nil (hK _ _ ?_)
 clear hK K
 replace hF := hF.sub _ (c_ 14 rfl (c_ 5 rfl (c_ 4 rfl (c_ 0 rfl (c_ 1 rfl (n_))))))
 refine W_if hF rfl (fun hc1 => ?_) (fun hc1 => ?_)
 ·
  skip
  try simp only [dcl] at hc1
  refine W_sr rfl (fun K hK => ?_)
  refine sv2 hF (v_assign rfl) (v_assign rfl) rfl rfl ?_; clear hF a; intro a hF
  refine WL_nil (hK _ _ ?_)
  clear hK K
  replace hF := hF.sub _ (c_ 5 rfl (c_ 4 rfl (c_ 0 rfl (c_ 1 rfl (n_)))))
  refine W_ret ?_
  refine ⟨_, _, _, hF, rfl, rfl, ?_⟩
  rw [invR_bad hp (by simpa using hc1)]
  exact ⟨none, _, rfl, MOwn.nil _ _ _ _ _ _ _ (Nat.zero_le _), hS⟩
 ·
  skip
  try simp only [dcl] at hc1
  refine W_skip ?_
  have hsq : sqM (some (wb, p)) mt = true := by simpa using hc1
  obtain ⟨hmx, hn1, hn20, -⟩ := sqM_Mx hsq
  obtain ⟨n, hn⟩ : ∃ n, n = mt.length := ⟨_, rfl⟩
  rw [← hn] at hmx hn1 hn20 hF
  have hbd := hmx.bd hp
  have htab := hmx.eq_tab
  have hid : identM (n : Int) = tab n n I1 := by rw [identM_of ⟨hn1, hn20⟩, idM_tab]; rfl
  refine W_sr rfl (fun K hK => ?_)
  refine sv hF (v_move rfl) rfl ?_; clear hF a; intro a hF
  refine sv hF (v_lenS rfl sl28 rfl) rfl ?_; clear hF a; intro a hF
  refine sv hF (v_assign rfl) rfl ?_; clear hF a; intro a hF
  refine WL_nil (hK _ _ ?_)
  clear hK K
  replace hF := hF.sub _ (c_ 6 rfl (c_ 5 rfl (c_ 4 rfl (c_ 0 rfl (c_ 1 rfl (n_))))))
  refine W_sr rfl (fun K hK => ?_)
  refine sv2 hF (v_move rfl) (v_move rfl) rfl rfl ?_; clear hF a; intro a hF
  refine sc hF rfl rfl rfl en61 rfl (Identity_ok B (n : Int) _ hS.inv (by omega)) ?_; clear hF a; intro v w' a hv hF
  obtain ⟨ob, ho, hS'⟩ := hv
  rw [hid] at ho
  obtain ⟨sI, cI, rfl, hId⟩ := ho.mat (by decide) (Nat.zero_le _)
  rw [tab_length] at hF
  clear ho
  replace hf := hf.st hS'
  replace hAmt := hAmt.st hS'
  replace hS := hS.trans hS'
  clear hS'
  refine sc hF rfl rfl rfl en60 rfl (beside_ok B _ n n n pmt sI cmt cI (en mt) I1 _ hS.inv (Nat.le_refl _) (htab ▸ hAmt.mono (Nat.le_trans hM hS.ext.size)) hId ⟨hn1, hn20⟩ ⟨hn1, hn20⟩ hn20) ?_; clear hF a; intro v w' a hv hF
  obtain ⟨gv, cap, bs, rc, rfl, hO, hW, hS'⟩ := hv
  replace hO := hO.le hS.ext.size
  replace hW := hW.le hS.ext.size
  clear hId hAmt
  replace hf := hf.st hS'
  replace hS := hS.trans hS'
  clear hS'
  refine sv hF (v_assign rfl) rfl ?_; clear hF a; intro a hF
  refine WL_nil (hK _ _ ?_)
  clear hK K
  replace hF := hF.sub _ (c_ 7 rfl (c_ 6 rfl (c_ 5 rfl (c_ 4 rfl (c_ 0 rfl (n_))))))
  refine W_seq ?_
  refine W_sr rfl (fun K hK => ?_)
  refine sv3 hF (v_move rfl) (v_move rfl) (v_move rfl) rfl rfl rfl ?_; clear hF a; intro a hF
  refine sc hF rfl rfl rfl en62 rfl (reduce_ok B w.heap.size wb p hp fv gv cap n (n + n) n bs rc _ _ hS.inv hf hO hW hS.ext.size (Fld.bes_bd hp.fld hbd hp.fld.I1_bd) (by omega) ⟨by omega, by omega⟩) ?_; clear hF a; intro v w' a hv hF
  clear hO hW bs rc
  obtain ⟨rfl, ⟨bs, rc, hO, hW⟩, hz⟩ := hv
  replace hW := hW
  replace hS := hS.thenZ hz (fun k hk => Nat.not_le.2 hk)
  clear hz hf
  refine sv hF (v_move rfl) rfl ?_; clear hF a; intro a hF
  refine sv hF (v_lss rfl rfl) rfl ?_; clear hF a; intro a hF
  refine WL_nil (hK _ _ ?_)
  clear hK K
  replace hF := hF.sub _ (c_ 26 rfl (c_ 7 rfl (c_ 6 rfl (c_ 5 rfl (c_ 4 rfl (n_))))))
  refine W_if hF rfl (fun hc2 => ?_) (fun hc2 => ?_)
  ·
   skip
   try simp only [dcl] at hc2
   refine W_sr rfl (fun K hK => ?_)
   refine sv2 hF (v_assign rfl) (v_assign rfl) rfl rfl ?_; clear hF a; intro a hF
   refine WL_nil (hK _ _ ?_)
   clear hK K
   replace hF := hF.sub _ (c_ 5 rfl (c_ 4 rfl (c_ 7 rfl (c_ 6 rfl (n_)))))
   refine W_ret ?_
   refine ⟨_, _, _, hF, rfl, rfl, ?_⟩
   rw [invR_none hp hsq (by rw [← hn]; exact iv_lt hp (by omega))]
   exact ⟨none, _, rfl, MOwn.nil _ _ _ _ _ _ _ (Nat.zero_le _), hS⟩
  ·
   skip
   try simp only [dcl] at hc2
   refine W_skip ?_
   have hiv := iv_ge hp (n := n) (f := en mt) (by omega)
   have hinv := invR_some hp hsq (by rw [← hn]; exact hiv)
   rw [← hn] at hinv
   obtain ⟨K0, hK0⟩ : ∃ k, k = w'.heap.size := ⟨_, rfl⟩
   have hWd := hW.mat (gb := gv) hO (by decide)
   rw [← hK0] at hWd
   have hwK : w.heap.size ≤ K0 := by have := hS.ext.size; omega
   clear hO hW
   refine W_sr rfl (fun K hK => ?_)
   refine sv hF (v_assign rfl) rfl ?_; clear hF a; intro a hF
   refine WL_nil (hK _ _ ?_)
   clear hK K
   replace hF := hF.sub _ (c_ 8 rfl (c_ 7 rfl (c_ 6 rfl (c_ 5 rfl (c_ 4 rfl (n_))))))
   refine W_seq ?_
   refine W_sr rfl (fun K hK => ?_)
   refine sv hF (v_move rfl) rfl ?_; clear hF a; intro a hF
   refine sv hF (v_lenS rfl sl28 rfl) rfl ?_; clear hF a; intro a hF
   refine sv hF (v_move rfl) rfl ?_; clear hF a; intro a hF
   refine WL_nil (hK _ _ ?_)
   clear hK K
   replace hF := hF.sub _ (c_ 29 rfl (c_ 28 rfl (c_ 27 rfl (c_ 8 rfl (c_ 6 rfl (c_ 5 rfl (c_ 4 rfl (n_))))))))
   refine W_block ?_
   refine W_loop (fun m a w1 => ∃ (i : Nat) (v8 : Value) (b8 : Option Nat), Fr 42 [(6, .int .i64 (n : Int)), (8, v8), (27, .slice (some ⟨gv, 0, none⟩) n cap), (28, .int .i64 (n : Int)), (29, .int .i64 (i : Int))] a ∧ (St FDx B w w1) ∧ (Mat FDx B K0 w1 (some ⟨gv, 0, none⟩) cap (tab n (n + n) (hp.fld.red n (Fld.bes n (en mt) I1) n).1)) ∧ (MOwn FDx B K0 0 w1.heap.size w1 37 v8 b8 ((List.range i).map (trow n (half hp n (en mt))))) ∧ (K0 ≤ w1.heap.size) ∧ (i ≤ n) ∧ (m + i = n)) (n) ?_ ?_
   ·
    skip
    exact ⟨0, _, none, hF.sub _ (c_ 6 rfl (c_ 8 rfl (c_ 27 rfl (c_ 28 rfl (c_ 29 rfl (n_)))))), hS, hWd, MOwn.nil _ _ _ _ _ _ _ (Nat.zero_le _), by omega, by omega, by omega⟩
   ·
    skip
    clear hF
    clear hS hWd
    rintro m a w1 ⟨i, v8, b8, hF, hS, hWd, hMO, hKz, hi, hm⟩
    obtain ⟨KM, hKe⟩ : ∃ K, K = w1.heap.size := ⟨_, rfl⟩
    rw [← hKe] at hMO
    have hKs : KM ≤ w1.heap.size := by omega
    clear hKe
    refine W_sr rfl (fun K hK => ?_)
    refine sv hF (v_lss rfl rfl) rfl ?_; clear hF a; intro a hF
    refine WL_nil (hK _ _ ?_)
    clear hK K
    refine W_seq ?_
    refine W_if hF rfl (fun hc3 => ?_) (fun hc3 => ?_)
    ·
     skip
     try simp only [dcl] at hc3
     have hlt : i < n := by omega
     obtain ⟨gw, ow, pr, cr, hgw, hkw, hrw, -⟩ := hWd.row (tab_at (f := (hp.fld.red n (Fld.bes n (en mt) I1) n).1) (m := n + n) hlt)
     cases hgw
     have hrl : ((List.range (n + n)).map fun j => (((hp.fld.red n (Fld.bes n (en mt) I1) n).1 i j : Nat) : Int)).length = n + n := by simp
     rw [hrl] at hrw hkw
     have hcr := hrw.capd
     have hpart := hrw.part (lo := n) (hi := n + n) (by omega) (by simp)
     have hhr := half_row hp n (en mt) i
     have hxs : (List.take (n + n) (zints ((List.range (n + n)).map fun j => (((hp.fld.red n (Fld.bes n (en mt) I1) n).1 i j : Nat) : Int)))).drop n = zints (trow n (half hp n (en mt)) i) := by
      rw [List.take_of_length_le (by simp), ← hhr]; simp [zints, trow]
     rw [hxs] at hpart
     rw [show n + n - n = (trow n (half hp n (en mt)) i).length by simp] at hpart
     clear hxs hhr
     refine W_skip ?_
     refine W_seq ?_
     refine W_block ?_
     refine W_sr rfl (fun K hK => ?_)
     refine sv hF (v_ixS sl28 rfl rfl (by omega) (by omega)) rfl ?_; clear hF a; intro a hF
     refine sv hF (v_load sc37 rfl (by rw [toNat_c]; exact hkw.c)) rfl ?_; clear hF a; intro a hF
     refine sv hF (v_assign rfl) rfl ?_; clear hF a; intro a hF
     refine WL_nil (hK _ _ ?_)
     clear hK K
     replace hF := hF.sub _ (c_ 10 rfl (c_ 6 rfl (c_ 8 rfl (c_ 27 rfl (c_ 28 rfl (c_ 29 rfl (n_)))))))
     refine W_reg rfl (fun K hK => ?_)
     refine sv3 hF (v_move rfl) (v_move rfl) (v_move rfl) rfl rfl rfl ?_; clear hF a; intro a hF
     refine sv hF (v_slLo sl37 rfl rfl (by omega) (by omega)) rfl ?_; clear hF a; intro a hF
     rw [show n + n - n = (trow n (half hp n (en mt)) i).length by simp] at hF
     refine sc hF rfl rfl rfl en63 rfl (Clone_ok B _ _ _ _ _ hS.inv hpart hKz (by simp; omega)) ?_; clear hF a; intro v w' a hv hF
     obtain ⟨ob, hC, hS'⟩ := hv
     replace hC := hC.le hKz
     replace hWd := hWd.st hS'
     replace hMO := hMO.st (by decide) hS'
     replace hKz := Nat.le_trans hKz hS'.ext.size
     replace hKs := Nat.le_trans hKs hS'.ext.size
     replace hS := hS.trans hS'
     clear hS'
     obtain ⟨a_, c_r, rfl⟩ := hC.shape
     refine s_bs (D := FDx) (B := B) hF sl28 rfl rfl (by decide) (by simp [Value.cells]) (by decide) hS.inv rfl ?_; clear hF a; intro w' a hm hI' hL hF
     replace hWd := hWd.mb hm (fun _ h => by cases h)
     replace hMO := hMO.mb0 hm
     replace hKz := Nat.le_trans hKz hm.size
     replace hKs := Nat.le_trans hKs hm.size
     replace hC := hC.mb hm (fun _ _ => by simp)
     replace hS := hS.mb0 hm
     clear hm hI'
     replace hMO := hMO.up hKs
     clear hKs
     refine s_appM (D := FDx) (B := B) hF rfl sl28 rfl rfl hMO hL (.of hC (Nat.zero_le _)) rfl rfl (by simp; omega) (hKz) (by decide) (by decide) hS.inv rfl ?_; clear hF a; intro v' b' w' a ho' hm hI' hF
     replace hWd := hWd.mb hm (fun k h => Nat.le_trans ((Nat.le_refl _)) (hMO.lt k h).1)
     replace hKz := Nat.le_trans hKz hm.size
     replace hS := hS.mb hm (fun k h => Nat.le_trans hwK (hMO.lt k h).1)
     have hKm := hm.size
     replace hMO := ho'
     clear hm hI' ho' hL
     refine sv hF (v_assign rfl) rfl ?_; clear hF a; intro a hF
     refine WL_nil (hK _ _ ?_)
     clear hK K
     replace hF := hF.sub _ (c_ 8 rfl (c_ 6 rfl (c_ 27 rfl (c_ 28 rfl (c_ 29 rfl (n_))))))
     refine W_reg rfl (fun K hK => ?_)
     refine sv hF (v_addI rfl rfl (by omega)) rfl ?_; clear hF a; intro a hF
     refine sv hF (v_move rfl) rfl ?_; clear hF a; intro a hF
     refine WL_nil (hK _ _ ?_)
     clear hK K
     exact ⟨m - 1, by omega, i + 1, _, _, hF.sub _ (c_ 6 rfl (c_ 8 rfl (c_ 27 rfl (c_ 28 rfl (c_ 29 rfl (n_)))))), hS, hWd, (hMO.up hKm).cast (by rw [List.range_succ, List.map_append]; rfl), hKz, by omega, by omega⟩
    ·
     skip
     try simp only [dcl] at hc3
     refine W_exit rfl ?_
     refine W_sr rfl (fun K hK => ?_)
     refine sv3 hF (v_move rfl) (v_assign rfl) (v_assign rfl) rfl rfl rfl ?_; clear hF a; intro a hF
     refine WL_nil (hK _ _ ?_)
     clear hK K
     replace hF := hF.sub _ (c_ 5 rfl (c_ 4 rfl (c_ 41 rfl (c_ 6 rfl (c_ 8 rfl (c_ 27 rfl (c_ 28 rfl (c_ 29 rfl (n_)))))))))
     refine W_ret ?_
     refine ⟨_, _, _, hF, rfl, rfl, ?_⟩
     obtain rfl : i = n := by omega
     rw [hinv]
     exact ⟨_, _, rfl, (hMO.up hKs).le hwK (Nat.zero_le _), hS⟩

end Go.Proofs.Ytaeljbdpjiciaaa

/- What the statements of layer 5 ask of inverses, ranks, what is solved. No program in sight. -/
set_option linter.unusedVariables false
set_option linter.unusedSimpArgs false
namespace Go.Gam
open Px

namespace Fld
variable (F : Fld)
end Fld

section
variable {wb p : Nat} (hp : Prm wb p)
theorem fld_bd16 {f : Tb} (h : hp.fld.Bd f) : ∀ i j, f i j < 2 ^ wb := fun i j => by have := h i j; rw [hp.fld_w] at this; exact this
theorem inv_reg {a : Mtx} (hsq : sqM (some (wb, p)) a = true) (h : (invR hp a).1 = 0) : ∃ g, hp.fld.iv a.length (en a) = some g ∧ hp.fld.Iv a.length (en a) g ∧ invR hp a = (0, tab a.length a.length g) := by
  obtain ⟨hm, -⟩ := sqM_Mx hsq
  cases hi : hp.fld.iv a.length (en a) with
  | none => rw [invR_none hp hsq hi] at h; cases h
  | some g => exact ⟨g, rfl, hp.fld.iv_some (hm.bd hp) hi, invR_some hp hsq hi⟩
theorem inv_no {a : Mtx} (hsq : sqM (some (wb, p)) a = true) (h : (invR hp a).1 ≠ 0) : hp.fld.iv a.length (en a) = none ∧ invR hp a = (2, []) := by
  cases hi : hp.fld.iv a.length (en a) with
  | none => exact ⟨rfl, invR_none hp hsq hi⟩
  | some g => rw [invR_some hp hsq hi] at h; exact absurd rfl h
theorem mx_tab {n m : Nat} {g : Tb} (h : hp.fld.Bd g) : Mx wb n m (tab n m g) := Mx.tab fun i j _ _ => fld_bd16 hp h i j
end
/-- Are numbers all different, and below a bound? -/
def unl (l : List Int) (b : Int) : Bool := decide (l.Nodup ∧ ∀ x ∈ l, 0 ≤ x ∧ x < b)
theorem unl_no {l : List Int} {b : Int} (h : ¬ (l.Nodup ∧ ∀ x ∈ l, 0 ≤ x ∧ x < b)) : unl l b = false := decide_eq_false h
theorem nodup_no {l : List Int} {i k : Nat} {x : Int} (h : k < i) (hi : l[i]? = some x) (hk : l[k]? = some x) : ¬ l.Nodup := fun hn => by
  obtain ⟨h1, h2⟩ := List.getElem?_eq_some_iff.1 hi
  obtain ⟨h3, h4⟩ := List.getElem?_eq_some_iff.1 hk
  exact List.pairwise_iff_getElem.1 hn k i h3 h1 h (h4.trans h2.symm)
theorem nodup_snoc {l : List Int} {i : Nat} {x : Int} (h : (l.take i).Nodup) (hi : l[i]? = some x) (hx : ∀ y ∈ l.take i, y ≠ x) : (l.take (i + 1)).Nodup := by
  rw [take_snoc hi]
  refine List.pairwise_append.2 ⟨h, List.pairwise_singleton _ _, fun a ha b hb => ?_⟩
  obtain rfl : b = x := by simpa using hb
  exact hx a ha
/-- The rows of powers of some numbers. -/
def vtab {wb p : Nat} (hp : Prm wb p) (l : List Nat) : Tb := fun i k => hp.fld.pow (l.getD i 0) k
def vrows {wb p : Nat} (hp : Prm wb p) (l : List Nat) : Mtx := tab l.length l.length (vtab hp l)
theorem vrows_inv {wb p : Nat} (hp : Prm wb p) {l : List Nat} (h1 : 1 ≤ l.length) (h2 : l.length ≤ 20) (hl : ∀ x ∈ l, x < 256) : ((invR hp (vrows hp l)).1 = 0 ↔ unl (l.map fun (x : Nat) => (x : Int)) 256 = true) ∧ ((invR hp (vrows hp l)).1 = 0 ∨ (invR hp (vrows hp l)).1 = 2) := by
  have h16 := hp.size.1
  have hx : ∀ i, l.getD i 0 < 2 ^ hp.fld.w := fun i => by
    rw [hp.fld_w, List.getD_eq_getElem?_getD]
    cases hi : l[i]? with
    | none => simp; omega
    | some x => have := hl x (List.mem_of_getElem? hi); simp; omega
  have et : vrows hp l = tab l.length l.length fun i k => hp.fld.pow (l.getD i 0) k := rfl
  have hb : hp.fld.Bd fun i k => hp.fld.pow (l.getD i 0) k := fun i k => hp.fld.pow_lt _ _
  have hm : Mx wb l.length l.length (vrows hp l) := by rw [et]; exact mx_tab hp hb
  have hsq := hm.sq (p := p) h1 h2
  have hlen := hm.1
  have hen : ∀ i j, i < l.length → j < l.length → en (vrows hp l) i j = hp.fld.pow (l.getD i 0) j := fun i j hi hj => by rw [et]; exact en_tab hi hj
  have hiff := hp.fld.iv_congr (n := l.length) (hm.bd hp) hb hen
  have hcase : (invR hp (vrows hp l)).1 = 0 ∨ (invR hp (vrows hp l)).1 = 2 := by
    by_cases h : (invR hp (vrows hp l)).1 = 0
    · exact .inl h
    · rw [(inv_no hp hsq h).2]; exact .inr rfl
  refine ⟨⟨fun h => ?_, fun h => ?_⟩, hcase⟩
  · obtain ⟨g, hg, -⟩ := inv_reg hp hsq h
    rw [hlen] at hg
    rw [hg] at hiff
    refine decide_eq_true ⟨?_, fun x hx => ?_⟩
    · refine List.pairwise_iff_getElem.2 fun i j hi hj hij e => ?_
      have hjl : j < l.length := by simpa using hj
      simp only [List.getElem_map] at e
      have hn := hp.fld.iv_twice (n := l.length) hb (a := i) (b := j) (by omega) hjl (by omega) fun k _ => by
        rw [getD_of (show i < l.length by omega), getD_of hjl, show l[i] = l[j] by omega]
      rw [hn] at hiff
      cases hiff
    · obtain ⟨y, hy, rfl⟩ := List.mem_map.1 hx
      have := hl y hy
      exact ⟨by omega, by omega⟩
  · obtain ⟨hnd, -⟩ := of_decide_eq_true h
    obtain ⟨g, hg⟩ := hp.fld.vander (n := l.length) hx fun i j hi hj e => by
      refine Classical.byContradiction fun hne => ?_
      have key : ∀ a b, a < b → b < l.length → l.getD a 0 = l.getD b 0 → False := fun a b hab hb e => by
        refine List.pairwise_iff_getElem.1 hnd a b (by simp; omega) (by simpa using hb) hab ?_
        rw [getD_of (show a < l.length by omega), getD_of hb] at e
        simp [e]
      rcases Nat.lt_or_gt_of_ne hne with h' | h'
      · exact key i j h' hj e
      · exact key j i h' hi e.symm
    rw [hg] at hiff
    refine Classical.byContradiction fun h0 => ?_
    rw [← hlen, (inv_no hp hsq h0).1] at hiff
    cases hiff
/-! ### the smallest ones -/
theorem aw5_len (a b c d : Int) : ([[a, b], [c, d]] : Mtx).length ≤ maxLen ∧ ∀ r ∈ ([[a, b], [c, d]] : Mtx), r.length ≤ maxLen := by
  refine ⟨(by decide : (2 : Nat) ≤ maxLen), fun r hr => ?_⟩
  simp only [List.mem_cons, List.mem_nil_iff, or_false] at hr
  rcases hr with rfl | rfl <;> exact (by decide : (2 : Nat) ≤ maxLen)
theorem aw5_sq {a b c d : Int} (h : ∀ x ∈ [a, b, c, d], inF (some (8, 285)) x = true) : sqM (some (8, 285)) [[a, b], [c, d]] = true := by
  have hm : Mx 8 2 2 [[a, b], [c, d]] := ⟨rfl, fun r hr => by
    simp only [List.mem_cons, List.mem_nil_iff, or_false] at hr
    have h2 := fun x hx => inF_some.1 (h x hx)
    rcases hr with rfl | rfl
    · exact ⟨rfl, fun x hx => h2 x (by simp at hx ⊢; rcases hx with rfl | rfl <;> simp)⟩
    · exact ⟨rfl, fun x hx => h2 x (by simp at hx ⊢; rcases hx with rfl | rfl <;> simp)⟩⟩
  exact hm.sq (by decide) (by decide)
theorem aw5_no : invR prm_285 [[1, 1], [1, 1]] = (2, []) := by
  have hsq := aw5_sq (a := 1) (b := 1) (c := 1) (d := 1) (by decide)
  obtain ⟨hm, -⟩ := sqM_Mx hsq
  exact invR_none prm_285 hsq (prm_285.fld.iv_twice (n := 2) (hm.bd prm_285) (a := 0) (b := 1) (by decide) (by decide) (by decide) fun j hj => by
    match j, hj with
    | 0, _ => rfl
    | 1, _ => rfl)
theorem aw5_inv : ∃ x, invR prm_285 [[1, 1], [1, 2]] = (0, x) ∧ x.length = 2 := by
  have hsq := aw5_sq (a := 1) (b := 1) (c := 1) (d := 2) (by decide)
  obtain ⟨hm, -⟩ := sqM_Mx hsq
  have e : ([[1, 1], [1, 2]] : Mtx) = vrows prm_285 [1, 2] := by
    have hv : ∀ i k : Nat, vtab prm_285 [1, 2] i k = prm_285.fld.pow ([1, 2].getD i 0) k := fun _ _ => rfl
    show _ = tab 2 2 (vtab prm_285 [1, 2])
    have h0 : ∀ x, prm_285.fld.pow x 0 = 1 := fun _ => rfl
    have h1 : prm_285.fld.pow 1 1 = 1 := prm_285.fld.pow_one 1 (by rw [prm_285.fld_w]; decide)
    have h2 : prm_285.fld.pow 2 1 = 2 := prm_285.fld.pow_one 2 (by rw [prm_285.fld_w]; decide)
    show _ = [[((prm_285.fld.pow 1 0 : Nat) : Int), ((prm_285.fld.pow 1 1 : Nat) : Int)], [((prm_285.fld.pow 2 0 : Nat) : Int), ((prm_285.fld.pow 2 1 : Nat) : Int)]]
    rw [h0, h1, h0, h2]
    rfl
  have h0 : (invR prm_285 [[1, 1], [1, 2]]).1 = 0 := by
    rw [e]
    exact (vrows_inv prm_285 (l := [1, 2]) (by decide) (by decide) (by decide)).1.2 (by decide)
  obtain ⟨g, -, -, h⟩ := inv_reg prm_285 hsq h0
  exact ⟨_, h, tab_length _ _ _⟩
end Go.Gam

/- Matrices of powers: what package vander tells; rows that are chosen. No program in sight. -/
set_option linter.unusedVariables false
set_option linter.unusedSimpArgs false
namespace Go.Gam
open Px

/-- Powers of the rows' numbers; of powers of 2. -/
def pwT (o : Fq) : Tb := fun i j => (gpow o (i : Int) (j : Int)).toNat
def isT (o : Fq) : Tb := fun i j => (gpow o (gpow o 2 (i : Int)) (j : Int)).toNat
def fitB (o : Fq) (k m : Int) : Bool := o.isSome && decide (1 ≤ k ∧ 1 ≤ m ∧ k < 20 ∧ m < 20 ∧ k + m ≤ 20)
def rawB (o : Fq) (k m : Int) : Bool := o.isSome && decide (1 ≤ k ∧ k ≤ 20 ∧ 1 ≤ m ∧ m ≤ 20)
def rawM (o : Fq) (k m : Int) : Option Mtx := if rawB o k m = true then some (tab k.toNat m.toNat (pwT o)) else none
def isalM (o : Fq) (k m : Int) : Option Mtx := if fitB o k m = true then some (tab m.toNat k.toNat (isT o)) else none
section
variable {wb p : Nat} (hp : Prm wb p)
def vinv (k : Nat) : Tb := (hp.fld.iv k fun i j => hp.fld.pow i j).getD I1
def sysT (k : Nat) : Tb := hp.fld.mm k (fun i j => hp.fld.pow i j) (vinv hp k)
def sysM (k m : Int) : Option Mtx := if fitB (some (wb, p)) k m = true then some (tab (k + m).toNat k.toNat (sysT hp k.toNat)) else none
end

/-! ### rows chosen -/
/-- What is chosen so far; which ones that are, bit by bit; where. -/
def stC (rows step : Nat) (s : List Nat × Nat × Nat) : List Nat × Nat × Nat :=
  let o := if s.2.1.testBit s.2.2 then s.1 else s.1 ++ [s.2.2]
  let b := if s.2.1.testBit s.2.2 then s.2.1 else s.2.1 ||| 1 <<< s.2.2
  let a := (s.2.2 + step) % rows
  (o, b, if b.testBit a then (a + 1) % rows else a)
def chS (rows step at0 : Nat) : Nat → List Nat × Nat × Nat
  | 0 => ([], 0, at0)
  | i + 1 => stC rows step (chS rows step at0 i)
def chI (rows step : Nat) : Nat → List Nat × Nat × Nat → List Nat × Nat × Nat
  | 0, s => s
  | i + 1, s => chI rows step i (stC rows step s)
/-- How many are chosen. -/
def chN (rows step : Nat) : Nat → Nat → Nat → Nat → Nat
  | 0, n, _, _ => n
  | i + 1, n, b, t =>
    bif Nat.beq ((b >>> t) % 2) 1 then
      (bif Nat.beq ((b >>> ((t + step) % rows)) % 2) 1 then chN rows step i n b (((t + step) % rows + 1) % rows) else chN rows step i n b ((t + step) % rows))
    else
      (bif Nat.beq (((b ||| 1 <<< t) >>> ((t + step) % rows)) % 2) 1 then chN rows step i (n + 1) (b ||| 1 <<< t) (((t + step) % rows + 1) % rows) else chN rows step i (n + 1) (b ||| 1 <<< t) ((t + step) % rows))
def chOk : Bool := (List.range 21).all fun rows => (List.range rows).all fun t => (List.range rows).all fun step => Nat.ble (rows - 1) (chN rows step (2 * rows) 0 0 t)
def bls (b : Nat) : List Value := (List.range 20).map fun x => .bool (b.testBit x)
@[simp] theorem bls_length (b : Nat) : (bls b).length = 20 := by simp [bls]
theorem fitB_iff {o : Fq} {k m : Int} : fitB o k m = true ↔ o.isSome = true ∧ 1 ≤ k ∧ 1 ≤ m ∧ k < 20 ∧ m < 20 ∧ k + m ≤ 20 := by unfold fitB; rw [Bool.and_eq_true, decide_eq_true_iff]
end Go.Gam

/- Rows of the identity with other rows behind it: which of them, as many as columns, have an inverse; minors. No program in sight. -/
set_option linter.unusedVariables false
set_option linter.unusedSimpArgs false
namespace Go.Gam
open Px

/-! ### sums over a list -/
def xsumL : List Nat → (Nat → Nat) → Nat
  | [], _ => 0
  | j :: r, f => f j ^^^ xsumL r f
/-! ### minors -/
/-- The rows behind the identity that are chosen; the columns that no chosen row of the identity has. -/
def parR (k : Nat) (l : List Nat) : List Nat := (l.filter fun x => decide (k ≤ x)).map (· - k)
def misJ (k : Nat) (l : List Nat) : List Nat := (List.range k).filter fun j => !decide (j ∈ l)
def mnr (C : Tb) (R J : List Nat) : Tb := fun a b => C (R.getD a 0) (J.getD b 0)
/-- The identity's k rows, with others behind it. -/
def beh (k : Nat) (C : Tb) : Tb := fun i j => if i < k then I1 i j else C (i - k) j
namespace Fld
variable (F : Fld)
/-! ### rows of powers, columns for rows -/
end Fld
end Go.Gam

/- What the statements of layer 6 ask of matrices of powers. No program in sight. -/
set_option linter.unusedVariables false
set_option linter.unusedSimpArgs false
namespace Go.Gam
open Px

def casts (l : List Nat) : List Int := l.map fun (x : Nat) => (x : Int)
theorem casts_length (l : List Nat) : (casts l).length = l.length := by simp [casts]
section
variable {wb p : Nat} (hp : Prm wb p)
theorem tab_lens {n m : Nat} {f : Tb} (hn : n ≤ 20) (hm : m ≤ 20) : (tab n m f).length ≤ 20 ∧ ∀ r ∈ tab n m f, r.length ≤ 20 :=
  ⟨by rw [tab_length]; exact hn, fun r hr => by obtain ⟨i, _, rfl⟩ := List.mem_map.1 hr; simpa using hm⟩
theorem inv0 {k : Nat} {f : Tb} (hb : hp.fld.Bd f) (h1 : 1 ≤ k) (h2 : k ≤ 20) (h : ∃ g, hp.fld.iv k f = some g) : (invR hp (tab k k f)).1 = 0 := by
  have hm := mx_tab hp (n := k) (m := k) hb
  have hl : (tab k k f).length = k := tab_length _ _ _
  obtain ⟨g, hg⟩ := h
  have hc := hp.fld.iv_congr (n := k) (hm.bd hp) hb fun i j hi hj => (en_tab hi hj : en (tab k k f) i j = f i j)
  rw [hg] at hc
  obtain ⟨g', hg'⟩ := Option.isSome_iff_exists.1 hc
  rw [invR_some hp (hm.sq h1 h2) (g := g') (by rw [hl]; exact hg')]
/-! ### with the identity ahead -/
/-! ### ISA-L's -/
end
end Go.Gam

/- Jerasure's rows of powers, their columns reduced, what is left behind the identity. No program in sight. -/
set_option linter.unusedVariables false
set_option linter.unusedSimpArgs false
set_option linter.unusedSectionVars false
namespace Go.Gam
open Px

/-- Columns. -/
def colS (i q x : Nat) (f : Tb) : Tb := fun r j => if r < x then f r (Fld.sw i q j) else f r j
namespace Fld
variable (F : Fld)
def scC (fr j c x : Nat) (f : Tb) : Tb := fun r l => if fr ≤ r ∧ r < x ∧ l = j then F.mul (f r l) c else f r l
def clC (i j x : Nat) (f : Tb) : Tb := fun r l => if l ≠ i ∧ (l < j ∨ l = j ∧ r < x) then f r l ^^^ F.mul (f r i) (f i l) else f r l
/-- One step's table. -/
def stC (n k i : Nat) (f : Tb) : Tb := tr (F.stp (tr f) k i i).1
end Fld

def extT (o : Fq) (k m : Nat) : Tb := fun i j => if i = k + m - 1 then (if j = k - 1 then 1 else 0) else pwT o i j
def extM (o : Fq) (k m : Int) : Option Mtx := if fitB o k m = true then some (tab (k + m).toNat k.toNat (extT o k.toNat m.toNat)) else none
section
variable {wb p : Nat} (hp : Prm wb p)
/-- The table once i columns are reduced. -/
def redC (k m i : Nat) : Tb := Fld.tr (hp.fld.red k (Fld.tr (extT (some (wb, p)) k m)) i).1
/-- What is behind the identity. -/
def jG (k m : Nat) : Tb := fun r j => redC hp k m k (k + r) j
/-- The parity rows. -/
def jA (k m : Nat) : Nat → Nat := fun j => hp.fld.inv (jG hp k m 0 j)
def jC (k m : Nat) : Tb := fun r j => hp.fld.mul (jG hp k m r j) (jA hp k m j)
def jB (k m : Nat) : Nat → Nat := fun r => if r = 0 then 1 else hp.fld.inv (jC hp k m r 0)
def parT (k m : Nat) : Tb := fun r j => hp.fld.mul (jC hp k m r j) (jB hp k m r)
def parM (k m : Int) : Option Mtx := if fitB (some (wb, p)) k m = true then some (tab m.toNat k.toNat (parT hp k.toNat m.toNat)) else none
variable {k m : Nat} (hk : 1 ≤ k) (hm : 1 ≤ m) (h20 : k + m ≤ 20)
include hk hm h20
end
end Go.Gam

/- Records of two fields of one cell each; rows that are a walk's own, as they are gathered. No program in sight. -/
set_option linter.unusedVariables false
set_option linter.unusedSimpArgs false
set_option linter.unusedSectionVars false
namespace Go.Gam
open Px

theorem agg_cells (cs : Array Value) : (Value.agg cs).cells = cs := rfl
/-- A record type of two fields of one cell each, z1 and z2 at first. -/
def Rec2 (P : Program) (t : TypeId) (z1 z2 : Value) : Prop :=
  ∃ f0 f1 i0 i1 i, P.underlying t = some (.struct #[f0, f1]) ∧ P.info? f0.type = some i0 ∧ i0.size = 1 ∧ f0.offset = 0 ∧ P.info? f1.type = some i1 ∧ i1.size = 1 ∧ f1.offset = 1 ∧ P.info? t = some i ∧ i.size = 2 ∧ i.zero = some (.agg #[z1, z2])
section
variable {P : Program} {ops : Array Oper} {K : Kont} {rest : List Oper} {n : NN} {F : Fs} {T : TypeId} {pp : String} {af : Array Edge} {v : Value} {d : Nat} {a : Act} {w : World} {x y : Operand} {D : FD} {B : Nat} {z1 z2 : Value}
end
section
variable {P : Program} {D : FD} {B : Nat} {a : Act} {w : World} {ops : Array Oper} {K : Kont} {fuel : Nat} {L : Array Bool}
end
theorem Blk.ne_own {D : FD} {B N' : Nat} {w : World} {g : Nat} {E E' : TypeId} {cs : List Value} {u : Value} {b : Option Nat} {xs : List Value} (h : Blk w g E cs) (ho : Own D B N' w E' u b xs) (hE : E ≠ E') : b ≠ some g := by
  intro e
  rcases ho with ⟨_, h', _⟩ | ⟨g', cap', cur, rfl, hb, h1, hB, h2, h3⟩
  · rw [h'] at e; cases e
  · rw [hb] at e; obtain rfl := Option.some.inj e
    have hk : w.heap[g']? = _ := h
    rw [h2] at hk
    exact hE (Obj.cells.inj (Option.some.inj hk)).2.1.symm
/-! ### steps of the tables -/
namespace Fld
variable (F : Fld)
end Fld
/-- The two stores of a swap. -/
def colH (i q x : Nat) (f : Tb) : Tb := fun r l => if r = x ∧ l = i then f x q else colS i q x f r l
/-! ### parity rows, as they are made -/
section
variable {wb p : Nat} (hp : Prm wb p) {k m : Nat}
def colI (k m j : Nat) : Tb := fun r l => if k ≤ r ∧ l < j then jC hp k m (r - k) l else redC hp k m k r l
def rowI (k m x j : Nat) : Tb := fun r l => if k < r ∧ (r < k + 1 + x ∨ r = k + 1 + x ∧ l < j) then parT hp k m (r - k) l else colI hp k m k r l
end
end Go.Gam

/- A map of numbers to true, of a walk's own. No program in sight. -/
set_option linter.unusedVariables false
set_option linter.unusedSimpArgs false
set_option linter.unusedSectionVars false
namespace Go.Gam
open Px
open Go.MapKept (run_checkKey run_findKey IsKey)
open Go.RowKit (run_makeMap)

def mesF : List Int → Nat → List MapEntry
  | [], _ => []
  | x :: r, i => { key := .int .i64 x, val := .bool true, born := i } :: mesF r (i + 1)
def mes (l : List Int) : Array MapEntry := (mesF l 0).toArray
theorem mesF_snoc (x : Int) : ∀ (l : List Int) (i : Nat), mesF (l ++ [x]) i = mesF l i ++ [{ key := .int .i64 x, val := .bool true, born := i + l.length }]
  | [], _ => rfl
  | y :: r, i => by
    show _ :: mesF (r ++ [x]) (i + 1) = _
    rw [mesF_snoc x r (i + 1)]
    show _ = _ :: (_ ++ _)
    rw [List.length_cons, show i + 1 + r.length = i + (r.length + 1) by omega]
theorem mes_snoc (x : Int) (l : List Int) : mes (l ++ [x]) = (mes l).push { key := .int .i64 x, val := .bool true, born := l.length } := by
  unfold mes
  rw [mesF_snoc, Nat.zero_add, List.push_toArray]
theorem findNow_mes {kd : IntKind} (k : Int) : ∀ (l : List Int) (b i : Nat), (k ∈ l → ∃ j, Instr.findNow (.int kd) (.int .i64 k) (mesF l b) i = some (some (j, .bool true))) ∧ (k ∉ l → Instr.findNow (.int kd) (.int .i64 k) (mesF l b) i = some none)
  | [], _, _ => ⟨fun h => by simp at h, fun _ => rfl⟩
  | x :: r, b, i => by
    obtain ⟨h1, h2⟩ := findNow_mes (kd := kd) k r (b + 1) (i + 1)
    by_cases e : k = x
    · subst e
      exact ⟨fun _ => ⟨i, by simp [mesF, Instr.findNow, Instr.sameNow]⟩, fun h => by simp at h⟩
    · have eb : (k == x) = false := beq_eq_false_iff_ne.2 e
      refine ⟨fun h => ?_, fun h => ?_⟩
      · obtain ⟨j, hj⟩ := h1 (by simpa [e] using h)
        exact ⟨j, by simp [mesF, Instr.findNow, Instr.sameNow, eb, hj]⟩
      · have := h2 (fun c => h (by simp [c]))
        simp [mesF, Instr.findNow, Instr.sameNow, eb, this]
/-- A map at l of its own: these numbers, each with true. -/
structure MapB (D : FD) (B N : Nat) (w : World) (l : Nat) (ks : List Int) : Prop where
  obj : w.heap[l]? = some (.map (mes ks) ks.length)
  low : N ≤ l
  base : B ≤ l
  priv : Priv D B w l
section
variable {D : FD} {B N l : Nat} {w w' : World} {ks : List Int}
theorem MapB.notT (h : MapB D B N w l ks) : notT D w l := fun c fr e => by rw [h.obj] at e; cases e
theorem MapB.st (h : MapB D B N w l ks) (hs : St D B w w') : MapB D B N w' l ks := ⟨(hs.ext.keep l (heap_lt h.obj) (.inr h.notT)).trans h.obj, h.low, h.base, hs.ext.priv l (heap_lt h.obj) h.priv⟩
theorem MapB.mb {b : Option Nat} (h : MapB D B N w l ks) (hm : Mb D B b w w') (hb : b ≠ some l) : MapB D B N w' l ks := ⟨(hm.keep l (heap_lt h.obj) (Ne.symm hb)).trans h.obj, h.low, h.base, hm.priv h.priv⟩
theorem MapB.le {N' : Nat} (h : MapB D B N w l ks) (hN : N' ≤ N) : MapB D B N' w l ks := ⟨h.obj, Nat.le_trans hN h.low, h.base, h.priv⟩
theorem MapB.ne_own {N' : Nat} {E' : TypeId} {u : Value} {b : Option Nat} {xs : List Value} (h : MapB D B N w l ks) (ho : Own D B N' w E' u b xs) (_ : True) : b ≠ some l := by
  intro e
  obtain ⟨c, e', fr, hk⟩ := ho.isrow l e
  rw [h.obj] at hk; cases hk
theorem Mb.allocM (D : FD) (B : Nat) (w : World) (es : Array MapEntry) (c : Nat) : Mb D B none w (w.alloc (.map es c)) := by
  refine ⟨rfl, rfl, rfl, by simp, fun k hk _ => ?_, fun k hk c' fr' hc => ?_, fun k e => by cases e⟩
  · exact RowKit.Below.heap_alloc w _ k hk
  · have : (w.heap.push (.map es c))[k]? = some (.cells c' D.T fr') := hc
    rw [Array.getElem?_push] at this
    split at this
    · cases this
    · rw [Array.getElem?_eq_none (by omega)] at this; cases this
end
section
variable {P : Program} {ops : Array Oper} {K : Kont} {rest : List Oper} {n : NN} {F : Fs} {T : TypeId} {pp : String} {af : Array Edge} {v : Value} {d : Nat} {a : Act} {w : World} {x y z : Operand} {D : FD} {B : Nat}
/-- A map type from numbers to Bools. -/
def MapT (P : Program) (t : TypeId) : Prop := ∃ kt et i, P.underlying t = some (.map kt et) ∧ P.underlying kt = some (.int .i64) ∧ P.info? et = some i ∧ i.zero = some (.bool false)
theorem mapT_of {P : Program} {t kt et : TypeId} (h : P.underlying t = some (.map kt et)) (hk : P.underlying kt = some (.int .i64)) (hz : (P.info? et).map (fun i => i.zero) = some (some (.bool false))) : MapT P t := by
  cases hi : P.info? et with
  | none => rw [hi] at hz; cases hz
  | some i => rw [hi] at hz; exact ⟨kt, et, i, h, hk, hi, by simpa using hz⟩
theorem s_mkmap {t : TypeId} (hF : Fr n F a) (hI : Inv D B w) (hd : Nat.blt d n.n = true)
    (k : ∀ g w' a, Mb D B none w w' → Inv D B w' → MapB D B w.heap.size w' g [] → Fr n ((d, .map (some g)) :: F) a → WL P ops K rest a w') :
    WL P ops K (⟨some d, .makeMap t none, T, pp, af, none⟩ :: rest) a w := by
  have hm := Mb.allocM D B w #[] 0
  refine s_run (w' := w.alloc (.map #[] 0)) hF (fun ρ h => ?_) hd fun a hF => k _ _ a hm (hm.inv hI) ⟨alloc_new w _, Nat.le_refl _, hI.1, hm.priv (hI.priv_new (Nat.le_refl _))⟩ hF
  have := run_makeMap (P := P) t w
  simp only [execOp]
  simp [this]
theorem v_look {t : TypeId} {N l : Nat} {k : Int} {ks : List Int} (ht : MapT P t) (hx : ev F x = some (.map (some l))) (hy : ev F y = some (.int .i64 k)) (hb : MapB D B N w l ks) : Val P (.lookup t x y false) T F w (.bool (decide (k ∈ ks))) :=
  fun ρ h d p af g => by
    obtain ⟨kt, et, i, h1, h2, h3, h4⟩ := ht
    obtain ⟨f1, f2⟩ := findNow_mes (kd := .i64) k ks 0 0
    have hck : (Instr.checkKey (mes ks).isEmpty 10000 kt (.int .i64 k)).run P w = .ok () w := run_checkKey h2 (k := .int .i64 k) (by simp [IsKey]) _ _
    have hg : (getObj l).run P w = .ok (.map (mes ks) ks.length) w := by simp [getObj, Sem.run, hb.obj]
    by_cases e : k ∈ ks
    · obtain ⟨j, hj⟩ := f1 e
      have hf := run_findKey (P := P) (w := w) h2 (l := (mes ks).toList) (by simpa [mes] using hj)
      simp [execOp, h x _ hx, h y _ hy, Instr.lookup, underlying, h1, program, Sem.run, hg, hck, hf, e]
    · have hf := run_findKey (P := P) (w := w) h2 (l := (mes ks).toList) (by simpa [mes] using f2 e)
      simp [execOp, h x _ hx, h y _ hy, Instr.lookup, underlying, h1, program, Sem.run, hg, hck, hf, e, zeroValue, typeInfo, h3, h4]
theorem s_mapput {t : TypeId} {N l : Nat} {k : Int} {ks : List Int} (hF : Fr n F a) (ht : MapT P t) (hx : ev F x = some (.map (some l))) (hy : ev F y = some (.int .i64 k)) (hz : ev F z = some (.bool true)) (hb : MapB D B N w l ks) (hk : k ∉ ks) (hI : Inv D B w)
    (kk : ∀ w', Mb D B (some l) w w' → Inv D B w' → MapB D B N w' l (ks ++ [k]) → WL P ops K rest a w') :
    WL P ops K (⟨none, .mapUpdate t x y z, T, pp, af, none⟩ :: rest) a w := by
  obtain ⟨kt, et, i, h1, h2, h3, h4⟩ := ht
  have hck : (Instr.checkKey false 10000 kt (.int .i64 k)).run P w = .ok () w := run_checkKey h2 (k := .int .i64 k) (by simp [IsKey]) _ _
  have hg : (getObj l).run P w = .ok (.map (mes ks) ks.length) w := by simp [getObj, Sem.run, hb.obj]
  have hf := run_findKey (P := P) (w := w) h2 (l := (mes ks).toList) (by simpa [mes] using (findNow_mes (kd := .i64) k ks 0 0).2 hk)
  have hst : (setObj l (.map ((mes ks).push { key := .int .i64 k, val := .bool true, born := ks.length }) (ks.length + 1))).run P w = .ok () { w with heap := w.heap.setIfInBounds l (.map ((mes ks).push { key := .int .i64 k, val := .bool true, born := ks.length }) (ks.length + 1)) } := by simp [setObj, Sem.run, hb.obj]
  have hrun : (execOp a.eval ⟨none, .mapUpdate t x y z, T, pp, af, none⟩).run P w = .ok .skip { w with heap := w.heap.setIfInBounds l (.map ((mes ks).push { key := .int .i64 k, val := .bool true, born := ks.length }) (ks.length + 1)) } := by
    simp [execOp, hF.reads x _ hx, hF.reads y _ hy, hF.reads z _ hz, Instr.mapUpdate, underlying, h1, program, Sem.run, hg, hck, hf, hst]
  obtain ⟨hs1, hs2⟩ := Go.MapKept.heap_set (o' := .map ((mes ks).push { key := .int .i64 k, val := .bool true, born := ks.length }) (ks.length + 1)) hb.obj
  have hm : Mb D B (some l) w { w with heap := w.heap.setIfInBounds l (.map ((mes ks).push { key := .int .i64 k, val := .bool true, born := ks.length }) (ks.length + 1)) } := by
    refine ⟨rfl, rfl, rfl, by simp, fun k hk hne => hs2 k (fun e => hne (by rw [e])), fun k hk c fr e => ?_, fun k e => ?_⟩
    · have hk2 : (w.heap.setIfInBounds l (.map ((mes ks).push { key := .int .i64 k, val := .bool true, born := ks.length }) (ks.length + 1))).size ≤ k := by simpa using hk
      rw [show (w.heap.setIfInBounds l (.map ((mes ks).push _) (ks.length + 1)))[k]? = none from Array.getElem?_eq_none (by simpa using hk)] at e
      cases e
    · obtain rfl := Option.some.inj e
      refine ⟨heap_lt hb.obj, hb.base, hb.notT, ?_, hb.priv⟩
      intro c fr e
      have e2 := hs1.symm.trans e
      cases e2
  unfold WL wpList
  rw [if_pos (by simp [Region.wanted])]
  refine .inl ?_
  unfold Oper.wp
  rw [hrun]
  refine kk _ hm (hm.inv hI) ⟨?_, hb.low, hb.base, hm.priv hb.priv⟩
  rw [mes_snoc, List.length_append]
  exact hs1
end
end Go.Gam

/- The plain laws of layer 7. No program in sight. -/
set_option linter.unusedVariables false
set_option linter.unusedSimpArgs false
set_option linter.unusedSectionVars false
namespace Go.Gam
open Px

theorem fitB_ok {o : Fq} (ho : o.isSome = true) {k m : Nat} (h1 : 1 ≤ k) (h2 : 1 ≤ m) (h3 : k + m ≤ 20) : fitB o (k : Int) (m : Int) = true := fitB_iff.2 ⟨ho, by omega, by omega, by omega, by omega, by omega⟩
section
variable {wb p : Nat} (hp : Prm wb p)
variable {k m : Nat} (hk : 1 ≤ k) (hm : 1 ≤ m) (h20 : k + m ≤ 20)
include hk hm h20
end
end Go.Gam

/- Numbers in a row; minors; rows of inverses. No program in sight. -/
set_option linter.unusedVariables false
set_option linter.unusedSimpArgs false
set_option linter.unusedSectionVars false
namespace Go.Gam
open Px

/-- Numbers from fr on, the first i of them laid. -/
def rnT (fr i : Nat) : Tb := fun _ j => if j < i then fr + j else 0
theorem rn_zero {fr many : Nat} : List.replicate many (Value.int .i64 0) = zints (trow many (rnT fr 0) 0) := by
  apply List.ext_getElem?
  intro j
  by_cases hj : j < many
  · rw [zints_at (trow_at hj)]; simp [hj, rnT]
  · rw [List.getElem?_eq_none (by simp; omega), List.getElem?_eq_none (by simp [zints]; omega)]
theorem rn_step {fr i l : Nat} : rnT fr (i + 1) 0 l = if l = i then fr + i else rnT fr i 0 l := by
  unfold rnT
  by_cases e : l = i
  · rw [if_pos e, if_pos (by omega), e]
  · rw [if_neg e]
    by_cases h : l < i
    · rw [if_pos h, if_pos (by omega)]
    · rw [if_neg h, if_neg (by omega)]
theorem rn_end {fr many : Nat} : zints ((List.range many).map fun j => ((fr + j : Nat) : Int)) = zints (trow many (rnT fr many) 0) := by
  congr 1
  refine List.map_congr_left fun j hj => ?_
  unfold rnT; rw [if_pos (List.mem_range.1 hj)]
theorem casts_at {l : List Nat} {i x : Nat} (h : l[i]? = some x) : (casts l)[i]? = some (x : Int) := by unfold casts; rw [List.getElem?_map, h]; rfl
theorem mnr_at {f : Tb} {lr lc : List Nat} {i j x y : Nat} (hx : lr[i]? = some x) (hy : lc[j]? = some y) : mnr f lr lc i j = f x y := by
  unfold mnr; rw [List.getD_eq_getElem?_getD, List.getD_eq_getElem?_getD, hx, hy]; rfl
/-! ### rows of inverses -/
section
variable {wb p : Nat} (hp : Prm wb p)
def ofB (wb : Nat) (x y : List Int) : Bool := decide (1 ≤ x.length ∧ x.length ≤ 20 ∧ 1 ≤ y.length ∧ y.length ≤ 20) && unl (x ++ y) ((2 ^ wb : Nat) : Int)
def ofT (x y : List Int) : Tb := fun i j => hp.fld.inv ((x.getD i 0).toNat ^^^ (y.getD j 0).toNat)
def ofM (x y : List Int) : Option Mtx := if ofB wb x y = true then some (tab x.length y.length (ofT hp x y)) else none
theorem ofM_no {x y : List Int} (h : ofB wb x y = false) : ofM hp x y = none := by unfold ofM; rw [h]; rfl
theorem ofM_is {x y : List Int} (h : ofB wb x y = true) : ofM hp x y = some (tab x.length y.length (ofT hp x y)) := by unfold ofM; rw [if_pos h]
theorem ofB_len {wb : Nat} {x y : List Int} (h : ¬ (1 ≤ x.length ∧ x.length ≤ 20 ∧ 1 ≤ y.length ∧ y.length ≤ 20)) : ofB wb x y = false := by unfold ofB; rw [decide_eq_false h]; rfl
theorem ofB_bad {wb : Nat} {x y : List Int} {i : Nat} {a : Int} (ha : (x ++ y)[i]? = some a) (h : a < 0 ∨ ((2 ^ wb : Nat) : Int) ≤ a ∨ a ∈ (x ++ y).take i) : ofB wb x y = false := by
  unfold ofB
  rw [unl_no, Bool.and_false]
  rintro ⟨h1, h2⟩
  have := h2 a (List.mem_of_getElem? ha)
  rcases h with h | h | h
  · omega
  · omega
  · obtain ⟨j, hj⟩ := List.getElem?_of_mem h
    rw [List.getElem?_take] at hj
    split at hj
    · exact nodup_no (by assumption) ha hj h1
    · cases hj
theorem ofB_ok {wb : Nat} {x y : List Int} (h : 1 ≤ x.length ∧ x.length ≤ 20 ∧ 1 ≤ y.length ∧ y.length ≤ 20) (h1 : (x ++ y).Nodup) (h2 : ∀ z ∈ x ++ y, 0 ≤ z ∧ z < ((2 ^ wb : Nat) : Int)) : ofB wb x y = true := by
  unfold ofB unl
  rw [decide_eq_true h, decide_eq_true ⟨h1, h2⟩]; rfl
theorem ofT_at {x y : List Int} {i j a b : Nat} (ha : x[i]? = some (a : Int)) (hb : y[j]? = some (b : Int)) : ofT hp x y i j = hp.fld.inv (a ^^^ b) := by
  unfold ofT
  rw [List.getD_eq_getElem?_getD, List.getD_eq_getElem?_getD, ha, hb]; rfl
theorem of_cell {wb : Nat} {x y : List Int} {i j : Nat} (h1 : (x ++ y).Nodup) (h2 : ∀ z ∈ x ++ y, 0 ≤ z ∧ z < ((2 ^ wb : Nat) : Int)) (hi : i < x.length) (hj : j < y.length) :
    ∃ a b : Nat, x[i]? = some (a : Int) ∧ y[j]? = some (b : Int) ∧ a < 2 ^ wb ∧ b < 2 ^ wb ∧ a ^^^ b < 2 ^ wb ∧ a ^^^ b ≠ 0 := by
  have hx := List.getElem?_eq_getElem hi
  have hy := List.getElem?_eq_getElem hj
  have b1 := h2 x[i] (List.mem_append_left _ (List.getElem_mem hi))
  have b2 := h2 y[j] (List.mem_append_right _ (List.getElem_mem hj))
  refine ⟨x[i].toNat, y[j].toNat, by rw [hx, Int.toNat_of_nonneg b1.1], by rw [hy, Int.toNat_of_nonneg b2.1], by omega, by omega, Px.xor_lt (by omega) (by omega), fun e => ?_⟩
  have e2 := Px.xor_eq_zero e
  have e3 : x[i] = y[j] := by omega
  exact (List.nodup_append.1 h1).2.2 x[i] (List.getElem_mem hi) y[j] (List.getElem_mem hj) e3
/-- Numbers in a row, from fr on. -/
def rnL (fr many : Nat) : List Int := (List.range many).map fun j => ((fr + j : Nat) : Int)
theorem rnL_length (fr many : Nat) : (rnL fr many).length = many := by simp [rnL]
def origM (k m : Int) : Option Mtx := if fitB (some (wb, p)) k m = true then ofM hp (rnL 0 m.toNat) (rnL m.toNat k.toNat) else none
def cisaM (k m : Int) : Option Mtx := if fitB (some (wb, p)) k m = true then ofM hp (rnL k.toNat m.toNat) (rnL 0 k.toNat) else none
theorem origM_no {k m : Int} (h : fitB (some (wb, p)) k m = false) : origM hp k m = none := by unfold origM; rw [h]; rfl
theorem cisaM_no {k m : Int} (h : fitB (some (wb, p)) k m = false) : cisaM hp k m = none := by unfold cisaM; rw [h]; rfl
theorem fitB_not {k m : Int} (h : ¬ (1 ≤ k ∧ 1 ≤ m ∧ k + m ≤ 20)) : fitB (some (wb, p)) k m = false := by
  rw [Bool.eq_false_iff, Ne, fitB_iff]; omega
end
end Go.Gam

/- The walks of package cauchy: numbers in a row, minors. -/
set_option linter.unusedVariables false
set_option linter.unusedSimpArgs false
namespace Go.Proofs.Ytaeljbdpjiciaaa
open Go Go.Gam


namespace FxFCau
theorem en28 : Ent Try.prog 28 := ent Try.func28 (by kernel_rfl) (by kernel_rfl)
theorem on3 : Gam.One Try.prog 3 := by unfold Gam.One; kernel_rfl
theorem sc3 : Scalar Try.prog 3 := ⟨_, Try.underlying3, by simp, by simp⟩
theorem sc37 : Scalar Try.prog 37 := ⟨_, Try.underlying37, by simp, by simp⟩
theorem sl28 : Sl Try.prog 28 37 (.slice none 0 0) 24 := sl_of Try.underlying28 rfl (by kernel_rfl)
theorem sl37 : Sl Try.prog 37 3 (.int .i64 0) 8 := sl_of Try.underlying37 rfl (by kernel_rfl)
end FxFCau
open FxFCau

set_option maxRecDepth 100000 in
set_option maxHeartbeats 1000000 in
theorem cwithin_ok (n : Int) (w : World) : Ret Try.prog 51 [.int .i64 n] w fun v w' => v = .bool (decide (1 ≤ n ∧ n ≤ 20)) ∧ w' = w := by
 refine enter 9 [(0, .int .i64 n)] 2 Try.func51 rfl rfl rfl rfl rfl ?_; intro a hF
 refine W_sr rfl (fun K hK => ?_)
 refine sv hF (v_assign rfl) rfl ?_; clear hF a; intro a hF
 refine WL_nil (hK _ _ ?_)
 clear hK K
 refine W_sr rfl (fun K hK => ?_)
 refine sv hF (v_move rfl) rfl ?_; clear hF a; intro a hF
 refine sb hF (v_geq rfl rfl) rfl ?_ ?_
 ·
  clear hF a; intro hc1 a hF
  try simp only [dcl] at hc1
  refine sv hF (v_move rfl) rfl ?_; clear hF a; intro a hF
  refine svg hF rfl ?_
  refine sv hF (v_move rfl) rfl ?_; clear hF a; intro a hF
  refine svg hF rfl ?_
  refine sv hF (v_leq rfl rfl) rfl ?_; clear hF a; intro a hF
  refine sv2 hF (v_pickT rfl rfl) (v_assign rfl) rfl rfl ?_; clear hF a; intro a hF
  refine WL_nil (hK _ _ ?_)
  clear hK K
  replace hF := hF.sub _ (c_ 2 rfl (n_))
  refine W_ret ?_
  refine ⟨_, _, hF, rfl, ?_⟩
  refine ⟨congrArg Value.bool ?_, rfl⟩
  first | (symm; rw [decide_eq_false_iff_not]; omega) | (rw [decide_eq_decide]; omega)
 ·
  clear hF a; intro hc1 a hF
  try simp only [dcl] at hc1
  refine sv hF (v_move rfl) rfl ?_; clear hF a; intro a hF
  refine svn hF rfl rfl rfl ?_; clear hF a; intro a hF
  refine svn hF rfl rfl rfl ?_; clear hF a; intro a hF
  refine sv2 hF (v_pickF rfl rfl) (v_assign rfl) rfl rfl ?_; clear hF a; intro a hF
  refine WL_nil (hK _ _ ?_)
  clear hK K
  replace hF := hF.sub _ (c_ 2 rfl (n_))
  refine W_ret ?_
  refine ⟨_, _, hF, rfl, ?_⟩
  refine ⟨congrArg Value.bool ?_, rfl⟩
  first | (symm; rw [decide_eq_false_iff_not]; omega) | (rw [decide_eq_decide]; omega)

set_option maxRecDepth 100000 in
set_option maxHeartbeats 1000000 in
theorem run_ok (B fr many : Nat) (w : World) (hI : Inv FDx B w) (hm : fr ≤ 1000 ∧ many ≤ 1000) : Ret Try.prog 69 [.int .i64 (fr : Int), .int .i64 (many : Int)] w fun v w' => ∃ gl, v = .slice (some ⟨gl, 0, none⟩) many many ∧ Gam.Own FDx B w.heap.size w' FDx.E v (some gl) (zints ((List.range many).map fun j => ((fr + j : Nat) : Int))) ∧ St FDx B w w' := by
 refine enter 22 [(0, .int .i64 (fr : Int)), (1, .int .i64 (many : Int))] 4 Try.func69 rfl rfl rfl rfl rfl ?_; intro a hF
 have hS := St.refl hI
 refine W_sr rfl (fun K hK => ?_)
 refine sv hF (v_assign rfl) rfl ?_; clear hF a; intro a hF
 refine WL_nil (hK _ _ ?_)
 clear hK K
 refine W_sr rfl (fun K hK => ?_)
 refine sv hF (v_move rfl) rfl ?_; clear hF a; intro a hF
 obtain ⟨gl, hgl⟩ : ∃ g, g = w.heap.size := ⟨_, rfl⟩
 refine s_mk (D := FDx) (B := B) (m := many) hF sl37 rfl rfl (by simp) (by omega) (by simp only [maxLen]; omega) (by decide) hS.inv rfl ?_; clear hF a; intro w' a hm hI' hO hF
 replace hS := hS.mb0 hm
 clear hm hI'
 rw [← hgl] at hO hF
 replace hO := (hO.le (show w.heap.size ≤ gl by omega)).cast (ys := zints (trow many (rnT fr (0)) 0)) rn_zero
 refine sv hF (v_assign rfl) rfl ?_; clear hF a; intro a hF
 refine WL_nil (hK _ _ ?_)
 clear hK K
 replace hF := hF.sub _ (c_ 5 rfl (c_ 4 rfl (c_ 0 rfl (n_))))
 refine W_seq ?_
 refine W_sr rfl (fun K hK => ?_)
 refine sv hF (v_move rfl) rfl ?_; clear hF a; intro a hF
 refine sv hF (v_lenS rfl sl37 rfl) rfl ?_; clear hF a; intro a hF
 refine sv hF (v_move rfl) rfl ?_; clear hF a; intro a hF
 refine WL_nil (hK _ _ ?_)
 clear hK K
 replace hF := hF.sub _ (c_ 11 rfl (c_ 10 rfl (c_ 5 rfl (c_ 4 rfl (c_ 0 rfl (n_))))))
 refine W_block ?_
 refine W_loop (fun q a w1 => ∃ (i : Nat), Fr 22 [(0, .int .i64 (fr : Int)), (5, .slice (some ⟨gl, 0, none⟩) many many), (10, .int .i64 (many : Int)), (11, .int .i64 (i : Int))] a ∧ (St FDx B w w1) ∧ (Gam.Own FDx B w.heap.size w1 FDx.E (.slice (some ⟨gl, 0, none⟩) many many) (some gl) (zints (trow many (rnT fr (i)) 0))) ∧ (i ≤ many) ∧ (q + i = many)) (many) ?_ ?_
 ·
  skip
  exact ⟨0, hF.sub _ (c_ 0 rfl (c_ 5 rfl (c_ 10 rfl (c_ 11 rfl (n_))))), hS, hO, by omega, by omega⟩
 ·
  skip
  clear hF
  clear hS hO
  rintro q a w1 ⟨i, hF, hS, hO, hi, hq⟩
  refine W_sr rfl (fun K hK => ?_)
  refine sv hF (v_lss rfl rfl) rfl ?_; clear hF a; intro a hF
  refine WL_nil (hK _ _ ?_)
  clear hK K
  refine W_seq ?_
  refine W_if hF rfl (fun hc1 => ?_) (fun hc1 => ?_)
  ·
   skip
   try simp only [dcl] at hc1
   have hlt : i < many := by omega
   refine W_skip ?_
   refine W_seq ?_
   refine W_block ?_
   refine W_sr rfl (fun K hK => ?_)
   refine sv2 hF (v_move rfl) (v_assign rfl) rfl rfl ?_; clear hF a; intro a hF
   refine WL_nil (hK _ _ ?_)
   clear hK K
   replace hF := hF.sub _ (c_ 6 rfl (c_ 0 rfl (c_ 5 rfl (c_ 10 rfl (c_ 11 rfl (n_))))))
   refine W_reg rfl (fun K hK => ?_)
   refine sv4 hF (v_move rfl) (v_move rfl) (v_move rfl) (v_move rfl) rfl rfl rfl rfl ?_; clear hF a; intro a hF
   refine sv hF ((v_addI rfl rfl (by omega)).as (show Value.int .i64 ((fr : Int) + (i : Int)) = .int .i64 ((fr + i : Nat) : Int) by simp)) rfl ?_; clear hF a; intro a hF
   refine sv hF (v_ixS sl37 rfl rfl (by omega) (by omega)) rfl ?_; clear hF a; intro a hF
   refine s_set (D := FDx) (B := B) hF on3 rfl (by rw [toNat_c]; simp [zints]; omega) rfl rfl hO (by decide) hS.inv ?_; intro w' hm hI' ho'
   replace hS := hS.mb hm (fun k h => Nat.le_trans (Nat.le_refl _) (hO.lt k h).1)
   replace hO := ho'
   clear hm hI' ho'
   rw [toNat_c, Nat.zero_add, zints_set, trow_set (g := rnT fr (i + 1)) (fun l hl => rn_step)] at hO
   refine WL_nil (hK _ _ ?_)
   clear hK K
   replace hF := hF.sub _ (c_ 0 rfl (c_ 5 rfl (c_ 10 rfl (c_ 11 rfl (n_)))))
   refine W_reg rfl (fun K hK => ?_)
   refine sv hF (v_addI rfl rfl (by omega)) rfl ?_; clear hF a; intro a hF
   refine sv hF (v_move rfl) rfl ?_; clear hF a; intro a hF
   refine WL_nil (hK _ _ ?_)
   clear hK K
   exact ⟨q - 1, by omega, i + 1, hF.sub _ (c_ 0 rfl (c_ 5 rfl (c_ 10 rfl (c_ 11 rfl (n_))))), hS, hO, by omega, by omega⟩
  ·
   skip
   try simp only [dcl] at hc1
   refine W_exit rfl ?_
   refine W_sr rfl (fun K hK => ?_)
   refine sv2 hF (v_move rfl) (v_assign rfl) rfl rfl ?_; clear hF a; intro a hF
   refine WL_nil (hK _ _ ?_)
   clear hK K
   replace hF := hF.sub _ (c_ 4 rfl (c_ 21 rfl (c_ 0 rfl (c_ 5 rfl (c_ 10 rfl (c_ 11 rfl (n_)))))))
   refine W_ret ?_
   refine ⟨_, _, hF, rfl, ?_⟩
   obtain rfl : i = many := by omega
   exact ⟨_, rfl, hO.cast rn_end.symm, hS⟩

set_option maxRecDepth 100000 in
set_option maxHeartbeats 1000000 in
theorem minor_ok (B M wb p n m : Nat) (hp : Prm wb p) (fv : Value) (pmt pr pc : Option Addr) (cmt cr cc : Nat) (f : Tb) (lr lc : List Nat) (w : World) (hI : Inv FDx B w) (hM : M ≤ w.heap.size) (hf : Fo FDx B w fv (some (wb, p))) (hA : Mat FDx B M w pmt cmt (tab n m f)) (hr : Row FDx B M w (.slice pr lr.length cr) (zints (casts lr))) (hc : Row FDx B M w (.slice pc lc.length cc) (zints (casts lc))) (hlr : ∀ x ∈ lr, x < n) (hlc : ∀ x ∈ lc, x < m) (hl20 : lr.length ≤ 20 ∧ lc.length ≤ 20) : Ret Try.prog 58 [fv, .slice pmt n cmt, .slice pr lr.length cr, .slice pc lc.length cc] w fun v w' => v = .bool (decide ((invR hp (tab lr.length lc.length (mnr f lr lc))).1 = 0)) ∧ St FDx B w w' := by
 refine enter 53 [(0, fv), (1, .slice pmt n cmt), (2, .slice pr lr.length cr), (3, .slice pc lc.length cc)] 8 Try.func58 rfl rfl rfl rfl rfl ?_; intro a hF
 have hS := St.refl hI
 refine W_sr rfl (fun K hK => ?_)
 refine sv hF (v_assign rfl) rfl ?_; clear hF a; intro a hF
 refine WL_nil (hK _ _ ?_)
 clear hK K
 refine W_sr rfl (fun K hK => ?_)
 refine sv hF (v_assign rfl) rfl ?_; clear hF a; intro a hF
 refine WL_nil (hK _ _ ?_)
 clear hK K
 refine W_seq ?_
 refine W_sr rfl (fun K hK => ?_)
 refine sv hF (v_move rfl) rfl ?_; clear hF a; intro a hF
 refine sv hF (v_lenS rfl sl37 rfl) rfl ?_; clear hF a; intro a hF
 refine sv hF (v_move rfl) rfl ?_; clear hF a; intro a hF
 refine WL_nil (hK _ _ ?_)
 clear hK K
 replace hF := hF.sub _ (c_ 19 rfl (c_ 18 rfl (c_ 17 rfl (c_ 9 rfl (c_ 8 rfl (c_ 0 rfl (c_ 1 rfl (c_ 3 rfl (n_)))))))))
 refine W_block ?_
 refine W_loop (fun q a w1 => ∃ (i : Nat) (v9 : Value) (b9 : Option Nat), Fr 53 [(0, fv), (1, .slice pmt n cmt), (3, .slice pc lc.length cc), (9, v9), (17, .slice pr lr.length cr), (18, .int .i64 (lr.length : Int)), (19, .int .i64 (i : Int))] a ∧ (St FDx B w w1) ∧ (Fo FDx B w1 fv (some (wb, p))) ∧ (Mat FDx B M w1 pmt cmt (tab n m f)) ∧ (Row FDx B M w1 (.slice pr lr.length cr) (zints (casts lr))) ∧ (Row FDx B M w1 (.slice pc lc.length cc) (zints (casts lc))) ∧ (MOwn FDx B w.heap.size 0 w1.heap.size w1 37 v9 b9 ((List.range i).map (trow lc.length (mnr f lr lc)))) ∧ (i ≤ lr.length) ∧ (q + i = lr.length)) (lr.length) ?_ ?_
 ·
  skip
  exact ⟨0, _, none, hF.sub _ (c_ 0 rfl (c_ 1 rfl (c_ 3 rfl (c_ 9 rfl (c_ 17 rfl (c_ 18 rfl (c_ 19 rfl (n_)))))))), hS, hf, hA, hr, hc, MOwn.nil _ _ _ _ _ _ _ (Nat.zero_le _), by omega, by omega⟩
 ·
  skip
  clear hF
  clear hS hf hA hr hc
  rintro q a w1 ⟨i, v9, b9, hF, hS, hf, hA, hr, hc, hMO, hi, hq⟩
  obtain ⟨KM, hKe⟩ : ∃ K, K = w1.heap.size := ⟨_, rfl⟩
  rw [← hKe] at hMO
  have hKs : KM ≤ w1.heap.size := by omega
  have hNK : w.heap.size ≤ KM := by have := hS.ext.size; omega
  clear hKe
  refine W_sr rfl (fun K hK => ?_)
  refine sv hF (v_lss rfl rfl) rfl ?_; clear hF a; intro a hF
  refine WL_nil (hK _ _ ?_)
  clear hK K
  refine W_seq ?_
  refine W_if hF rfl (fun hc1 => ?_) (fun hc1 => ?_)
  ·
   skip
   try simp only [dcl] at hc1
   have hlt : i < lr.length := by omega
   obtain ⟨x, hx⟩ : ∃ z, lr[i]? = some z := ⟨_, List.getElem?_eq_getElem (by omega)⟩
   obtain ⟨ga, oa, hga, hka, -⟩ := hr.kat (zints_at (casts_at hx))
   cases hga
   have hxn := hlr x (List.mem_of_getElem? hx)
   refine W_skip ?_
   refine W_seq ?_
   refine W_block ?_
   refine W_sr rfl (fun K hK => ?_)
   refine sv hF (v_ixS sl37 rfl rfl (by omega) (by omega)) rfl ?_; clear hF a; intro a hF
   refine sv hF (v_load sc3 rfl (by rw [toNat_c]; exact hka.c)) rfl ?_; clear hF a; intro a hF
   refine sv hF (v_assign rfl) rfl ?_; clear hF a; intro a hF
   refine WL_nil (hK _ _ ?_)
   clear hK K
   replace hF := hF.sub _ (c_ 11 rfl (c_ 0 rfl (c_ 1 rfl (c_ 3 rfl (c_ 9 rfl (c_ 17 rfl (c_ 18 rfl (c_ 19 rfl (n_)))))))))
   refine W_sr rfl (fun K hK => ?_)
   refine sv hF (v_assign rfl) rfl ?_; clear hF a; intro a hF
   refine WL_nil (hK _ _ ?_)
   clear hK K
   refine W_seq ?_
   refine W_sr rfl (fun K hK => ?_)
   refine sv hF (v_move rfl) rfl ?_; clear hF a; intro a hF
   refine sv hF (v_lenS rfl sl37 rfl) rfl ?_; clear hF a; intro a hF
   refine sv hF (v_move rfl) rfl ?_; clear hF a; intro a hF
   refine WL_nil (hK _ _ ?_)
   clear hK K
   refine W_block ?_
   refine W_loop (fun q2 a w2 => ∃ (j : Nat) (v12 : Value) (b12 : Option Nat), Fr 53 [(0, fv), (1, .slice pmt n cmt), (3, .slice pc lc.length cc), (9, v9), (11, .int .i64 (x : Int)), (12, v12), (17, .slice (some ⟨ga, oa, none⟩) lr.length cr), (18, .int .i64 (lr.length : Int)), (19, .int .i64 (i : Int)), (23, .slice pc lc.length cc), (24, .int .i64 (lc.length : Int)), (25, .int .i64 (j : Int))] a ∧ (St FDx B w w2) ∧ (Fo FDx B w2 fv (some (wb, p))) ∧ (Mat FDx B M w2 pmt cmt (tab n m f)) ∧ (Row FDx B M w2 (.slice (some ⟨ga, oa, none⟩) lr.length cr) (zints (casts lr))) ∧ (Row FDx B M w2 (.slice pc lc.length cc) (zints (casts lc))) ∧ (MOwn FDx B w.heap.size 0 KM w2 37 v9 b9 ((List.range i).map (trow lc.length (mnr f lr lc)))) ∧ (KM ≤ w2.heap.size) ∧ (Gam.Own FDx B KM w2 FDx.E v12 b12 (zints ((List.range j).map fun j => (((mnr f lr lc) i j : Nat) : Int)))) ∧ (j ≤ lc.length) ∧ (q2 + j = lc.length)) (lc.length) ?_ ?_
   ·
    skip
    exact ⟨0, _, none, hF.sub _ (c_ 0 rfl (c_ 1 rfl (c_ 3 rfl (c_ 9 rfl (c_ 11 rfl (c_ 12 rfl (c_ 17 rfl (c_ 18 rfl (c_ 19 rfl (c_ 23 rfl (c_ 24 rfl (c_ 25 rfl (n_))))))))))))), hS, hf, hA, hr, hc, hMO, hKs, Gam.Own.nil _ _ _ _ _, by omega, by omega⟩
   ·
    skip
    clear hF
    clear hS hf hA hr hc hMO hKs
    rintro q2 a w2 ⟨j, v12, b12, hF, hS, hf, hA, hr, hc, hMO, hKs, hO, hj, hq2⟩
    refine W_sr rfl (fun K hK => ?_)
    refine sv hF (v_lss rfl rfl) rfl ?_; clear hF a; intro a hF
    refine WL_nil (hK _ _ ?_)
    clear hK K
    refine W_seq ?_
    refine W_if hF rfl (fun hc2 => ?_) (fun hc2 => ?_)
    ·
     skip
     try simp only [dcl] at hc2
     have hlt2 : j < lc.length := by omega
     obtain ⟨y, hy⟩ : ∃ z, lc[j]? = some z := ⟨_, List.getElem?_eq_getElem (by omega)⟩
     obtain ⟨gb, ob, hgb, hkb, -⟩ := hc.kat (zints_at (casts_at hy))
     cases hgb
     have hym := hlc y (List.mem_of_getElem? hy)
     obtain ⟨gm, om, prm, crm, hgm, hkm, hrm, -⟩ := hA.row (show (tab n m f)[x]? = some (trow m f x) from tab_at hxn)
     cases hgm
     obtain ⟨gz, oz, hgz, hkz, -⟩ := hrm.kat (zints_at (trow_at (m := m) (f := f) (i := x) hym))
     cases hgz
     rw [trow_length] at hkm
     have hcell : mnr f lr lc i j = f x y := mnr_at hx hy
     refine W_skip ?_
     refine W_seq ?_
     refine W_block ?_
     refine W_sr rfl (fun K hK => ?_)
     refine sv hF (v_ixS sl37 rfl rfl (by omega) (by omega)) rfl ?_; clear hF a; intro a hF
     refine sv hF (v_load sc3 rfl (by rw [toNat_c]; exact hkb.c)) rfl ?_; clear hF a; intro a hF
     refine sv hF (v_assign rfl) rfl ?_; clear hF a; intro a hF
     refine WL_nil (hK _ _ ?_)
     clear hK K
     replace hF := hF.sub _ (c_ 14 rfl (c_ 0 rfl (c_ 1 rfl (c_ 3 rfl (c_ 9 rfl (c_ 11 rfl (c_ 12 rfl (c_ 17 rfl (c_ 18 rfl (c_ 19 rfl (c_ 23 rfl (c_ 24 rfl (c_ 25 rfl (n_))))))))))))))
     refine W_reg rfl (fun K hK => ?_)
     refine sv3 hF (v_move rfl) (v_move rfl) (v_move rfl) rfl rfl rfl ?_; clear hF a; intro a hF
     refine sv hF (v_ixS sl28 rfl rfl (by omega) (by omega)) rfl ?_; clear hF a; intro a hF
     refine sv hF (v_load sc37 rfl (by rw [toNat_c]; exact hkm.c)) rfl ?_; clear hF a; intro a hF
     refine sv hF (v_move rfl) rfl ?_; clear hF a; intro a hF
     refine sv hF (v_ixS sl37 rfl rfl (by omega) (by omega)) rfl ?_; clear hF a; intro a hF
     refine sv hF (v_load sc3 rfl (by rw [toNat_c]; exact hkz.c)) rfl ?_; clear hF a; intro a hF
     rw [← hcell] at hF
     refine s_bs (D := FDx) (B := B) hF sl37 rfl rfl (by decide) (by simp [Value.cells]) (by decide) hS.inv rfl ?_; clear hF a; intro w' a hm hI' hL hF
     replace hf := hf.mb hm
     replace hA := hA.mb hm (fun _ h => by cases h)
     replace hr := hr.mb hm (fun _ h => by cases h)
     replace hc := hc.mb hm (fun _ h => by cases h)
     replace hMO := hMO.mb0 hm
     replace hKs := Nat.le_trans hKs hm.size
     replace hO := hO.mb hm (fun _ _ => by simp)
     replace hS := hS.mb0 hm
     clear hm hI'
     refine s_app (D := FDx) (B := B) hF rfl sl37 rfl rfl hO (hL.row (by decide)) (by simp [Value.oneCell']) (by simp; omega) (by simp [maxLen]; omega) (hKs) (by decide) hS.inv rfl ?_; clear hF a; intro v' b' w' a ho' hm hI' hb' hF
     replace hf := hf.mb hm
     replace hA := hA.mb hm (fun k h => Nat.le_trans (Nat.le_trans hM hNK) (hO.lt k h).1)
     replace hr := hr.mb hm (fun k h => Nat.le_trans (Nat.le_trans hM hNK) (hO.lt k h).1)
     replace hc := hc.mb hm (fun k h => Nat.le_trans (Nat.le_trans hM hNK) (hO.lt k h).1)
     replace hMO := hMO.mbo hm hO (by decide) (Nat.le_refl _) (Nat.zero_le _)
     replace hKs := Nat.le_trans hKs hm.size
     replace hS := hS.mb hm (fun k h => Nat.le_trans (hNK) (hO.lt k h).1)
     replace hO := ho'
     clear hm hI' ho'
     refine sv hF (v_assign rfl) rfl ?_; clear hF a; intro a hF
     refine WL_nil (hK _ _ ?_)
     clear hK K
     replace hF := hF.sub _ (c_ 12 rfl (c_ 0 rfl (c_ 1 rfl (c_ 3 rfl (c_ 9 rfl (c_ 11 rfl (c_ 17 rfl (c_ 18 rfl (c_ 19 rfl (c_ 23 rfl (c_ 24 rfl (c_ 25 rfl (n_)))))))))))))
     refine W_reg rfl (fun K hK => ?_)
     refine sv hF (v_addI rfl rfl (by omega)) rfl ?_; clear hF a; intro a hF
     refine sv hF (v_move rfl) rfl ?_; clear hF a; intro a hF
     refine WL_nil (hK _ _ ?_)
     clear hK K
     exact ⟨q2 - 1, by omega, j + 1, _, _, hF.sub _ (c_ 0 rfl (c_ 1 rfl (c_ 3 rfl (c_ 9 rfl (c_ 11 rfl (c_ 12 rfl (c_ 17 rfl (c_ 18 rfl (c_ 19 rfl (c_ 23 rfl (c_ 24 rfl (c_ 25 rfl (n_))))))))))))), hS, hf, hA, hr, hc, hMO, hKs, hO.cast (by rw [List.range_succ, List.map_append]; simp [zints]), by omega, by omega⟩
    ·
     skip
     try simp only [dcl] at hc2
     have hje : j = lc.length := by omega
     rw [hje] at hO
     refine W_exit rfl ?_
     refine W_reg rfl (fun K hK => ?_)
     refine sv2 hF (v_move rfl) (v_move rfl) rfl rfl ?_; clear hF a; intro a hF
     obtain ⟨a_, c_r, rfl⟩ := hO.shape
     refine s_bs (D := FDx) (B := B) hF sl28 rfl rfl (by decide) (by simp [Value.cells]) (by decide) hS.inv rfl ?_; clear hF a; intro w' a hm hI' hL hF
     replace hf := hf.mb hm
     replace hA := hA.mb hm (fun _ h => by cases h)
     replace hr := hr.mb hm (fun _ h => by cases h)
     replace hc := hc.mb hm (fun _ h => by cases h)
     replace hMO := hMO.mb0 hm
     replace hKs := Nat.le_trans hKs hm.size
     replace hO := hO.mb hm (fun _ _ => by simp)
     replace hS := hS.mb0 hm
     clear hm hI'
     replace hMO := hMO.up hKs
     clear hKs
     refine s_appM (D := FDx) (B := B) hF rfl sl28 rfl rfl hMO hL (.of (r := trow lc.length (mnr f lr lc) i) hO (Nat.zero_le _)) rfl rfl (by simp; omega) (hS.ext.size) (by decide) (by decide) hS.inv rfl ?_; clear hF a; intro v' b' w' a ho' hm hI' hF
     replace hf := hf.mb hm
     replace hA := hA.mb hm (fun k h => Nat.le_trans (hM) (hMO.lt k h).1)
     replace hr := hr.mb hm (fun k h => Nat.le_trans (hM) (hMO.lt k h).1)
     replace hc := hc.mb hm (fun k h => Nat.le_trans (hM) (hMO.lt k h).1)
     replace hS := hS.mb hm (fun k h => (hMO.lt k h).1)
     have hKm := hm.size
     replace hMO := ho'
     clear hm hI' ho' hL
     refine sv hF (v_assign rfl) rfl ?_; clear hF a; intro a hF
     refine WL_nil (hK _ _ ?_)
     clear hK K
     replace hF := hF.sub _ (c_ 9 rfl (c_ 43 rfl (c_ 42 rfl (c_ 41 rfl (c_ 40 rfl (c_ 0 rfl (c_ 1 rfl (c_ 3 rfl (c_ 11 rfl (c_ 12 rfl (c_ 17 rfl (c_ 18 rfl (c_ 19 rfl (c_ 23 rfl (c_ 24 rfl (c_ 25 rfl (n_)))))))))))))))))
     refine W_reg rfl (fun K hK => ?_)
     refine sv hF (v_addI rfl rfl (by omega)) rfl ?_; clear hF a; intro a hF
     refine sv hF (v_move rfl) rfl ?_; clear hF a; intro a hF
     refine WL_nil (hK _ _ ?_)
     clear hK K
     exact ⟨q - 1, by omega, i + 1, _, _, hF.sub _ (c_ 0 rfl (c_ 1 rfl (c_ 3 rfl (c_ 9 rfl (c_ 17 rfl (c_ 18 rfl (c_ 19 rfl (n_)))))))), hS, hf, hA, hr, hc, (hMO.up hKm).cast (by rw [List.range_succ, List.map_append]; rfl), by omega, by omega⟩
  ·
   skip
   try simp only [dcl] at hc1
   obtain ⟨sW, cW, rfl, hWd⟩ := hMO.mat (by decide) (Nat.zero_le _)
   have hie : i = lr.length := by omega
   subst hie
   have hwl := tab_lens (n := lr.length) (m := lc.length) (f := (mnr f lr lc)) hl20.1 hl20.2
   clear hMO
   refine W_exit rfl ?_
   refine W_sr rfl (fun K hK => ?_)
   refine sv2 hF (v_move rfl) (v_move rfl) rfl rfl ?_; clear hF a; intro a hF
   refine sc hF rfl rfl rfl en28 rfl (Inverse_ok B _ wb p hp fv sW cW (tab lr.length lc.length (mnr f lr lc)) _ hS.inv (Nat.le_refl _) hf hWd (len20 hwl).1 (len20 hwl).2) ?_; clear hF a; intro v w' a hv hF
   obtain ⟨ob, u, rfl, -, hS'⟩ := hv
   replace hS := hS.trans hS'
   clear hS'
   refine sv5 hF (v_move rfl) (v_ext rfl rfl) (v_ext rfl rfl) (v_assign rfl) (v_assign rfl) rfl rfl rfl rfl rfl ?_; clear hF a; intro a hF
   refine WL_nil (hK _ _ ?_)
   clear hK K
   replace hF := hF.sub _ (c_ 16 rfl (c_ 50 rfl (c_ 49 rfl (c_ 45 rfl (c_ 48 rfl (c_ 47 rfl (c_ 46 rfl (c_ 0 rfl (c_ 1 rfl (c_ 3 rfl (c_ 9 rfl (c_ 17 rfl (c_ 18 rfl (c_ 19 rfl (n_)))))))))))))))
   refine W_sr rfl (fun K hK => ?_)
   refine sv hF (v_move rfl) rfl ?_; clear hF a; intro a hF
   refine sv hF (v_eql rfl rfl) rfl ?_; clear hF a; intro a hF
   refine sv hF (v_assign rfl) rfl ?_; clear hF a; intro a hF
   refine WL_nil (hK _ _ ?_)
   clear hK K
   refine W_ret ?_
   refine ⟨_, _, hF, rfl, ?_⟩
   exact ⟨rfl, hS⟩

end Go.Proofs.Ytaeljbdpjiciaaa
