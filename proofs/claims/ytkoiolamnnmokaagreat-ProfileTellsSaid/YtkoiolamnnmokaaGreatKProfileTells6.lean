/- Texts of the claim ProfileTells (part 6), put together in the order of their imports. -/
import Derived.Test.YtkoiolamnnmokaaGreatKProfileTells5
/- The walk of package invert: reduce. -/
set_option linter.unusedVariables false
set_option linter.unusedSimpArgs false
namespace Go.Proofs.YtkoiolamnnmokaaGreat
open Go Go.Gam
namespace FxFInvC
theorem en49 : Ent Tryz.prog 49 := ent Tryz.func49 (by kernel_rfl) (by kernel_rfl)
theorem en51 : Ent Tryz.prog 51 := ent Tryz.func51 (by kernel_rfl) (by kernel_rfl)
theorem en77 : Ent Tryz.prog 77 := ent Tryz.func77 (by kernel_rfl) (by kernel_rfl)
theorem en78 : Ent Tryz.prog 78 := ent Tryz.func78 (by kernel_rfl) (by kernel_rfl)
theorem hmix : Tryz.prog.follows .mixedOrders = true := by kernel_rfl
theorem on3 : Gam.One Tryz.prog 3 := by unfold Gam.One; kernel_rfl
theorem on53 : Gam.One Tryz.prog 53 := by unfold Gam.One; kernel_rfl
theorem sc3 : Scalar Tryz.prog 3 := ⟨_, Tryz.underlying3, by simp, by simp⟩
theorem sc36 : Scalar Tryz.prog 36 := ⟨_, Tryz.underlying36, by simp, by simp⟩
theorem sc42 : Scalar Tryz.prog 42 := ⟨_, Tryz.underlying42, by simp, by simp⟩
theorem sc53 : Scalar Tryz.prog 53 := ⟨_, Tryz.underlying53, by simp, by simp⟩
theorem sl36 : Sl Tryz.prog 36 53 (.slice none 0 0) 24 := sl_of Tryz.underlying36 rfl (by kernel_rfl)
theorem sl53 : Sl Tryz.prog 53 3 (.int .i64 0) 8 := sl_of Tryz.underlying53 rfl (by kernel_rfl)
theorem zv3 : Zv Tryz.prog 3 (.int .i64 0) := zv_of rfl (by kernel_rfl)
end FxFInvC
open FxFInvC
set_option maxRecDepth 100000 in
set_option maxHeartbeats 1000000 in
theorem reduce_ok (B N wb p : Nat) (hp : Prm wb p) (fv : Value) (g cap n m cols : Nat) (bs rc : Nat → Nat) (f : Tb) (w : World) (hI : Inv FDx B w) (hf : Fo FDx B w fv (some (wb, p))) (hO : Gam.Own FDx B N w 53 (.slice (some ⟨g, 0, none⟩) n cap) (some g) (vls n m bs rc)) (hW : Wr FDx B N w.heap.size w n m bs rc f) (hN : N ≤ w.heap.size) (hfb : hp.fld.Bd f) (hcm : cols ≤ m) (hnm : n ≤ 40 ∧ m ≤ 40) : Ret Tryz.prog 44 [fv, .slice (some ⟨g, 0, none⟩) n cap, .int .i64 (cols : Int)] w fun v w' => v = .int .i64 ((hp.fld.rk n f cols : Nat) : Int) ∧ (∃ bs rc, Gam.Own FDx B N w' 53 (.slice (some ⟨g, 0, none⟩) n cap) (some g) (vls n m bs rc) ∧ Wr FDx B N w.heap.size w' n m bs rc (hp.fld.red n f cols).1) ∧ StZ FDx B (fun k => N ≤ k) w w' := by
 refine enter 102 [(0, fv), (1, .slice (some ⟨g, 0, none⟩) n cap), (2, .int .i64 (cols : Int))] 6 Tryz.func44 rfl rfl rfl rfl rfl ?_; intro a hF
 have hS := StZ.refl (Z := fun k => N ≤ k) hI
 have hfw := hp.fld_w
 have h16 : 2 ^ wb ≤ 65536 := by rcases hp.w with h | h <;> rw [h] <;> decide
 obtain ⟨KM, hKM⟩ : ∃ k, k = w.heap.size := ⟨_, rfl⟩
 rw [← hKM] at hW
 have hgK : g < KM := by rw [hKM]; exact (hO.lt _ rfl).2
 refine W_sr rfl fun K hK => ?_
 obtain ⟨pf, hpf⟩ : ∃ pf, pf = w.heap.size := ⟨_, rfl⟩
 have hKpf : KM ≤ pf := by omega
 refine s_boxN (D := FDx) (B := B) hF rfl (hf.cells1) (by decide) hS.inv rfl ?_; clear hF a; intro w' a hm hI' hbf hsz hF
 replace hf := hf.mb hm
 replace hO := hO.mb hm (fun _ _ => by simp)
 replace hW := hW.mb0 hm
 replace hS := hS.mb0 hm
 clear hm hI' hsz
 rw [← hpf] at hbf hF
 have hkf := hbf.kc
 clear hbf
 obtain ⟨pa, hpa⟩ : ∃ pf, pf = w'.heap.size := ⟨_, rfl⟩
 have hKpa : KM ≤ pa := by have := hS.ext.size; omega
 refine s_boxN (D := FDx) (B := B) hF rfl (rfl) (by decide) hS.inv rfl ?_; clear hF a; intro w' a hm hI' hba hsz hF
 replace hf := hf.mb hm
 replace hO := hO.mb hm (fun _ _ => by simp)
 replace hW := hW.mb0 hm
 replace hkf := hkf.mb hm (by simp)
 replace hS := hS.mb0 hm
 clear hm hI' hsz
 rw [← hpa] at hba hF
 have hka := hba.kc
 clear hba
 refine svw hK hF (v_assign rfl) rfl ?_; clear hF a hK K; intro a hF
 replace hF := hF.sub _ (c_ 6 rfl (c_ 4 rfl (c_ 3 rfl (c_ 2 rfl (n_)))))
 refine W_scope ?_
 refine W_sr rfl fun K hK => ?_
 obtain ⟨pt, hpt⟩ : ∃ pf, pf = w'.heap.size := ⟨_, rfl⟩
 have hKpt : KM ≤ pt := by have := hS.ext.size; omega
 have hlka := hka.2.1
 have hlkf := hkf.2.1
 have hapt : pa < pt := by rw [hpt]; exact hlka
 have hfpt : pf < pt := by rw [hpt]; exact hlkf
 have hgpf : g ≠ pf := by omega
 have hgpa : g ≠ pa := by omega
 refine s_alloc (D := FDx) (B := B) hF zv3 (by decide) hS.inv rfl ?_; clear hF a; intro w' a hm hI' hbt hsz hF
 replace hf := hf.mb hm
 replace hO := hO.mb hm (fun _ _ => by simp)
 replace hW := hW.mb0 hm
 replace hkf := hkf.mb hm (by simp)
 replace hka := hka.mb hm (by simp)
 replace hS := hS.mb0 hm
 clear hm hI' hsz
 rw [← hpt] at hbt hF
 refine s_stb (D := FDx) (B := B) hF on3 rfl rfl (rfl) hbt hS.inv ?_; intro w' hm hI' hbx'
 replace hf := hf.mb hm
 replace hO := hO.mb hm (fun k e e2 => by cases e; cases e2; exact absurd hgK (by omega))
 replace hW := hW.mbx hm (fun k e => by cases e; omega)
 replace hkf := hkf.mb hm (by simp; omega)
 replace hka := hka.mb hm (by simp; omega)
 replace hS := hS.mb hm (fun k h => by cases h; exact ⟨by omega, _, _, _, hbt.blk⟩)
 replace hbt := hbx'
 clear hm hI' hbx'
 refine wn hK ?_
 clear hK K
 refine W_sr rfl fun K hK => ?_
 refine sv2w hK hF (v_mkf (cs := [.tmp 3, .tmp 4, .tmp 7]) (vs := [.pointer (some ⟨pf, 0, none⟩), .pointer (some ⟨pa, 0, none⟩), .pointer (some ⟨pt, 0, none⟩)]) rfl) (v_assign rfl) rfl rfl ?_; clear hF a hK K; intro a hF
 replace hF := hF.sub _ (c_ 8 rfl (c_ 7 rfl (c_ 6 rfl (c_ 4 rfl (c_ 3 rfl (c_ 2 rfl (n_)))))))
 refine W_seq ?_
 refine W_label ?_
 refine W_seq ?_
 refine W_sr rfl fun K hK => ?_
 refine sv2w hK hF (v_move rfl) (v_move rfl) rfl rfl ?_; clear hF a hK K; intro a hF
 replace hF := hF.sub _ (c_ 19 rfl (c_ 18 rfl (c_ 8 rfl (c_ 7 rfl (c_ 6 rfl (c_ 4 rfl (c_ 3 rfl (n_))))))))
 refine W_block ?_
 refine W_loop (fun q a w1 => ∃ (c : Nat) (bs rc : Nat → Nat), Fr 102 [(3, .pointer (some ⟨pf, 0, none⟩)), (4, .pointer (some ⟨pa, 0, none⟩)), (7, .pointer (some ⟨pt, 0, none⟩)), (8, .func (.func 77) ([] : List Value).toArray ([.pointer (some ⟨pf, 0, none⟩), .pointer (some ⟨pa, 0, none⟩), .pointer (some ⟨pt, 0, none⟩)] : List Value).toArray), (18, .int .i64 (cols : Int)), (19, .int .i64 (c : Int))] a ∧ (StZ FDx B (fun k => N ≤ k) w w1) ∧ (Fo FDx B w1 fv (some (wb, p))) ∧ (KC FDx B w1 ⟨pf, 0, none⟩ (fv)) ∧ (KC FDx B w1 ⟨pa, 0, none⟩ (.slice (some ⟨g, 0, none⟩) n cap)) ∧ (Box FDx B pt w1 pt 3 (.int .i64 ((hp.fld.red n f c).2 : Int))) ∧ (Gam.Own FDx B N w1 53 (.slice (some ⟨g, 0, none⟩) n cap) (some g) (vls n m bs rc)) ∧ (Wr FDx B N KM w1 n m bs rc ((hp.fld.red n f c).1)) ∧ (c ≤ cols) ∧ (q + c = cols)) (cols) ?_ ?_
 ·
  skip
  exact ⟨0, _, _, hF.sub _ (c_ 3 rfl (c_ 4 rfl (c_ 7 rfl (c_ 8 rfl (c_ 18 rfl (c_ 19 rfl (n_))))))), hS, hf, hkf, hka, hbt, hO, hW, by omega, by omega⟩
 ·
  skip
  clear hF
  clear hS hf hkf hka hbt hO hW
  rintro q a w1 ⟨c, bs, rc, hF, hS, hf, hkf, hka, hbt, hO, hW, hc, hq⟩
  refine W_sr rfl fun K hK => ?_
  refine svw hK hF (v_lss rfl rfl) rfl ?_; clear hF a hK K; intro a hF
  refine W_seq ?_
  refine W_if hF rfl (fun hc1 => ?_) (fun hc1 => ?_)
  ·
   skip
   try simp only [dcl] at hc1
   obtain ⟨f1, hf1⟩ : ∃ x, x = (hp.fld.red n f c).1 := ⟨_, rfl⟩
   obtain ⟨t, ht1⟩ : ∃ x, x = (hp.fld.red n f c).2 := ⟨_, rfl⟩
   have hRd := hp.fld.red_ok (n := n) hfb c
   rw [← hf1, ← ht1] at hRd
   rw [← hf1] at hW
   rw [← ht1] at hbt
   have hb1 := hRd.bd
   have htn := hRd.tn
   clear hRd
   have hcl : c < m := by omega
   refine W_skip ?_
   refine W_seq ?_
   refine W_block ?_
   refine W_sr rfl fun K hK => ?_
   refine sv hF (v_move rfl) rfl ?_; clear hF a; intro a hF
   obtain ⟨pc, hpc⟩ : ∃ pf, pf = w1.heap.size := ⟨_, rfl⟩
   have hKpc : KM ≤ pc := by have := hS.ext.size; omega
   have hapc : pa < pc := by rw [hpc]; exact hka.2.1
   have hfpc : pf < pc := by rw [hpc]; exact hkf.2.1
   have htpc : pt < pc := by rw [hpc]; exact hbt.kc.2.1
   refine s_alloc (D := FDx) (B := B) hF zv3 (by decide) hS.inv rfl ?_; clear hF a; intro w' a hm hI' hbc hsz hF
   replace hf := hf.mb hm
   replace hkf := hkf.mb hm (by simp)
   replace hka := hka.mb hm (by simp)
   replace hbt := hbt.mb hm (by simp)
   replace hO := hO.mb hm (fun _ _ => by simp)
   replace hW := hW.mb0 hm
   replace hS := hS.mb0 hm
   clear hm hI' hsz
   rw [← hpc] at hbc hF
   refine s_stb (D := FDx) (B := B) hF on3 rfl rfl (rfl) hbc hS.inv ?_; intro w' hm hI' hbx'
   replace hf := hf.mb hm
   replace hkf := hkf.mb hm (by simp; omega)
   replace hka := hka.mb hm (by simp; omega)
   replace hbt := hbt.mb hm (by simp; omega)
   replace hO := hO.mb hm (fun k e e2 => by cases e; cases e2; exact absurd hgK (by omega))
   replace hW := hW.mbx hm (fun k e => by cases e; omega)
   replace hS := hS.mb hm (fun k h => by cases h; exact ⟨by omega, _, _, _, hbc.blk⟩)
   replace hbc := hbx'
   clear hm hI' hbx'
   refine wn hK ?_
   clear hK K
   replace hF := hF.sub _ (c_ 9 rfl (c_ 3 rfl (c_ 4 rfl (c_ 7 rfl (c_ 8 rfl (c_ 18 rfl (c_ 19 rfl (n_))))))))
   refine W_seq ?_
   refine W_sr rfl fun K hK => ?_
   refine sv4w hK hF (v_load sc3 rfl (hbt.at)) (v_load sc36 rfl (hka.c)) (v_lenS rfl sl36 rfl) (v_eql rfl rfl) rfl rfl rfl rfl ?_; clear hF a hK K; intro a hF
   replace hF := hF.sub _ (c_ 25 rfl (c_ 9 rfl (c_ 3 rfl (c_ 4 rfl (c_ 7 rfl (c_ 8 rfl (c_ 18 rfl (c_ 19 rfl (n_)))))))))
   refine W_if hF rfl (fun hc2 => ?_) (fun hc2 => ?_)
   ·
    skip
    try simp only [dcl] at hc2
    refine W_exit rfl ?_
    refine W_sr rfl fun K hK => ?_
    refine sv hF (v_load sc3 rfl (by first | assumption | (rw [toNat_c]; assumption) | exact KC.c (by assumption) | (rw [toNat_c]; exact KC.c (by assumption)) | exact Box.at (by assumption))) rfl ?_; clear hF a; intro a hF
    refine svw hK hF (v_assign rfl) rfl ?_; clear hF a hK K; intro a hF
    replace hF := hF.sub _ (c_ 6 rfl (c_ 101 rfl (c_ 3 rfl (c_ 4 rfl (c_ 7 rfl (c_ 8 rfl (c_ 18 rfl (c_ 19 rfl (n_)))))))))
    refine W_ret ?_
    refine ⟨_, _, hF, rfl, ?_⟩
    have hfull := hp.fld.red_full (n := n) (f := f) (c := c) (by rw [← ht1]; omega) (cols - c)
    rw [show c + (cols - c) = cols by omega] at hfull
    exact ⟨by unfold Fld.rk; rw [hfull, ← ht1], ⟨bs, rc, hO, by rw [← hKM, hfull, ← hf1]; exact hW⟩, hS⟩
   ·
    skip
    try simp only [dcl] at hc2
    refine W_skip ?_
    have hcapn := (hO.row (by decide)).capd
    have ht : t < n := by omega
    have hdl : ((tab n m f1).drop t).length = n - t := by rw [List.length_drop, tab_length]
    refine W_sd (m := 8) rfl hmix hS.inv (fun K hK w1 hS' hh => ?_)
    replace hf := hf.st hS'
    replace hkf := hkf.st hS'
    replace hka := hka.st hS'
    replace hbt := hbt.st hS'
    replace hO := hO.st (by decide) hS'
    replace hW := hW.st hS'
    replace hbc := hbc.st hS'
    replace hS := hS.trans hS'
    clear hS'
    clear hh
    refine a_v (i := 0) rfl (by kernel_rfl) hF (fun w2 hx => v_load sc3 rfl (hbt.kc.ld hx)) rfl ?_; clear hF a; intro a hF
    refine a_v (i := 1) rfl (by kernel_rfl) hF (fun w2 hx => v_load sc36 rfl (hka.ld hx)) rfl ?_; clear hF a; intro a hF
    refine a_v (i := 2) rfl (by kernel_rfl) hF (fun w2 hx => v_load sc3 rfl (hbt.kc.ld hx)) rfl ?_; clear hF a; intro a hF
    refine a_v (i := 3) rfl (by kernel_rfl) hF (fun w2 hx => v_slLo sl36 rfl rfl (by omega) (by omega)) rfl ?_; clear hF a; intro a hF
    rw [← hdl] at hF
    refine a_v (i := 4) rfl (by kernel_rfl) hF (fun w2 hx => v_mkf (cs := [.tmp 9]) (vs := [.pointer (some ⟨pc, 0, none⟩)]) rfl) rfl ?_; clear hF a; intro a hF
    have hcap := hO.kc (by decide) (vls_at ht)
    have hMt := (hW.mat (gb := g) hO (by decide)).from (lo := t) (b := (tab n m f1).drop t) (by rw [tab_length]; omega) rfl
    refine a_e (i := 5) rfl (by kernel_rfl) ?_
    refine sc hF rfl rfl rfl en78 rfl (IdxR_ok B _ 79 [.pointer (some ⟨pc, 0, none⟩)] (fun r => decide (r.getD c 0 ≠ 0)) _ _ _ _ hS.inv hMt (by rw [hdl]; exact Nat.le_trans (show _ ≤ 1000 by omega) (by decide)) (ent Tryz.func79 (by kernel_rfl) (by kernel_rfl)) (fun r hr pr cr w3 hs hrow => red2_ok B _ pc c pr cr r w3 hs.inv hrow (hbc.kc.st hs) (by rw [tab_mem hr]; exact hcl) (by omega))) ?_; clear hF a; intro v w' a hv hF
    obtain ⟨rfl, hS'⟩ := hv
    refine WL_nil ⟨hS'.ext, ?_⟩
    replace hf := hf.st hS'
    replace hkf := hkf.st hS'
    replace hka := hka.st hS'
    replace hbt := hbt.st hS'
    replace hO := hO.st (by decide) hS'
    replace hW := hW.st hS'
    replace hbc := hbc.st hS'
    replace hS := hS.trans hS'
    clear hS'
    clear hMt hcap
    have hidx := piv_idx (n := n) (f := f1) (t := t) hcl htn (p := fun r => decide (r.getD c 0 ≠ 0)) (fun r => rfl)
    have hib : -1 ≤ idxZ (fun r => decide (r.getD c 0 ≠ 0)) ((tab n m f1).drop t) ∧ idxZ (fun r => decide (r.getD c 0 ≠ 0)) ((tab n m f1).drop t) ≤ 40 := by rcases hidx with ⟨h, _⟩ | ⟨k, _, _, _, h⟩ <;> omega
    refine a_v (i := 6) rfl (by kernel_rfl) hF (fun w2 hx => v_addI rfl rfl (by omega)) rfl ?_; clear hF a; intro a hF
    refine a_v (i := 7) rfl (by kernel_rfl) hF (fun w2 hx => v_assign rfl) rfl ?_; clear hF a; intro a hF
    refine a_done (by kernel_rfl) (hK _ _ ?_)
    clear hK K
    replace hF := hF.sub _ (c_ 10 rfl (c_ 9 rfl (c_ 3 rfl (c_ 4 rfl (c_ 7 rfl (c_ 8 rfl (c_ 18 rfl (c_ 19 rfl (n_)))))))))
    refine W_seq ?_
    refine W_sr rfl fun K hK => ?_
    refine sv3w hK hF (v_move rfl) (v_load sc3 rfl (hbt.at)) (v_lss rfl rfl) rfl rfl rfl ?_; clear hF a hK K; intro a hF
    replace hF := hF.sub _ (c_ 35 rfl (c_ 10 rfl (c_ 9 rfl (c_ 3 rfl (c_ 4 rfl (c_ 7 rfl (c_ 8 rfl (c_ 18 rfl (c_ 19 rfl (n_))))))))))
    refine W_if hF rfl (fun hc3 => ?_) (fun hc3 => ?_)
    ·
     skip
     try simp only [dcl] at hc3
     have hpn : Fld.piv f1 n c t (n - t) = none := by
      rcases hidx with ⟨_, h⟩ | ⟨k, _, _, _, h⟩
      ·
       exact h
      ·
       exfalso; omega
     have hrd := hp.fld.red_none hf1.symm ht1.symm hpn
     have hrd1 : (hp.fld.red n f (c + 1)).1 = f1 := by rw [hrd]
     have hrd2 : (hp.fld.red n f (c + 1)).2 = t := by rw [hrd]
     clear hidx hib
     rw [← hrd1] at hW
     rw [← hrd2] at hbt
     clear hbc
     refine W_exit rfl ?_
     refine W_reg rfl fun K hK => ?_
     refine sv2w hK hF (v_addI rfl rfl (by omega)) (v_move rfl) rfl rfl ?_; clear hF a hK K; intro a hF
     replace hF := hF.sub _ (c_ 19 rfl (c_ 100 rfl (c_ 3 rfl (c_ 4 rfl (c_ 7 rfl (c_ 8 rfl (c_ 18 rfl (n_))))))))
     exact ⟨q - 1, by omega, c + 1, _, _, hF.sub _ (c_ 3 rfl (c_ 4 rfl (c_ 7 rfl (c_ 8 rfl (c_ 18 rfl (c_ 19 rfl (n_))))))), hS, hf, hkf, hka, hbt, hO, hW, by omega, by omega⟩
    ·
     skip
     try simp only [dcl] at hc3
     obtain ⟨k, hpk, htk, hkn, hik⟩ : ∃ k, Fld.piv f1 n c t (n - t) = some k ∧ t ≤ k ∧ k < n ∧ idxZ (fun r => decide (r.getD c 0 ≠ 0)) ((tab n m f1).drop t) = (k : Int) - (t : Int) := by
      rcases hidx with ⟨h, _⟩ | h
      ·
       exfalso; omega
      ·
       exact h
     rw [hik, show (t : Int) + ((k : Int) - (t : Int)) = (k : Int) by omega] at hF
     clear hidx hib hik
     obtain ⟨-, -, hk0, -⟩ := Fld.piv_some hpk
     have hswt : Fld.sw t k t = k := by unfold Fld.sw; rw [if_pos rfl]
     refine W_skip ?_
     refine W_cut (fun a w1 => Fr 102 [(3, .pointer (some ⟨pf, 0, none⟩)), (4, .pointer (some ⟨pa, 0, none⟩)), (7, .pointer (some ⟨pt, 0, none⟩)), (8, .func (.func 77) ([] : List Value).toArray ([.pointer (some ⟨pf, 0, none⟩), .pointer (some ⟨pa, 0, none⟩), .pointer (some ⟨pt, 0, none⟩)] : List Value).toArray), (18, .int .i64 (cols : Int)), (19, .int .i64 (c : Int)), (9, .pointer (some ⟨pc, 0, none⟩)), (10, .int .i64 (k : Int))] a ∧ (StZ FDx B (fun k => N ≤ k) w w1) ∧ (Fo FDx B w1 fv (some (wb, p))) ∧ (KC FDx B w1 ⟨pf, 0, none⟩ (fv)) ∧ (KC FDx B w1 ⟨pa, 0, none⟩ (.slice (some ⟨g, 0, none⟩) n cap)) ∧ (Box FDx B pt w1 pt 3 (.int .i64 (t : Int))) ∧ (Box FDx B pc w1 pc 3 (.int .i64 (c : Int))) ∧ (Gam.Own FDx B N w1 53 (.slice (some ⟨g, 0, none⟩) n cap) (some g) (vls n m (fun i => bs (Fld.sw t k i)) (fun i => rc (Fld.sw t k i)))) ∧ (Wr FDx B N KM w1 n m (fun i => bs (Fld.sw t k i)) (fun i => rc (Fld.sw t k i)) (fun i j => f1 (Fld.sw t k i) j))) ?_ ?_
     ·
      skip
      refine W_dS (fun (w2 : World) => w2.cell? ⟨pa, 0, none⟩ = some (.slice (some ⟨g, 0, none⟩) n cap) ∧ w2.cell? ⟨pt, 0, none⟩ = some (.int .i64 (t : Int))) (m := 16) rfl hmix (fun K hK => ?_)
      have hS' := St.drew hS.inv
      replace hf := hf.st hS'
      replace hkf := hkf.st hS'
      replace hka := hka.st hS'
      replace hbt := hbt.st hS'
      replace hO := hO.st (by decide) hS'
      replace hW := hW.st hS'
      replace hbc := hbc.st hS'
      replace hS := hS.trans hS'
      clear hS'
      have hSS : (fun (w2 : World) => w2.cell? ⟨pa, 0, none⟩ = some (.slice (some ⟨g, 0, none⟩) n cap) ∧ w2.cell? ⟨pt, 0, none⟩ = some (.int .i64 (t : Int))) _ := And.intro hka.c hbt.at
      refine b_v (i := 0) rfl (by kernel_rfl) hF (fun w2 hx => v_load sc36 rfl (hx.1)) rfl hSS ?_; clear hF a; intro a hF
      refine b_v (i := 1) rfl (by kernel_rfl) hF (fun w2 hx => v_load sc3 rfl (hx.2)) rfl hSS ?_; clear hF a; intro a hF
      refine b_v (i := 2) rfl (by kernel_rfl) hF (fun w2 hx => v_load sc36 rfl (hx.1)) rfl hSS ?_; clear hF a; intro a hF
      refine b_v (i := 3) rfl (by kernel_rfl) hF (fun w2 hx => v_move rfl) rfl hSS ?_; clear hF a; intro a hF
      refine b_v (i := 4) rfl (by kernel_rfl) hF (fun w2 hx => v_load sc36 rfl (hx.1)) rfl hSS ?_; clear hF a; intro a hF
      refine b_v (i := 5) rfl (by kernel_rfl) hF (fun w2 hx => v_move rfl) rfl hSS ?_; clear hF a; intro a hF
      refine b_v (i := 6) rfl (by kernel_rfl) hF (fun w2 hx => v_ixS sl36 rfl rfl (by omega) (by omega)) rfl hSS ?_; clear hF a; intro a hF
      refine b_v (i := 8) rfl (by kernel_rfl) hF (fun w2 hx => v_load sc36 rfl (hx.1)) rfl hSS ?_; clear hF a; intro a hF
      refine b_v (i := 9) rfl (by kernel_rfl) hF (fun w2 hx => v_load sc3 rfl (hx.2)) rfl hSS ?_; clear hF a; intro a hF
      refine b_v (i := 10) rfl (by kernel_rfl) hF (fun w2 hx => v_ixS sl36 rfl rfl (by omega) (by omega)) rfl hSS ?_; clear hF a; intro a hF
      refine b_e2 (i := 7) (i' := 11) (by kernel_rfl) rfl rfl ?_ ?_
      ·
       skip
       refine sv hF (v_load sc53 rfl (by rw [toNat_c]; exact (hO.kc (by decide) (vls_at hkn)).c)) rfl ?_; clear hF a; intro a hF
       refine WL_nil ⟨hSS, ?_⟩
       refine b_e (i := 11) (by kernel_rfl) rfl ?_
       refine sv hF (v_load sc53 rfl (by rw [toNat_c]; exact (hO.kc (by decide) (vls_at ht)).c)) rfl ?_; clear hF a; intro a hF
       refine WL_nil ⟨hSS, ?_⟩
       refine b_v (i := 12) rfl (by kernel_rfl) hF (fun w2 hx => v_ixS sl36 rfl rfl (by omega) (by omega)) rfl hSS ?_; clear hF a; intro a hF
       refine b_e (i := 13) (by kernel_rfl) rfl ?_
       refine s_set (D := FDx) (B := B) hF on53 rfl (by rw [toNat_c, vls_length]; omega) rfl rfl hO (by decide) hS.inv ?_; intro w' hm hI' ho'
       replace hf := hf.mb hm
       replace hkf := hkf.mb hm (fun e => hgpf (Option.some.inj e))
       replace hka := hka.mb hm (fun e => hgpa (Option.some.inj e))
       replace hbt := hbt.mb hm (hbt.ne_own hO (by decide))
       replace hW := hW.mbo hm hO (by decide)
       replace hbc := hbc.mb hm (hbc.ne_own hO (by decide))
       replace hS := hS.mb hm (fun k e => ⟨(hO.lt k e).1, hO.isrow k e⟩)
       replace hO := ho'
       clear hm hI' ho'
       clear hSS
       have hSS : (fun (w2 : World) => w2.cell? ⟨pa, 0, none⟩ = some (.slice (some ⟨g, 0, none⟩) n cap) ∧ w2.cell? ⟨pt, 0, none⟩ = some (.int .i64 (t : Int))) _ := And.intro hka.c hbt.at
       refine WL_nil ⟨hSS, ?_⟩
       refine b_v (i := 14) rfl (by kernel_rfl) hF (fun w2 hx => v_ixS sl36 rfl rfl (by omega) (by omega)) rfl hSS ?_; clear hF a; intro a hF
       refine b_e (i := 15) (by kernel_rfl) rfl ?_
       refine s_set (D := FDx) (B := B) hF on53 rfl (by rw [toNat_c, List.length_set, vls_length]; omega) rfl rfl hO (by decide) hS.inv ?_; intro w' hm hI' ho'
       replace hf := hf.mb hm
       replace hkf := hkf.mb hm (fun e => hgpf (Option.some.inj e))
       replace hka := hka.mb hm (fun e => hgpa (Option.some.inj e))
       replace hbt := hbt.mb hm (hbt.ne_own hO (by decide))
       replace hW := hW.mbo hm hO (by decide)
       replace hbc := hbc.mb hm (hbc.ne_own hO (by decide))
       replace hS := hS.mb hm (fun k e => ⟨(hO.lt k e).1, hO.isrow k e⟩)
       replace hO := ho'
       clear hm hI' ho'
       clear hSS
       have hSS : (fun (w2 : World) => w2.cell? ⟨pa, 0, none⟩ = some (.slice (some ⟨g, 0, none⟩) n cap) ∧ w2.cell? ⟨pt, 0, none⟩ = some (.int .i64 (t : Int))) _ := And.intro hka.c hbt.at
       refine WL_nil ⟨hSS, ?_⟩
       refine b_done (by kernel_rfl) (hK _ _ ?_)
       clear hK K
       replace hF := hF.sub _ (c_ 10 rfl (c_ 9 rfl (c_ 3 rfl (c_ 4 rfl (c_ 7 rfl (c_ 8 rfl (c_ 18 rfl (c_ 19 rfl (n_)))))))))
       exact ⟨hF.sub _ (c_ 3 rfl (c_ 4 rfl (c_ 7 rfl (c_ 8 rfl (c_ 18 rfl (c_ 19 rfl (c_ 9 rfl (c_ 10 rfl (n_))))))))), hS, hf, hkf, hka, hbt, hbc, hO.cast (by rw [toNat_c, toNat_c, Nat.zero_add, Nat.zero_add]; exact vls_sw ht hkn), hW.sw ht hkn⟩
      ·
       skip
       refine sv hF (v_load sc53 rfl (by rw [toNat_c]; exact (hO.kc (by decide) (vls_at ht)).c)) rfl ?_; clear hF a; intro a hF
       refine WL_nil ⟨hSS, ?_⟩
       refine b_e (i := 7) (by kernel_rfl) rfl ?_
       refine sv hF (v_load sc53 rfl (by rw [toNat_c]; exact (hO.kc (by decide) (vls_at hkn)).c)) rfl ?_; clear hF a; intro a hF
       refine WL_nil ⟨hSS, ?_⟩
       refine b_v (i := 12) rfl (by kernel_rfl) hF (fun w2 hx => v_ixS sl36 rfl rfl (by omega) (by omega)) rfl hSS ?_; clear hF a; intro a hF
       refine b_e (i := 13) (by kernel_rfl) rfl ?_
       refine s_set (D := FDx) (B := B) hF on53 rfl (by rw [toNat_c, vls_length]; omega) rfl rfl hO (by decide) hS.inv ?_; intro w' hm hI' ho'
       replace hf := hf.mb hm
       replace hkf := hkf.mb hm (fun e => hgpf (Option.some.inj e))
       replace hka := hka.mb hm (fun e => hgpa (Option.some.inj e))
       replace hbt := hbt.mb hm (hbt.ne_own hO (by decide))
       replace hW := hW.mbo hm hO (by decide)
       replace hbc := hbc.mb hm (hbc.ne_own hO (by decide))
       replace hS := hS.mb hm (fun k e => ⟨(hO.lt k e).1, hO.isrow k e⟩)
       replace hO := ho'
       clear hm hI' ho'
       clear hSS
       have hSS : (fun (w2 : World) => w2.cell? ⟨pa, 0, none⟩ = some (.slice (some ⟨g, 0, none⟩) n cap) ∧ w2.cell? ⟨pt, 0, none⟩ = some (.int .i64 (t : Int))) _ := And.intro hka.c hbt.at
       refine WL_nil ⟨hSS, ?_⟩
       refine b_v (i := 14) rfl (by kernel_rfl) hF (fun w2 hx => v_ixS sl36 rfl rfl (by omega) (by omega)) rfl hSS ?_; clear hF a; intro a hF
       refine b_e (i := 15) (by kernel_rfl) rfl ?_
       refine s_set (D := FDx) (B := B) hF on53 rfl (by rw [toNat_c, List.length_set, vls_length]; omega) rfl rfl hO (by decide) hS.inv ?_; intro w' hm hI' ho'
       replace hf := hf.mb hm
       replace hkf := hkf.mb hm (fun e => hgpf (Option.some.inj e))
       replace hka := hka.mb hm (fun e => hgpa (Option.some.inj e))
       replace hbt := hbt.mb hm (hbt.ne_own hO (by decide))
       replace hW := hW.mbo hm hO (by decide)
       replace hbc := hbc.mb hm (hbc.ne_own hO (by decide))
       replace hS := hS.mb hm (fun k e => ⟨(hO.lt k e).1, hO.isrow k e⟩)
       replace hO := ho'
       clear hm hI' ho'
       clear hSS
       have hSS : (fun (w2 : World) => w2.cell? ⟨pa, 0, none⟩ = some (.slice (some ⟨g, 0, none⟩) n cap) ∧ w2.cell? ⟨pt, 0, none⟩ = some (.int .i64 (t : Int))) _ := And.intro hka.c hbt.at
       refine WL_nil ⟨hSS, ?_⟩
       refine b_done (by kernel_rfl) (hK _ _ ?_)
       clear hK K
       replace hF := hF.sub _ (c_ 10 rfl (c_ 9 rfl (c_ 3 rfl (c_ 4 rfl (c_ 7 rfl (c_ 8 rfl (c_ 18 rfl (c_ 19 rfl (n_)))))))))
       exact ⟨hF.sub _ (c_ 3 rfl (c_ 4 rfl (c_ 7 rfl (c_ 8 rfl (c_ 18 rfl (c_ 19 rfl (c_ 9 rfl (c_ 10 rfl (n_))))))))), hS, hf, hkf, hka, hbt, hbc, hO.cast (by rw [toNat_c, toNat_c, Nat.zero_add, Nat.zero_add]; exact vls_sw ht hkn), hW.sw ht hkn⟩
     ·
      skip
      clear hF
      clear hS hf hkf hka hbt hbc hO hW
      rintro a w1 ⟨hF, hS, hf, hkf, hka, hbt, hbc, hO, hW⟩
      refine W_sd (m := 14) rfl hmix hS.inv (fun K hK w1 hS' hh => ?_)
      replace hf := hf.st hS'
      replace hkf := hkf.st hS'
      replace hka := hka.st hS'
      replace hbt := hbt.st hS'
      replace hO := hO.st (by decide) hS'
      replace hW := hW.st hS'
      replace hbc := hbc.st hS'
      replace hS := hS.trans hS'
      clear hS'
      clear hh
      refine a_v (i := 0) rfl (by kernel_rfl) hF (fun w2 hx => v_load sc42 rfl (hkf.ld hx)) rfl ?_; clear hF a; intro a hF
      refine a_v (i := 1) rfl (by kernel_rfl) hF (fun w2 hx => v_load sc36 rfl (hka.ld hx)) rfl ?_; clear hF a; intro a hF
      refine a_v (i := 2) rfl (by kernel_rfl) hF (fun w2 hx => v_load sc3 rfl (hbt.kc.ld hx)) rfl ?_; clear hF a; intro a hF
      refine a_v (i := 3) rfl (by kernel_rfl) hF (fun w2 hx => v_ixS sl36 rfl rfl (by omega) (by omega)) rfl ?_; clear hF a; intro a hF
      refine a_v (i := 4) rfl (by kernel_rfl) hF (fun w2 hx => v_load sc53 rfl (by rw [toNat_c]; exact (hO.kc (by decide) (vls_at ht)).ld hx)) rfl ?_; clear hF a; intro a hF
      rw [hswt] at hF
      refine a_v (i := 5) rfl (by kernel_rfl) hF (fun w2 hx => v_load sc3 rfl (hbc.kc.ld hx)) rfl ?_; clear hF a; intro a hF
      refine a_v (i := 6) rfl (by kernel_rfl) hF (fun w2 hx => v_ixS sl53 rfl rfl (by omega) (by omega)) rfl ?_; clear hF a; intro a hF
      have hrk := hW.rd ht hcl
      rw [hswt] at hrk
      refine a_v (i := 7) rfl (by kernel_rfl) hF (fun w2 hx => v_load sc3 rfl (by rw [toNat_c]; exact hrk.ld hx)) rfl ?_; clear hF a; intro a hF
      refine a_e (i := 8) rfl (by kernel_rfl) ?_
      refine sc hF rfl rfl rfl en49 rfl (Inv_gf B (some (wb, p)) fv ((f1 k c : Nat) : Int) _ hS.inv hf) ?_; clear hF a; intro v w' a hv hF
      obtain ⟨rfl, hS'⟩ := hv
      refine WL_nil ⟨hS'.ext, ?_⟩
      replace hf := hf.st hS'
      replace hkf := hkf.st hS'
      replace hka := hka.st hS'
      replace hbt := hbt.st hS'
      replace hO := hO.st (by decide) hS'
      replace hW := hW.st hS'
      replace hbc := hbc.st hS'
      replace hS := hS.trans hS'
      clear hS'
      clear hrk
      have hkb := hb1 k c
      rw [hfw] at hkb
      rw [ginv_fld hp hkb hk0] at hF
      refine a_v (i := 9) rfl (by kernel_rfl) hF (fun w2 hx => v_move rfl) rfl ?_; clear hF a; intro a hF
      refine a_v (i := 10) rfl (by kernel_rfl) hF (fun w2 hx => v_ext rfl rfl) rfl ?_; clear hF a; intro a hF
      refine a_v (i := 11) rfl (by kernel_rfl) hF (fun w2 hx => v_ext rfl rfl) rfl ?_; clear hF a; intro a hF
      refine a_v (i := 12) rfl (by kernel_rfl) hF (fun w2 hx => v_assign rfl) rfl ?_; clear hF a; intro a hF
      refine a_v (i := 13) rfl (by kernel_rfl) hF (fun w2 hx => v_assign rfl) rfl ?_; clear hF a; intro a hF
      refine a_done (by kernel_rfl) (hK _ _ ?_)
      clear hK K
      replace hF := hF.sub _ (c_ 11 rfl (c_ 3 rfl (c_ 4 rfl (c_ 7 rfl (c_ 8 rfl (c_ 18 rfl (c_ 19 rfl (c_ 9 rfl (n_)))))))))
      refine W_seq ?_
      refine W_sr rfl fun K hK => ?_
      refine sv3 hF (v_load sc36 rfl (hka.c)) (v_load sc3 rfl (hbt.at)) (v_ixS sl36 rfl rfl (by omega) (by omega)) rfl rfl rfl ?_; clear hF a; intro a hF
      refine sv hF (v_load sc53 rfl (by rw [toNat_c]; exact (hO.kc (by decide) (vls_at ht)).c)) rfl ?_; clear hF a; intro a hF
      rw [hswt] at hF
      refine sv2w hK hF (v_lenS rfl sl53 rfl) (v_move rfl) rfl rfl ?_; clear hF a hK K; intro a hF
      replace hF := hF.sub _ (c_ 67 rfl (c_ 66 rfl (c_ 65 rfl (c_ 11 rfl (c_ 3 rfl (c_ 4 rfl (c_ 7 rfl (c_ 8 rfl (c_ 18 rfl (c_ 19 rfl (c_ 9 rfl (n_))))))))))))
      refine W_block ?_
      refine W_loop (fun q2 a w3 => ∃ (j : Nat), Fr 102 [(3, .pointer (some ⟨pf, 0, none⟩)), (4, .pointer (some ⟨pa, 0, none⟩)), (7, .pointer (some ⟨pt, 0, none⟩)), (8, .func (.func 77) ([] : List Value).toArray ([.pointer (some ⟨pf, 0, none⟩), .pointer (some ⟨pa, 0, none⟩), .pointer (some ⟨pt, 0, none⟩)] : List Value).toArray), (18, .int .i64 (cols : Int)), (19, .int .i64 (c : Int)), (9, .pointer (some ⟨pc, 0, none⟩)), (11, .int .i64 ((hp.fld.inv (f1 k c) : Nat) : Int)), (65, .slice (some ⟨bs k, 0, none⟩) m (rc k)), (66, .int .i64 (m : Int)), (67, .int .i64 (j : Int))] a ∧ (StZ FDx B (fun k => N ≤ k) w w3) ∧ (Fo FDx B w3 fv (some (wb, p))) ∧ (KC FDx B w3 ⟨pf, 0, none⟩ (fv)) ∧ (KC FDx B w3 ⟨pa, 0, none⟩ (.slice (some ⟨g, 0, none⟩) n cap)) ∧ (Box FDx B pt w3 pt 3 (.int .i64 (t : Int))) ∧ (Box FDx B pc w3 pc 3 (.int .i64 (c : Int))) ∧ (Gam.Own FDx B N w3 53 (.slice (some ⟨g, 0, none⟩) n cap) (some g) (vls n m (fun i => bs (Fld.sw t k i)) (fun i => rc (Fld.sw t k i)))) ∧ (Wr FDx B N KM w3 n m (fun i => bs (Fld.sw t k i)) (fun i => rc (Fld.sw t k i)) (hp.fld.sclF t (hp.fld.inv (f1 k c)) j (fun i j => f1 (Fld.sw t k i) j))) ∧ (j ≤ m) ∧ (q2 + j = m)) (m) ?_ ?_
      ·
       skip
       exact ⟨0, hF.sub _ (c_ 3 rfl (c_ 4 rfl (c_ 7 rfl (c_ 8 rfl (c_ 18 rfl (c_ 19 rfl (c_ 9 rfl (c_ 11 rfl (c_ 65 rfl (c_ 66 rfl (c_ 67 rfl (n_)))))))))))), hS, hf, hkf, hka, hbt, hbc, hO, hW.congr (fun a _ l _ => by unfold Fld.sclF; rw [if_neg (by omega)]), by omega, by omega⟩
      ·
       skip
       clear hF
       clear hS hf hkf hka hbt hbc hO hW
       rintro q2 a w3 ⟨j, hF, hS, hf, hkf, hka, hbt, hbc, hO, hW, hj, hq2⟩
       refine W_sr rfl fun K hK => ?_
       refine svw hK hF (v_lss rfl rfl) rfl ?_; clear hF a hK K; intro a hF
       refine W_seq ?_
       refine W_if hF rfl (fun hc4 => ?_) (fun hc4 => ?_)
       ·
        skip
        try simp only [dcl] at hc4
        have hlt : j < m := by omega
        have hrk := hW.rd ht hlt
        rw [hswt] at hrk
        have hbs := hp.fld.sclF_bd (t := t) (s := hp.fld.inv (f1 k c)) (J := j) (f := fun i j => f1 (Fld.sw t k i) j) (fun a b => hb1 _ b)
        have hbj := hbs t j
        have hbi := hp.fld.inv_lt (f1 k c)
        have hbm := hp.fld.lt (((hp.fld.sclF t (hp.fld.inv (f1 k c)) j (fun i j => f1 (Fld.sw t k i) j)) t j)) (hp.fld.inv (f1 k c))
        rw [hfw] at hbj hbi hbm
        refine W_skip ?_
        refine W_seq ?_
        refine W_block ?_
        refine W_sr rfl fun K hK => ?_
        refine sv2 hF (v_move rfl) (v_ixS sl53 rfl rfl (by omega) (by omega)) rfl rfl ?_; clear hF a; intro a hF
        refine sv hF (v_load sc3 rfl (by rw [toNat_c]; exact hrk.c)) rfl ?_; clear hF a; intro a hF
        refine sv2w hK hF (v_assign rfl) (v_assign rfl) rfl rfl ?_; clear hF a hK K; intro a hF
        replace hF := hF.sub _ (c_ 14 rfl (c_ 13 rfl (c_ 3 rfl (c_ 4 rfl (c_ 7 rfl (c_ 8 rfl (c_ 18 rfl (c_ 19 rfl (c_ 9 rfl (c_ 11 rfl (c_ 65 rfl (c_ 66 rfl (c_ 67 rfl (n_))))))))))))))
        clear hrk
        have hct := (hO.kc (by decide) (vls_at ht)).c
        rw [hswt] at hct
        refine W_dS (fun (w2 : World) => w2.cell? ⟨pf, 0, none⟩ = some (fv) ∧ w2.cell? ⟨pa, 0, none⟩ = some (.slice (some ⟨g, 0, none⟩) n cap) ∧ w2.cell? ⟨pt, 0, none⟩ = some (.int .i64 (t : Int)) ∧ w2.cell? ⟨g, 0 + t, none⟩ = some (.slice (some ⟨bs k, 0, none⟩) m (rc k))) (m := 11) rfl hmix (fun K hK => ?_)
        have hS' := St.drew hS.inv
        replace hf := hf.st hS'
        replace hkf := hkf.st hS'
        replace hka := hka.st hS'
        replace hbt := hbt.st hS'
        replace hO := hO.st (by decide) hS'
        replace hW := hW.st hS'
        replace hbc := hbc.st hS'
        replace hS := hS.trans hS'
        clear hS'
        have hSS : (fun (w2 : World) => w2.cell? ⟨pf, 0, none⟩ = some (fv) ∧ w2.cell? ⟨pa, 0, none⟩ = some (.slice (some ⟨g, 0, none⟩) n cap) ∧ w2.cell? ⟨pt, 0, none⟩ = some (.int .i64 (t : Int)) ∧ w2.cell? ⟨g, 0 + t, none⟩ = some (.slice (some ⟨bs k, 0, none⟩) m (rc k))) _ := And.intro hkf.c (And.intro hka.c (And.intro hbt.at hct))
        refine b_v (i := 0) rfl (by kernel_rfl) hF (fun w2 hx => v_load sc36 rfl (hx.2.1)) rfl hSS ?_; clear hF a; intro a hF
        refine b_v (i := 1) rfl (by kernel_rfl) hF (fun w2 hx => v_load sc3 rfl (hx.2.2.1)) rfl hSS ?_; clear hF a; intro a hF
        refine b_v (i := 2) rfl (by kernel_rfl) hF (fun w2 hx => v_ixS sl36 rfl rfl (by omega) (by omega)) rfl hSS ?_; clear hF a; intro a hF
        refine b_v (i := 3) rfl (by kernel_rfl) hF (fun w2 hx => v_load sc53 rfl (by rw [toNat_c]; exact hx.2.2.2)) rfl hSS ?_; clear hF a; intro a hF
        refine b_v (i := 4) rfl (by kernel_rfl) hF (fun w2 hx => v_move rfl) rfl hSS ?_; clear hF a; intro a hF
        refine b_v (i := 5) rfl (by kernel_rfl) hF (fun w2 hx => v_load sc42 rfl (hx.1)) rfl hSS ?_; clear hF a; intro a hF
        refine b_v (i := 6) rfl (by kernel_rfl) hF (fun w2 hx => v_move rfl) rfl hSS ?_; clear hF a; intro a hF
        refine b_v (i := 7) rfl (by kernel_rfl) hF (fun w2 hx => v_move rfl) rfl hSS ?_; clear hF a; intro a hF
        refine b_e (i := 8) (by kernel_rfl) rfl ?_
        refine sc hF rfl rfl rfl en51 rfl (Mul_gf B (some (wb, p)) fv (((hp.fld.sclF t (hp.fld.inv (f1 k c)) j (fun i j => f1 (Fld.sw t k i) j)) t j : Nat) : Int) ((hp.fld.inv (f1 k c) : Nat) : Int) _ hS.inv hf) ?_; clear hF a; intro v w' a hv hF
        obtain ⟨rfl, hS'⟩ := hv
        replace hf := hf.st hS'
        replace hkf := hkf.st hS'
        replace hka := hka.st hS'
        replace hbt := hbt.st hS'
        replace hO := hO.st (by decide) hS'
        replace hW := hW.st hS'
        replace hbc := hbc.st hS'
        replace hS := hS.trans hS'
        clear hS'
        rw [gmul_num hp hbj hbi] at hF
        clear hSS
        replace hct := (hO.kc (by decide) (vls_at ht)).c
        rw [hswt] at hct
        have hSS : (fun (w2 : World) => w2.cell? ⟨pf, 0, none⟩ = some (fv) ∧ w2.cell? ⟨pa, 0, none⟩ = some (.slice (some ⟨g, 0, none⟩) n cap) ∧ w2.cell? ⟨pt, 0, none⟩ = some (.int .i64 (t : Int)) ∧ w2.cell? ⟨g, 0 + t, none⟩ = some (.slice (some ⟨bs k, 0, none⟩) m (rc k))) _ := And.intro hkf.c (And.intro hka.c (And.intro hbt.at hct))
        refine WL_nil ⟨hSS, ?_⟩
        refine b_v (i := 9) rfl (by kernel_rfl) hF (fun w2 hx => v_ixS sl53 rfl rfl (by omega) (by omega)) rfl hSS ?_; clear hF a; intro a hF
        refine b_e (i := 10) (by kernel_rfl) rfl ?_
        have hR0 := hW.row t ht
        have hR0s := hW.ge ht
        rw [hswt] at hR0 hR0s
        refine s_set (D := FDx) (B := B) hF on3 rfl (by rw [toNat_c, zints_length, trow_length]; omega) rfl rfl hR0 (by decide) hS.inv ?_; intro w' hm hI' ho'
        replace hf := hf.mb hm
        replace hkf := hkf.mb hm ((hswt ▸ hW.ne ht hKpf : some (bs k) ≠ some pf))
        replace hka := hka.mb hm ((hswt ▸ hW.ne ht hKpa : some (bs k) ≠ some pa))
        replace hbt := hbt.mb hm ((hswt ▸ hW.ne ht hKpt : some (bs k) ≠ some pt))
        replace hO := hO.mb hm (hO.ne_type hR0 (by decide))
        replace hW := hW.set (g := hp.fld.sclF t (hp.fld.inv (f1 k c)) (j + 1) (fun i j => f1 (Fld.sw t k i) j)) ht (by rw [hswt]; exact hm) (by rw [hswt]; exact ho'.cast (by rw [toNat_c, Nat.zero_add, zints_set, trow_set (g := hp.fld.sclF t (hp.fld.inv (f1 k c)) (j + 1) (fun i j => f1 (Fld.sw t k i) j))]; intro l hl; exact Fld.sclF_at _ l)) (fun a ha hai l hl => by unfold Fld.sclF; rw [if_neg (by omega), if_neg (by omega)])
        replace hbc := hbc.mb hm ((hswt ▸ hW.ne ht hKpc : some (bs k) ≠ some pc))
        replace hS := hS.mb hm (fun k e => ⟨by cases e; exact hR0s.1, hR0.isrow k e⟩)
        replace hR0 := ho'
        clear hm hI' ho'
        clear hR0 hR0s hct
        clear hSS
        replace hct := (hO.kc (by decide) (vls_at ht)).c
        rw [hswt] at hct
        have hSS : (fun (w2 : World) => w2.cell? ⟨pf, 0, none⟩ = some (fv) ∧ w2.cell? ⟨pa, 0, none⟩ = some (.slice (some ⟨g, 0, none⟩) n cap) ∧ w2.cell? ⟨pt, 0, none⟩ = some (.int .i64 (t : Int)) ∧ w2.cell? ⟨g, 0 + t, none⟩ = some (.slice (some ⟨bs k, 0, none⟩) m (rc k))) _ := And.intro hkf.c (And.intro hka.c (And.intro hbt.at hct))
        refine WL_nil ⟨hSS, ?_⟩
        refine b_done (by kernel_rfl) (hK _ _ ?_)
        clear hK K
        replace hF := hF.sub _ (c_ 3 rfl (c_ 4 rfl (c_ 7 rfl (c_ 8 rfl (c_ 18 rfl (c_ 19 rfl (c_ 9 rfl (c_ 11 rfl (c_ 65 rfl (c_ 66 rfl (c_ 67 rfl (n_))))))))))))
        refine W_reg rfl fun K hK => ?_
        refine sv2w hK hF (v_addI rfl rfl (by omega)) (v_move rfl) rfl rfl ?_; clear hF a hK K; intro a hF
        exact ⟨q2 - 1, by omega, j + 1, hF.sub _ (c_ 3 rfl (c_ 4 rfl (c_ 7 rfl (c_ 8 rfl (c_ 18 rfl (c_ 19 rfl (c_ 9 rfl (c_ 11 rfl (c_ 65 rfl (c_ 66 rfl (c_ 67 rfl (n_)))))))))))), hS, hf, hkf, hka, hbt, hbc, hO, hW, by omega, by omega⟩
       ·
        skip
        try simp only [dcl] at hc4
        have hjm : j = m := by omega
        rw [hjm] at hW
        refine W_exit rfl ?_
        refine W_seq ?_
        refine W_sr rfl fun K hK => ?_
        refine sv3w hK hF (v_load sc36 rfl (hka.c)) (v_lenS rfl sl36 rfl) (v_move rfl) rfl rfl rfl ?_; clear hF a hK K; intro a hF
        replace hF := hF.sub _ (c_ 85 rfl (c_ 84 rfl (c_ 83 rfl (c_ 3 rfl (c_ 4 rfl (c_ 7 rfl (c_ 8 rfl (c_ 18 rfl (c_ 19 rfl (c_ 9 rfl (c_ 11 rfl (c_ 65 rfl (c_ 66 rfl (c_ 67 rfl (n_)))))))))))))))
        refine W_block ?_
        refine W_loop (fun q3 a w4 => ∃ (i : Nat), Fr 102 [(3, .pointer (some ⟨pf, 0, none⟩)), (4, .pointer (some ⟨pa, 0, none⟩)), (7, .pointer (some ⟨pt, 0, none⟩)), (8, .func (.func 77) ([] : List Value).toArray ([.pointer (some ⟨pf, 0, none⟩), .pointer (some ⟨pa, 0, none⟩), .pointer (some ⟨pt, 0, none⟩)] : List Value).toArray), (18, .int .i64 (cols : Int)), (19, .int .i64 (c : Int)), (9, .pointer (some ⟨pc, 0, none⟩)), (83, .slice (some ⟨g, 0, none⟩) n cap), (84, .int .i64 (n : Int)), (85, .int .i64 (i : Int))] a ∧ (StZ FDx B (fun k => N ≤ k) w w4) ∧ (Fo FDx B w4 fv (some (wb, p))) ∧ (KC FDx B w4 ⟨pf, 0, none⟩ (fv)) ∧ (KC FDx B w4 ⟨pa, 0, none⟩ (.slice (some ⟨g, 0, none⟩) n cap)) ∧ (Box FDx B pt w4 pt 3 (.int .i64 (t : Int))) ∧ (Box FDx B pc w4 pc 3 (.int .i64 (c : Int))) ∧ (Gam.Own FDx B N w4 53 (.slice (some ⟨g, 0, none⟩) n cap) (some g) (vls n m (fun i => bs (Fld.sw t k i)) (fun i => rc (Fld.sw t k i)))) ∧ (Wr FDx B N KM w4 n m (fun i => bs (Fld.sw t k i)) (fun i => rc (Fld.sw t k i)) (hp.fld.cleF t c i (hp.fld.sclF t (hp.fld.inv (f1 k c)) m (fun i j => f1 (Fld.sw t k i) j)))) ∧ (i ≤ n) ∧ (q3 + i = n)) (n) ?_ ?_
        ·
         skip
         exact ⟨0, hF.sub _ (c_ 3 rfl (c_ 4 rfl (c_ 7 rfl (c_ 8 rfl (c_ 18 rfl (c_ 19 rfl (c_ 9 rfl (c_ 83 rfl (c_ 84 rfl (c_ 85 rfl (n_))))))))))), hS, hf, hkf, hka, hbt, hbc, hO, hW.congr (fun a _ l _ => by unfold Fld.cleF; rw [if_neg (by omega)]), by omega, by omega⟩
        ·
         skip
         clear hF
         clear hS hf hkf hka hbt hbc hO hW
         rintro q3 a w4 ⟨i, hF, hS, hf, hkf, hka, hbt, hbc, hO, hW, hi, hq3⟩
         refine W_sr rfl fun K hK => ?_
         refine svw hK hF (v_lss rfl rfl) rfl ?_; clear hF a hK K; intro a hF
         refine W_seq ?_
         refine W_if hF rfl (fun hc5 => ?_) (fun hc5 => ?_)
         ·
          skip
          try simp only [dcl] at hc5
          have hlt : i < n := by omega
          refine W_skip ?_
          refine W_seq ?_
          refine W_block ?_
          refine W_sr rfl fun K hK => ?_
          refine sv2 hF (v_move rfl) (v_ixS sl36 rfl rfl (by omega) (by omega)) rfl rfl ?_; clear hF a; intro a hF
          refine sv hF (v_load sc53 rfl (by rw [toNat_c]; exact (hO.kc (by decide) (vls_at hlt)).c)) rfl ?_; clear hF a; intro a hF
          refine sv2w hK hF (v_assign rfl) (v_assign rfl) rfl rfl ?_; clear hF a hK K; intro a hF
          refine W_sr rfl fun K hK => ?_
          refine sv3w hK hF (v_move rfl) (v_load sc3 rfl (hbt.at)) (v_neq rfl rfl) rfl rfl rfl ?_; clear hF a hK K; intro a hF
          refine W_if hF rfl (fun hc6 => ?_) (fun hc6 => ?_)
          ·
           skip
           try simp only [dcl] at hc6
           have hbd4 : hp.fld.Bd (hp.fld.cleF t c i (hp.fld.sclF t (hp.fld.inv (f1 k c)) m (fun i j => f1 (Fld.sw t k i) j))) := hp.fld.cleF_bd (hp.fld.sclF_bd (fun a b => hb1 _ b))
           have hit : i ≠ t := by omega
           refine W_reg rfl fun K hK => ?_
           refine sv3 hF (v_move rfl) (v_move rfl) (v_load sc3 rfl (hbc.at)) rfl rfl rfl ?_; clear hF a; intro a hF
           refine sc hF rfl rfl rfl en77 rfl (clear_ok B N KM wb p hp fv pf pa pt g cap n m (fun i => bs (Fld.sw t k i)) (fun i => rc (Fld.sw t k i)) (hp.fld.cleF t c i (hp.fld.sclF t (hp.fld.inv (f1 k c)) m (fun i j => f1 (Fld.sw t k i) j))) i t c _ hS.inv hf hkf hka hbt.kc ⟨hKpf, hKpa, hKpt⟩ hO hW hbd4 hlt ht hit hcl hnm) ?_; clear hF a; intro v w' a hv hF
           obtain ⟨-, hO', hW', hz⟩ := hv
           have hni := hW.ge hlt
           replace hkf := hkf.stz hz (fun e => hW.ne hlt hKpf (congrArg some e.symm))
           replace hka := hka.stz hz (fun e => hW.ne hlt hKpa (congrArg some e.symm))
           replace hbt := hbt.stz hz (fun e => hW.ne hlt hKpt (congrArg some e.symm))
           replace hbc := hbc.stz hz (fun e => hW.ne hlt hKpc (congrArg some e.symm))
           replace hf := hf.stz hz
           replace hS := hS.transZ (hz.weak (fun k e => by subst e; exact hni.1))
           replace hO := hO'
           replace hW := hW'.congr (fun a ha l hl => hp.fld.cleF_step (m := m) hcl (by omega) a l hl)
           clear hO' hW' hz hni
           refine wn hK ?_
           clear hK K
           replace hF := hF.sub _ (c_ 95 rfl (c_ 94 rfl (c_ 93 rfl (c_ 92 rfl (c_ 91 rfl (c_ 90 rfl (c_ 16 rfl (c_ 15 rfl (c_ 89 rfl (c_ 88 rfl (c_ 87 rfl (c_ 86 rfl (c_ 3 rfl (c_ 4 rfl (c_ 7 rfl (c_ 8 rfl (c_ 18 rfl (c_ 19 rfl (c_ 9 rfl (c_ 83 rfl (c_ 84 rfl (c_ 85 rfl (n_)))))))))))))))))))))))
           refine W_reg rfl fun K hK => ?_
           refine sv2w hK hF (v_addI rfl rfl (by omega)) (v_move rfl) rfl rfl ?_; clear hF a hK K; intro a hF
           exact ⟨q3 - 1, by omega, i + 1, hF.sub _ (c_ 3 rfl (c_ 4 rfl (c_ 7 rfl (c_ 8 rfl (c_ 18 rfl (c_ 19 rfl (c_ 9 rfl (c_ 83 rfl (c_ 84 rfl (c_ 85 rfl (n_))))))))))), hS, hf, hkf, hka, hbt, hbc, hO, hW, by omega, by omega⟩
          ·
           skip
           try simp only [dcl] at hc6
           obtain rfl : i = t := by omega
           replace hW := hW.congr (fun a _ l _ => hp.fld.cleF_skip a l)
           refine W_skip ?_
           refine W_reg rfl fun K hK => ?_
           refine sv2w hK hF (v_addI rfl rfl (by omega)) (v_move rfl) rfl rfl ?_; clear hF a hK K; intro a hF
           exact ⟨q3 - 1, by omega, i + 1, hF.sub _ (c_ 3 rfl (c_ 4 rfl (c_ 7 rfl (c_ 8 rfl (c_ 18 rfl (c_ 19 rfl (c_ 9 rfl (c_ 83 rfl (c_ 84 rfl (c_ 85 rfl (n_))))))))))), hS, hf, hkf, hka, hbt, hbc, hO, hW, by omega, by omega⟩
         ·
          skip
          try simp only [dcl] at hc5
          obtain rfl : i = n := by omega
          have hrd := hp.fld.red_some hf1.symm ht1.symm hpk
          have hrd2 : (hp.fld.red i f (c + 1)).2 = t + 1 := by rw [hrd]
          replace hW := hW.congr (g := (hp.fld.red i f (c + 1)).1) (fun a ha l hl => by rw [hrd]; exact hp.fld.op_eq hcl a ha l hl)
          refine W_exit rfl ?_
          refine W_reg rfl fun K hK => ?_
          refine sv2 hF (v_load sc3 rfl (hbt.at)) (v_addI rfl rfl (by omega)) rfl rfl ?_; clear hF a; intro a hF
          refine s_stb (D := FDx) (B := B) hF on3 rfl rfl (rfl) hbt hS.inv ?_; intro w' hm hI' hbx'
          replace hf := hf.mb hm
          replace hkf := hkf.mb hm (by simp; omega)
          replace hka := hka.mb hm (by simp; omega)
          replace hO := hO.mb hm (fun k e e2 => by cases e; cases e2; exact absurd hgK (by omega))
          replace hW := hW.mbx hm (fun k e => by cases e; omega)
          replace hS := hS.mb hm (fun k h => by cases h; exact ⟨by omega, _, _, _, hbt.blk⟩)
          replace hbt := hbx'
          clear hm hI' hbx'
          rw [show ((t : Int) + 1) = (((hp.fld.red i f (c + 1)).2 : Nat) : Int) by rw [hrd2]; omega] at hbt
          clear hbc
          refine wn hK ?_
          clear hK K
          refine W_reg rfl fun K hK => ?_
          refine sv2w hK hF (v_addI rfl rfl (by omega)) (v_move rfl) rfl rfl ?_; clear hF a hK K; intro a hF
          exact ⟨q - 1, by omega, c + 1, _, _, hF.sub _ (c_ 3 rfl (c_ 4 rfl (c_ 7 rfl (c_ 8 rfl (c_ 18 rfl (c_ 19 rfl (n_))))))), hS, hf, hkf, hka, hbt, hO, hW, by omega, by omega⟩
  ·
   skip
   try simp only [dcl] at hc1
   refine W_exit rfl ?_
   refine W_sr rfl fun K hK => ?_
   refine sv hF (v_load sc3 rfl (by first | assumption | (rw [toNat_c]; assumption) | exact KC.c (by assumption) | (rw [toNat_c]; exact KC.c (by assumption)) | exact Box.at (by assumption))) rfl ?_; clear hF a; intro a hF
   refine svw hK hF (v_assign rfl) rfl ?_; clear hF a hK K; intro a hF
   replace hF := hF.sub _ (c_ 6 rfl (c_ 101 rfl (c_ 3 rfl (c_ 4 rfl (c_ 7 rfl (c_ 8 rfl (c_ 18 rfl (c_ 19 rfl (n_)))))))))
   refine W_ret ?_
   refine ⟨_, _, hF, rfl, ?_⟩
   obtain rfl : c = cols := by omega
   exact ⟨rfl, ⟨bs, rc, hO, by rw [← hKM]; exact hW⟩, hS⟩
end Go.Proofs.YtkoiolamnnmokaaGreat

/- The walks of package matrix: the identity; rows picked, joined. -/
namespace Go.Proofs.YtkoiolamnnmokaaGreat
open Go Go.Gam
namespace FxFMatB
theorem en38 : Ent Tryz.prog 38 := ent Tryz.func38 (by kernel_rfl) (by kernel_rfl)
theorem on3 : Gam.One Tryz.prog 3 := by unfold Gam.One; kernel_rfl
theorem sl36 : Sl Tryz.prog 36 53 (.slice none 0 0) 24 := sl_of Tryz.underlying36 rfl (by kernel_rfl)
theorem sl53 : Sl Tryz.prog 53 3 (.int .i64 0) 8 := sl_of Tryz.underlying53 rfl (by kernel_rfl)
end FxFMatB
open FxFMatB
set_option maxRecDepth 100000 in
set_option maxHeartbeats 1000000 in
theorem Clone_ok (B M : Nat) (pxs : Option Addr) (cxs : Nat) (xs : List Int) (w : World) (hI : Inv FDx B w) (hx : Row FDx B M w (.slice pxs xs.length cxs) (zints xs)) (hM : M ≤ w.heap.size) (hl : xs.length ≤ 1000000) : Ret Tryz.prog 40 [.slice pxs xs.length cxs] w fun v w' => ∃ ob, Gam.Own FDx B w.heap.size w' FDx.E v ob (zints (xs)) ∧ St FDx B w w' := by
 refine enter 8 [(0, .slice pxs xs.length cxs)] 2 Tryz.func40 rfl rfl rfl rfl rfl ?_; intro a hF
 have hS := St.refl hI
 refine W_sr rfl fun K hK => ?_
 refine svw hK hF (v_assign rfl) rfl ?_; clear hF a hK K; intro a hF
 refine W_seq ?_
 refine W_sr rfl fun K hK => ?_
 refine sv2w hK hF (v_move rfl) (v_eqlSl (by exact Tryz.underlying53) rfl rfl) rfl rfl ?_; clear hF a hK K; intro a hF
 replace hF := hF.sub _ (c_ 4 rfl (c_ 2 rfl (c_ 0 rfl (n_))))
 refine W_if hF rfl (fun hc1 => ?_) (fun hc1 => ?_)
 ·
  skip
  try simp only [dcl] at hc1
  refine W_sr rfl fun K hK => ?_
  refine svw hK hF (v_assign rfl) rfl ?_; clear hF a hK K; intro a hF
  replace hF := hF.sub _ (c_ 2 rfl (c_ 0 rfl (n_)))
  refine W_ret ?_
  refine ⟨_, _, hF, rfl, ?_⟩
  have hn : pxs = none := by cases pxs with | none => rfl | some a => simp at hc1
  subst hn
  have he := ofz hx.nilx
  subst he
  exact ⟨none, Gam.Own.nil _ _ _ _ _, hS⟩
 ·
  skip
  try simp only [dcl] at hc1
  refine W_skip ?_
  refine W_sr rfl fun K hK => ?_
  refine s_bs (D := FDx) (B := B) hF sl53 rfl rfl (by decide) (by simp [Value.cells]) (by decide) hS.inv rfl ?_; clear hF a; intro w' a hm hI' hO hF
  replace hx := hx.mb hm (fun _ h => by cases h)
  replace hS := hS.mb0 hm
  clear hm hI'
  refine sv hF (v_move rfl) rfl ?_; clear hF a; intro a hF
  refine s_app (D := FDx) (B := B) hF rfl sl53 rfl rfl hO (hx) (by intro u hu; obtain ⟨_, _, rfl⟩ := List.mem_map.1 hu; rfl) (by simp; omega) (by simp [maxLen]; omega) (by have := hS.ext.size; omega) (by decide) hS.inv rfl ?_; clear hF a; intro v' b' w' a ho' hm hI' hb' hF
  replace hx := hx.mb hm (fun k h => Nat.le_trans (hM) (hO.lt k h).1)
  replace hS := hS.mb hm (fun k h => Nat.le_trans (Nat.le_refl _) (hO.lt k h).1)
  replace hO := ho'
  clear hm hI' ho'
  refine svw hK hF (v_assign rfl) rfl ?_; clear hF a hK K; intro a hF
  replace hF := hF.sub _ (c_ 2 rfl (n_))
  refine W_ret ?_
  refine ⟨_, _, hF, rfl, ?_⟩
  exact ⟨_, hO.cast (List.nil_append _), hS⟩
set_option maxRecDepth 100000 in
set_option maxHeartbeats 1000000 in
theorem Identity_ok (B : Nat) (n : Int) (w : World) (hI : Inv FDx B w) (hn : -9223372036854775808 ≤ n ∧ n < 9223372036854775808) : Ret Tryz.prog 43 [.int .i64 n] w fun v w' => ∃ ob, MOwn FDx B w.heap.size 0 w'.heap.size w' 53 v ob (identM n) ∧ St FDx B w w' := by
 refine enter 24 [(0, .int .i64 n)] 2 Tryz.func43 rfl rfl rfl rfl rfl ?_; intro a hF
 have hS := St.refl hI
 refine W_sr rfl fun K hK => ?_
 refine svw hK hF (v_assign rfl) rfl ?_; clear hF a hK K; intro a hF
 refine W_seq ?_
 refine W_sr rfl fun K hK => ?_
 refine sv hF (v_move rfl) rfl ?_; clear hF a; intro a hF
 refine sc hF rfl rfl rfl en38 rfl (within_ok n _) ?_; clear hF a; intro v w' a hv hF
 obtain ⟨rfl, hw⟩ := hv
 obtain rfl := hw.symm
 have hS' := St.refl hS.inv
 replace hS := hS.trans hS'
 clear hS'
 refine svw hK hF (v_not rfl) rfl ?_; clear hF a hK K; intro a hF
 replace hF := hF.sub _ (c_ 8 rfl (c_ 2 rfl (c_ 0 rfl (n_))))
 refine W_if hF rfl (fun hc1 => ?_) (fun hc1 => ?_)
 ·
  skip
  try simp only [dcl] at hc1
  refine W_sr rfl fun K hK => ?_
  refine svw hK hF (v_assign rfl) rfl ?_; clear hF a hK K; intro a hF
  replace hF := hF.sub _ (c_ 2 rfl (c_ 0 rfl (n_)))
  refine W_ret ?_
  refine ⟨_, _, hF, rfl, ?_⟩
  have he : identM n = [] := if_neg (by simpa using hc1)
  rw [he]
  exact ⟨none, MOwn.nil _ _ _ _ _ _ _ (Nat.zero_le _), hS⟩
 ·
  skip
  try simp only [dcl] at hc1
  have hn20 : 1 ≤ n ∧ n ≤ 20 := by simpa using hc1
  refine W_skip ?_
  refine W_sr rfl fun K hK => ?_
  refine svw hK hF (v_assign rfl) rfl ?_; clear hF a hK K; intro a hF
  replace hF := hF.sub _ (c_ 3 rfl (c_ 2 rfl (c_ 0 rfl (n_))))
  refine W_seq ?_
  refine W_sr rfl fun K hK => ?_
  refine sv2w hK hF (v_move rfl) (v_move rfl) rfl rfl ?_; clear hF a hK K; intro a hF
  refine W_block ?_
  refine W_loop (fun m a w1 => ∃ (i : Nat) (v3 : Value) (b3 : Option Nat), Fr 24 [(0, .int .i64 n), (3, v3), (9, .int .i64 n), (10, .int .i64 (i : Int))] a ∧ (St FDx B w w1) ∧ (MOwn FDx B w.heap.size 0 w1.heap.size w1 53 v3 b3 ((List.range i).map (unitR n.toNat))) ∧ (i ≤ n.toNat) ∧ (m + i = n.toNat)) (n.toNat) ?_ ?_
  ·
   skip
   exact ⟨0, _, none, hF.sub _ (c_ 0 rfl (c_ 3 rfl (c_ 9 rfl (c_ 10 rfl (n_))))), hS, MOwn.nil _ _ _ _ _ _ _ (Nat.zero_le _), by omega, by omega⟩
  ·
   skip
   clear hF
   clear hS
   rintro m a w1 ⟨i, v3, b3, hF, hS, hMO, hi, hm⟩
   obtain ⟨K, hKe⟩ : ∃ K, K = w1.heap.size := ⟨_, rfl⟩
   rw [← hKe] at hMO
   have hKs : K ≤ w1.heap.size := by omega
   have hNK : w.heap.size ≤ K := by have := hS.ext.size; omega
   clear hKe
   refine W_sr rfl fun K hK => ?_
   refine svw hK hF (v_lss rfl rfl) rfl ?_; clear hF a hK K; intro a hF
   refine W_seq ?_
   refine W_if hF rfl (fun hc2 => ?_) (fun hc2 => ?_)
   ·
    skip
    try simp only [dcl] at hc2
    have hlt : i < n.toNat := by omega
    refine W_skip ?_
    refine W_seq ?_
    refine W_block ?_
    refine W_sr rfl fun K hK => ?_
    refine sv2w hK hF (v_move rfl) (v_assign rfl) rfl rfl ?_; clear hF a hK K; intro a hF
    replace hF := hF.sub _ (c_ 4 rfl (c_ 0 rfl (c_ 3 rfl (c_ 9 rfl (c_ 10 rfl (n_))))))
    refine W_sr rfl fun K hK => ?_
    refine sv hF (v_move rfl) rfl ?_; clear hF a; intro a hF
    refine s_mk (D := FDx) (B := B) (m := n.toNat) hF sl53 rfl rfl (by omega) (by omega) (by simp only [maxLen]; omega) (by decide) hS.inv rfl ?_; clear hF a; intro w' a hm hI' hO hF
    replace hO := hO.le hKs
    replace hMO := hMO.mb0 hm
    replace hKs := Nat.le_trans hKs hm.size
    replace hS := hS.mb0 hm
    clear hm hI'
    replace hO := hO.cast (show List.replicate n.toNat (Value.int .i64 0) = zints (List.replicate n.toNat 0) by simp [zints])
    generalize Array.size _ = gO at hO hF
    refine svw hK hF (v_assign rfl) rfl ?_; clear hF a hK K; intro a hF
    replace hF := hF.sub _ (c_ 5 rfl (c_ 4 rfl (c_ 0 rfl (c_ 3 rfl (c_ 9 rfl (c_ 10 rfl (n_)))))))
    refine W_sr rfl fun K hK => ?_
    refine sv3 hF (v_move rfl) (v_move rfl) (v_ixS sl53 rfl rfl (by omega) (by omega)) rfl rfl rfl ?_; clear hF a; intro a hF
    refine s_set (D := FDx) (B := B) hF on3 rfl (by rw [toNat_c]; simp; omega) rfl rfl hO (by decide) hS.inv ?_; intro w' hm hI' ho'
    replace hMO := hMO.mbo hm hO (by decide) (Nat.le_refl _) (Nat.zero_le _)
    replace hKs := Nat.le_trans hKs hm.size
    replace hS := hS.mb hm (fun k h => Nat.le_trans (hNK) (hO.lt k h).1)
    replace hO := ho'
    clear hm hI' ho'
    rw [toNat_c, Nat.zero_add, zints_set, unitR_set _ _ (by omega)] at hO
    refine wn hK ?_
    clear hK K
    replace hF := hF.sub _ (c_ 5 rfl (c_ 0 rfl (c_ 3 rfl (c_ 9 rfl (c_ 10 rfl (n_))))))
    refine W_reg rfl fun K hK => ?_
    refine sv2 hF (v_move rfl) (v_move rfl) rfl rfl ?_; clear hF a; intro a hF
    skip
    refine s_bs (D := FDx) (B := B) hF sl36 rfl rfl (by decide) (by simp [Value.cells]) (by decide) hS.inv rfl ?_; clear hF a; intro w' a hm hI' hL hF
    replace hMO := hMO.mb0 hm
    replace hKs := Nat.le_trans hKs hm.size
    replace hO := hO.mb hm (fun _ _ => by simp)
    replace hS := hS.mb0 hm
    clear hm hI'
    replace hMO := hMO.up hKs
    clear hKs
    refine s_appM (D := FDx) (B := B) hF rfl sl36 rfl rfl hMO hL (.of hO (Nat.zero_le _)) rfl rfl (by simp; omega) (hS.ext.size) (by decide) (by decide) hS.inv rfl ?_; clear hF a; intro v' b' w' a ho' hm hI' hF
    replace hS := hS.mb hm (fun k h => (hMO.lt k h).1)
    have hKm := hm.size
    replace hMO := ho'
    clear hm hI' ho' hL
    refine svw hK hF (v_assign rfl) rfl ?_; clear hF a hK K; intro a hF
    replace hF := hF.sub _ (c_ 3 rfl (c_ 0 rfl (c_ 9 rfl (c_ 10 rfl (n_)))))
    refine W_reg rfl fun K hK => ?_
    refine sv2w hK hF (v_addI rfl rfl (by omega)) (v_move rfl) rfl rfl ?_; clear hF a hK K; intro a hF
    exact ⟨m - 1, by omega, i + 1, _, _, hF.sub _ (c_ 0 rfl (c_ 3 rfl (c_ 9 rfl (c_ 10 rfl (n_))))), hS, (hMO.up hKm).cast (idM_snoc _ _).symm, by omega, by omega⟩
   ·
    skip
    try simp only [dcl] at hc2
    refine W_exit rfl ?_
    refine W_sr rfl fun K hK => ?_
    refine sv2w hK hF (v_move rfl) (v_assign rfl) rfl rfl ?_; clear hF a hK K; intro a hF
    replace hF := hF.sub _ (c_ 2 rfl (c_ 23 rfl (c_ 0 rfl (c_ 3 rfl (c_ 9 rfl (c_ 10 rfl (n_)))))))
    refine W_ret ?_
    refine ⟨_, _, hF, rfl, ?_⟩
    obtain rfl : i = n.toNat := by omega
    exact ⟨_, (hMO.up hKs).cast (by unfold identM; rw [if_pos hn20, idM_eq]), hS⟩
end Go.Proofs.YtkoiolamnnmokaaGreat

/- The walks of package matrix: products. -/
namespace Go.Proofs.YtkoiolamnnmokaaGreat
open Go Go.Gam
namespace FxFMatC
theorem en51 : Ent Tryz.prog 51 := ent Tryz.func51 (by kernel_rfl) (by kernel_rfl)
theorem on3 : Gam.One Tryz.prog 3 := by unfold Gam.One; kernel_rfl
theorem sc3 : Scalar Tryz.prog 3 := ⟨_, Tryz.underlying3, by simp, by simp⟩
theorem sc36 : Scalar Tryz.prog 36 := ⟨_, Tryz.underlying36, by simp, by simp⟩
theorem sc53 : Scalar Tryz.prog 53 := ⟨_, Tryz.underlying53, by simp, by simp⟩
theorem sl36 : Sl Tryz.prog 36 53 (.slice none 0 0) 24 := sl_of Tryz.underlying36 rfl (by kernel_rfl)
theorem sl53 : Sl Tryz.prog 53 3 (.int .i64 0) 8 := sl_of Tryz.underlying53 rfl (by kernel_rfl)
end FxFMatC
open FxFMatC
set_option maxRecDepth 100000 in
set_option maxHeartbeats 1000000 in
theorem dot_ok (B M1 M2 : Nat) (o : Fq) (fv : Value) (pr : Option Addr) (cr : Nat) (r : List Int) (pc : Option Addr) (cc : Nat) (c : List Int) (w : World) (hI : Inv FDx B w) (hf : Fo FDx B w fv o) (hr : Row FDx B M1 w (.slice pr r.length cr) (zints r)) (hc : Row FDx B M2 w (.slice pc c.length cc) (zints c)) (hrc : r.length = c.length) (hl : r.length ≤ 100000) : Ret Tryz.prog 108 [fv, .slice pr r.length cr, .slice pc c.length cc] w fun v w' => v = .int .i64 (dotN o r c : Int) ∧ St FDx B w w' := by
 refine enter 28 [(0, fv), (1, .slice pr r.length cr), (2, .slice pc c.length cc)] 6 Tryz.func108 rfl rfl rfl rfl rfl ?_; intro a hF
 have hS := St.refl hI
 refine W_sr rfl fun K hK => ?_
 refine svw hK hF (v_assign rfl) rfl ?_; clear hF a hK K; intro a hF
 refine W_sr rfl fun K hK => ?_
 refine svw hK hF (v_assign rfl) rfl ?_; clear hF a hK K; intro a hF
 refine W_seq ?_
 refine W_sr rfl fun K hK => ?_
 refine sv3w hK hF (v_move rfl) (v_lenS rfl sl53 rfl) (v_move rfl) rfl rfl rfl ?_; clear hF a hK K; intro a hF
 replace hF := hF.sub _ (c_ 12 rfl (c_ 11 rfl (c_ 10 rfl (c_ 7 rfl (c_ 6 rfl (c_ 0 rfl (c_ 2 rfl (n_))))))))
 refine W_block ?_
 refine W_loop (fun m a w1 => ∃ (i : Nat), Fr 28 [(0, fv), (2, .slice pc c.length cc), (7, .int .i64 (dotP o r c i : Int)), (10, .slice pr r.length cr), (11, .int .i64 (r.length : Int)), (12, .int .i64 (i : Int))] a ∧ (St FDx B w w1) ∧ (Fo FDx B w1 fv o) ∧ (Row FDx B M1 w1 (.slice pr r.length cr) (zints r)) ∧ (Row FDx B M2 w1 (.slice pc c.length cc) (zints c)) ∧ (i ≤ r.length) ∧ (m + i = r.length)) (r.length) ?_ ?_
 ·
  skip
  exact ⟨0, hF.sub _ (c_ 0 rfl (c_ 2 rfl (c_ 7 rfl (c_ 10 rfl (c_ 11 rfl (c_ 12 rfl (n_))))))), hS, hf, hr, hc, by omega, by omega⟩
 ·
  skip
  clear hF
  clear hS hf hr hc
  rintro m a w1 ⟨i, hF, hS, hf, hr, hc, hi, hm⟩
  refine W_sr rfl fun K hK => ?_
  refine svw hK hF (v_lss rfl rfl) rfl ?_; clear hF a hK K; intro a hF
  refine W_seq ?_
  refine W_if hF rfl (fun hc1 => ?_) (fun hc1 => ?_)
  ·
   skip
   try simp only [dcl] at hc1
   have hlt : i < r.length := by omega
   obtain ⟨x, hx⟩ : ∃ z, r[i]? = some z := ⟨_, List.getElem?_eq_getElem hlt⟩
   obtain ⟨y, hy⟩ : ∃ z, c[i]? = some z := ⟨_, List.getElem?_eq_getElem (by omega)⟩
   obtain ⟨gx, ox, hgx, hkx, -⟩ := hr.kat (zints_at hx)
   obtain ⟨gy, oy, hgy, hky, -⟩ := hc.kat (zints_at hy)
   subst hgx hgy
   have hst := dotP_step (o := o) hx hy
   have hdl := dotN_lt hf (r.take i) (c.take i)
   refine W_skip ?_
   refine W_seq ?_
   refine W_block ?_
   refine W_sr rfl fun K hK => ?_
   refine sv2 hF (v_move rfl) (v_ixS sl53 rfl rfl (by omega) (by omega)) rfl rfl ?_; clear hF a; intro a hF
   refine sv hF (v_load sc3 rfl (by first | assumption | (rw [toNat_c]; assumption) | exact KC.c (by assumption) | (rw [toNat_c]; exact KC.c (by assumption)) | exact Box.at (by assumption))) rfl ?_; clear hF a; intro a hF
   refine sv2w hK hF (v_assign rfl) (v_assign rfl) rfl rfl ?_; clear hF a hK K; intro a hF
   replace hF := hF.sub _ (c_ 9 rfl (c_ 8 rfl (c_ 0 rfl (c_ 2 rfl (c_ 7 rfl (c_ 10 rfl (c_ 11 rfl (c_ 12 rfl (n_)))))))))
   refine W_reg rfl fun K hK => ?_
   refine sv6 hF (v_move rfl) (v_move rfl) (v_move rfl) (v_move rfl) (v_move rfl) (v_ixS sl53 rfl rfl (by omega) (by omega)) rfl rfl rfl rfl rfl rfl ?_; clear hF a; intro a hF
   refine sv hF (v_load sc3 rfl (by first | assumption | (rw [toNat_c]; assumption) | exact KC.c (by assumption) | (rw [toNat_c]; exact KC.c (by assumption)) | exact Box.at (by assumption))) rfl ?_; clear hF a; intro a hF
   refine sc hF rfl rfl rfl en51 rfl (Mul_gf B o fv x y _ hS.inv hf) ?_; clear hF a; intro v w' a hv hF
   obtain ⟨rfl, hS'⟩ := hv
   replace hf := hf.st hS'
   replace hr := hr.st hS'
   replace hc := hc.st hS'
   replace hS := hS.trans hS'
   clear hS'
   obtain ⟨z, hz, hzl⟩ := gmul_nn hf x y
   rw [hz, Int.toNat_natCast] at hst
   rw [hz] at hF
   refine sv2w hK hF ((v_xorN (m := dotP o r c i) (n := z) rfl rfl (fits_i64 (Nat.lt_of_lt_of_le hdl (by decide))) (fits_i64 (by omega))).as (congrArg (fun (q : Nat) => Value.int .i64 (q : Int)) hst.symm)) (v_assign rfl) rfl rfl ?_; clear hF a hK K; intro a hF
   replace hF := hF.sub _ (c_ 7 rfl (c_ 0 rfl (c_ 2 rfl (c_ 10 rfl (c_ 11 rfl (c_ 12 rfl (n_)))))))
   refine W_reg rfl fun K hK => ?_
   refine sv2w hK hF (v_addI rfl rfl (by omega)) (v_move rfl) rfl rfl ?_; clear hF a hK K; intro a hF
   exact ⟨m - 1, by omega, i + 1, hF.sub _ (c_ 0 rfl (c_ 2 rfl (c_ 7 rfl (c_ 10 rfl (c_ 11 rfl (c_ 12 rfl (n_))))))), hS, hf, hr, hc, by omega, by omega⟩
  ·
   skip
   try simp only [dcl] at hc1
   refine W_exit rfl ?_
   refine W_sr rfl fun K hK => ?_
   refine sv2w hK hF (v_move rfl) (v_assign rfl) rfl rfl ?_; clear hF a hK K; intro a hF
   replace hF := hF.sub _ (c_ 6 rfl (c_ 27 rfl (c_ 0 rfl (c_ 2 rfl (c_ 7 rfl (c_ 10 rfl (c_ 11 rfl (c_ 12 rfl (n_)))))))))
   refine W_ret ?_
   refine ⟨_, _, hF, rfl, ?_⟩
   obtain rfl : i = r.length := by omega
   exact ⟨by rw [dotP_all o hrc], hS⟩
set_option maxRecDepth 100000 in
set_option maxHeartbeats 1000000 in
theorem columns_ok (B : Nat) (pmt : Option Addr) (cmt : Nat) (mt : Mtx) (w : World) (hI : Inv FDx B w) : Ret Tryz.prog 107 [.slice pmt mt.length cmt] w fun v w' => ∃ pb, v = .func (.func 120) ([] : List Value).toArray ([.pointer (some ⟨pb, 0, none⟩)] : List Value).toArray ∧ w.heap.size ≤ pb ∧ KC FDx B w' ⟨pb, 0, none⟩ (.slice pmt mt.length cmt) ∧ St FDx B w w' := by
 refine enter 4 [(0, .slice pmt mt.length cmt)] 2 Tryz.func107 rfl rfl rfl rfl rfl ?_; intro a hF
 have hS := St.refl hI
 refine W_sr rfl fun K hK => ?_
 refine s_boxN (D := FDx) (B := B) hF rfl (rfl) (by decide) hS.inv rfl ?_; clear hF a; intro w' a hm hI' hbx hsz hF
 replace hS := hS.mb0 hm
 clear hm hI' hsz
 have hkb := hbx.kc
 clear hbx
 refine svw hK hF (v_assign rfl) rfl ?_; clear hF a hK K; intro a hF
 replace hF := hF.sub _ (c_ 2 rfl (c_ 1 rfl (n_)))
 refine W_sr rfl fun K hK => ?_
 refine sv2w hK hF (v_mkf (cs := [.tmp 1]) (vs := [.pointer (some ⟨w.heap.size, 0, none⟩)]) rfl) (v_assign rfl) rfl rfl ?_; clear hF a hK K; intro a hF
 replace hF := hF.sub _ (c_ 2 rfl (n_))
 refine W_ret ?_
 refine ⟨_, _, hF, rfl, ?_⟩
 exact ⟨w.heap.size, rfl, Nat.le_refl _, hkb, hS⟩
set_option maxRecDepth 100000 in
set_option maxHeartbeats 1000000 in
theorem columns1_ok (B M pb l : Nat) (pmt : Option Addr) (cmt : Nat) (mt : Mtx) (Z : Nat → Prop) (J Jx : Nat → World → Prop) (w0 w : World) (h0S : StZ FDx B Z w0 w) (hk : KC FDx B w ⟨pb, 0, none⟩ (.slice pmt mt.length cmt)) (hA : Mat FDx B M w pmt cmt mt) (hzp : ¬ Z pb) (hzM : ∀ k, k < M → ¬ Z k) (hZ : ∀ k, w0.heap.size ≤ k → Z k) (hMw : M ≤ w0.heap.size) (hwd : ∀ r ∈ mt, r.length = wid mt) (hml : 1 ≤ mt.length ∧ mt.length ≤ 1000) (hwl : wid mt ≤ 1000) (hJs : ∀ i A C, J i A → St FDx B A C → J i C) (hY : ∀ i x v A, ((List.range (wid mt)).map (colAt mt))[i]? = some x → J i A → StZ FDx B Z w0 A → encR FDx B x A v → YieldOk Tryz.prog l v A fun b A' => (b = true ∧ J (i + 1) A' ∧ StZ FDx B Z A A') ∨ (b = false ∧ Jx (i + 1) A')) (h0 : J 0 w) : Ret Tryz.prog 120 [.func (.yield l) #[] #[], .pointer (some ⟨pb, 0, none⟩)] w fun v A' => (J (wid mt) A' ∧ StZ FDx B Z w0 A') ∨ ∃ i, Jx i A' := by
 refine enter0 37 [(0, .func (.yield l) #[] #[]), (1, .pointer (some ⟨pb, 0, none⟩))]  Tryz.func120 rfl rfl rfl rfl rfl ?_; intro a hF
 have hS := h0S
 obtain ⟨r0, hr0⟩ : ∃ r, mt[0]? = some r := ⟨_, List.getElem?_eq_getElem (by omega)⟩
 obtain ⟨g0, o0, pr0, cr0, hg0, hk0, hrow0, hg0M⟩ := hA.row hr0
 have hw0 := wid_at hr0
 refine W_sr rfl fun K hK => ?_
 refine sv hF (v_load sc36 rfl hk.c) rfl ?_; clear hF a; intro a hF
 rw [hg0] at hF
 refine sv4w hK hF (v_ixS sl36 rfl rfl (by decide) (by omega)) (v_load sc53 rfl hk0.c) (v_lenS rfl sl53 rfl) (v_move rfl) rfl rfl rfl rfl ?_; clear hF a hK K; intro a hF
 replace hF := hF.sub _ (c_ 10 rfl (c_ 9 rfl (c_ 0 rfl (c_ 1 rfl (n_)))))
 rw [← hw0] at hF
 clear hk0 hrow0
 refine W_block ?_
 refine W_loop (fun m a w1 => ∃ (j : Nat), Fr 37 [(0, .func (.yield l) #[] #[]), (1, .pointer (some ⟨pb, 0, none⟩)), (9, .int .i64 (wid mt : Int)), (10, .int .i64 (j : Int))] a ∧ (StZ FDx B Z w0 w1) ∧ (KC FDx B w1 ⟨pb, 0, none⟩ (.slice pmt mt.length cmt)) ∧ (Mat FDx B M w1 pmt cmt mt) ∧ (J j w1) ∧ (j ≤ wid mt) ∧ (m + j = wid mt)) (wid mt) ?_ ?_
 ·
  skip
  exact ⟨0, hF.sub _ (c_ 0 rfl (c_ 1 rfl (c_ 9 rfl (c_ 10 rfl (n_))))), hS, hk, hA, h0, by omega, by omega⟩
 ·
  skip
  clear hF
  clear hS hk hA
  rintro m a w1 ⟨j, hF, hS, hk, hA, hJ, hi, hm⟩
  obtain ⟨wJ, hwJ⟩ : ∃ x, x = w1 := ⟨_, rfl⟩
  rw [← hwJ] at hJ
  have hSJ : St FDx B wJ w1 := by rw [hwJ]; exact St.refl hS.inv
  have hz0 : w0.heap.size ≤ wJ.heap.size := by rw [hwJ]; exact hS.ext.size
  clear hwJ
  refine W_sr rfl fun K hK => ?_
  refine svw hK hF (v_lss rfl rfl) rfl ?_; clear hF a hK K; intro a hF
  refine W_seq ?_
  refine W_if hF rfl (fun hc1 => ?_) (fun hc1 => ?_)
  ·
   skip
   try simp only [dcl] at hc1
   have hlt : j < wid mt := by omega
   refine W_skip ?_
   refine W_seq ?_
   refine W_block ?_
   refine W_sr rfl fun K hK => ?_
   refine sv2w hK hF (v_move rfl) (v_assign rfl) rfl rfl ?_; clear hF a hK K; intro a hF
   replace hF := hF.sub _ (c_ 3 rfl (c_ 0 rfl (c_ 1 rfl (c_ 9 rfl (c_ 10 rfl (n_))))))
   refine W_sr rfl fun K hK => ?_
   refine sv2 hF (v_load sc36 rfl hk.c) (v_lenS rfl sl36 rfl) rfl rfl ?_; clear hF a; intro a hF
   have hszJ := hSJ.ext.size
   obtain ⟨gO, hgO⟩ : ∃ g, g = w1.heap.size := ⟨_, rfl⟩
   refine s_mk (D := FDx) (B := B) (m := mt.length) hF sl53 rfl rfl rfl (by omega) (by simp only [maxLen]; omega) (by decide) hS.inv rfl ?_; clear hF a; intro w' a hm hI' hO hF
   rw [← hgO] at hO hF
   replace hO := hO.le (show wJ.heap.size ≤ gO by omega)
   replace hk := hk.mb hm (by simp)
   replace hA := hA.mb hm (fun _ h => by cases h)
   replace hSJ := hSJ.mb0 hm
   replace hS := hS.mb0 hm
   clear hm hI'
   replace hO := hO.cast (show List.replicate mt.length (Value.int .i64 0) = zints (cfill mt j 0) by rw [cfill_zero]; simp [zints])
   clear hgO hszJ
   refine svw hK hF (v_assign rfl) rfl ?_; clear hF a hK K; intro a hF
   replace hF := hF.sub _ (c_ 4 rfl (c_ 3 rfl (c_ 0 rfl (c_ 1 rfl (c_ 9 rfl (c_ 10 rfl (n_)))))))
   refine W_seq ?_
   refine W_sr rfl fun K hK => ?_
   refine sv3w hK hF (v_load sc36 rfl hk.c) (v_lenS rfl sl36 rfl) (v_move rfl) rfl rfl rfl ?_; clear hF a hK K; intro a hF
   replace hF := hF.sub _ (c_ 18 rfl (c_ 17 rfl (c_ 4 rfl (c_ 3 rfl (c_ 0 rfl (c_ 1 rfl (c_ 9 rfl (c_ 10 rfl (n_)))))))))
   refine W_block ?_
   refine W_loop (fun m2 a w2 => ∃ (i : Nat), Fr 37 [(0, .func (.yield l) #[] #[]), (1, .pointer (some ⟨pb, 0, none⟩)), (3, .int .i64 (j : Int)), (4, .slice (some ⟨gO, 0, none⟩) mt.length mt.length), (9, .int .i64 (wid mt : Int)), (10, .int .i64 (j : Int)), (17, .int .i64 (mt.length : Int)), (18, .int .i64 (i : Int))] a ∧ (StZ FDx B Z w0 w2) ∧ (KC FDx B w2 ⟨pb, 0, none⟩ (.slice pmt mt.length cmt)) ∧ (Mat FDx B M w2 pmt cmt mt) ∧ (St FDx B wJ w2) ∧ (Gam.Own FDx B wJ.heap.size w2 FDx.E (.slice (some ⟨gO, 0, none⟩) mt.length mt.length) (some gO) (zints (cfill mt j i))) ∧ (i ≤ mt.length) ∧ (m2 + i = mt.length)) (mt.length) ?_ ?_
   ·
    skip
    exact ⟨0, hF.sub _ (c_ 0 rfl (c_ 1 rfl (c_ 3 rfl (c_ 4 rfl (c_ 9 rfl (c_ 10 rfl (c_ 17 rfl (c_ 18 rfl (n_))))))))), hS, hk, hA, hSJ, hO, by omega, by omega⟩
   ·
    skip
    clear hF
    clear hS hk hA hSJ hO
    rintro m2 a w2 ⟨i, hF, hS, hk, hA, hSJ, hO, hi2, hm2⟩
    refine W_sr rfl fun K hK => ?_
    refine svw hK hF (v_lss rfl rfl) rfl ?_; clear hF a hK K; intro a hF
    refine W_seq ?_
    refine W_if hF rfl (fun hc2 => ?_) (fun hc2 => ?_)
    ·
     skip
     try simp only [dcl] at hc2
     have hlt2 : i < mt.length := by omega
     obtain ⟨r, hr⟩ : ∃ r, mt[i]? = some r := ⟨_, List.getElem?_eq_getElem hlt2⟩
     obtain ⟨gr, or_, pr, cr, hgr, hkr, hrow, hgrM⟩ := hA.row hr
     have hrl := hwd r (List.mem_of_getElem? hr)
     obtain ⟨x, hx⟩ : ∃ x, r[j]? = some x := ⟨_, List.getElem?_eq_getElem (by omega)⟩
     obtain ⟨gx, ox, hgx, hkx, -⟩ := hrow.kat (zints_at hx)
     have hcl := cfill_len (j := j) (show i ≤ mt.length by omega)
     subst hgx
     refine W_skip ?_
     refine W_seq ?_
     refine W_block ?_
     refine W_sr rfl fun K hK => ?_
     refine sv2w hK hF (v_move rfl) (v_assign rfl) rfl rfl ?_; clear hF a hK K; intro a hF
     replace hF := hF.sub _ (c_ 5 rfl (c_ 0 rfl (c_ 1 rfl (c_ 3 rfl (c_ 4 rfl (c_ 9 rfl (c_ 10 rfl (c_ 17 rfl (c_ 18 rfl (n_))))))))))
     refine W_reg rfl fun K hK => ?_
     refine sv3 hF (v_move rfl) (v_move rfl) (v_load sc36 rfl hk.c) rfl rfl rfl ?_; clear hF a; intro a hF
     rw [hgr] at hF
     refine sv2 hF (v_move rfl) (v_ixS sl36 rfl rfl (by omega) (by omega)) rfl rfl ?_; clear hF a; intro a hF
     refine sv hF (v_load sc53 rfl (by rw [toNat_c]; exact hkr.c)) rfl ?_; clear hF a; intro a hF
     refine sv2 hF (v_move rfl) (v_ixS sl53 rfl rfl (by omega) (by omega)) rfl rfl ?_; clear hF a; intro a hF
     refine sv hF (v_load sc3 rfl (by rw [toNat_c]; exact hkx.c)) rfl ?_; clear hF a; intro a hF
     refine sv hF (v_ixS sl53 rfl rfl (by omega) (by omega)) rfl ?_; clear hF a; intro a hF
     refine s_set (D := FDx) (B := B) hF on3 rfl (by rw [toNat_c, zints_length, hcl]; omega) rfl rfl hO (by decide) hS.inv ?_; intro w' hm hI' ho'
     replace hk := hk.mb hm (fun e => hzp (by cases e; exact hZ _ (Nat.le_trans hz0 (hO.lt _ rfl).1)))
     replace hA := hA.mb hm (fun k h => Nat.le_trans (by omega) (hO.lt k h).1)
     replace hSJ := hSJ.mb hm (fun k h => Nat.le_trans (Nat.le_refl _) (hO.lt k h).1)
     replace hS := hS.mb hm (fun k e => ⟨hZ k (by have := (hO.lt k e).1; omega), hO.isrow k e⟩)
     replace hO := ho'
     clear hm hI' ho'
     rw [toNat_c, Nat.zero_add, zints_set, cfill_step hr hx] at hO
     refine wn hK ?_
     clear hK K
     replace hF := hF.sub _ (c_ 0 rfl (c_ 1 rfl (c_ 3 rfl (c_ 4 rfl (c_ 9 rfl (c_ 10 rfl (c_ 17 rfl (c_ 18 rfl (n_)))))))))
     refine W_reg rfl fun K hK => ?_
     refine sv2w hK hF (v_addI rfl rfl (by omega)) (v_move rfl) rfl rfl ?_; clear hF a hK K; intro a hF
     exact ⟨m2 - 1, by omega, i + 1, hF.sub _ (c_ 0 rfl (c_ 1 rfl (c_ 3 rfl (c_ 4 rfl (c_ 9 rfl (c_ 10 rfl (c_ 17 rfl (c_ 18 rfl (n_))))))))), hS, hk, hA, hSJ, hO, by omega, by omega⟩
    ·
     skip
     try simp only [dcl] at hc2
     refine W_exit rfl ?_
     obtain rfl : i = mt.length := by omega
     rw [cfill_all] at hO
     refine W_srY rfl (fun K hK => ?_)
     refine svI hF rfl (v_move rfl) rfl ?_; clear hF a; intro a hF
     refine svI hF rfl (v_move rfl) rfl ?_; clear hF a; intro a hF
     refine syI hF rfl rfl rfl ((hY j _ _ _ (cols_at hlt) (hJs _ _ _ hJ hSJ) hS ⟨_, hO.le (Nat.zero_le _)⟩).mono (fun b w' hb => ?_))
     rcases hb with ⟨rfl, hJ', hz⟩ | ⟨rfl, hX'⟩
     ·
      skip
      clear hF; intro a hF
      refine WLI_of rfl ?_
      replace hk := hk.stz hz hzp
      replace hA := hA.stz hz hzM
      replace hS := hS.transZ hz
      replace hJ := hJ'
      clear hSJ hO
      refine svw hK hF (v_not rfl) rfl ?_; clear hF a hK K; intro a hF
      replace hF := hF.sub _ (c_ 35 rfl (c_ 34 rfl (c_ 33 rfl (c_ 32 rfl (c_ 0 rfl (c_ 1 rfl (c_ 3 rfl (c_ 4 rfl (c_ 9 rfl (c_ 10 rfl (c_ 17 rfl (c_ 18 rfl (n_)))))))))))))
      refine W_ifF hF rfl ?_
      refine W_skip ?_
      refine W_reg rfl fun K hK => ?_
      refine sv2w hK hF (v_addI rfl rfl (by omega)) (v_move rfl) rfl rfl ?_; clear hF a hK K; intro a hF
      exact ⟨m - 1, by omega, j + 1, hF.sub _ (c_ 0 rfl (c_ 1 rfl (c_ 9 rfl (c_ 10 rfl (n_))))), hS, hk, hA, hJ, by omega, by omega⟩
     ·
      skip
      clear hF; intro a hF
      refine WLI_of rfl ?_
      clear hSJ hO
      refine svw hK hF (v_not rfl) rfl ?_; clear hF a hK K; intro a hF
      replace hF := hF.sub _ (c_ 35 rfl (c_ 34 rfl (c_ 33 rfl (c_ 32 rfl (c_ 0 rfl (c_ 1 rfl (c_ 3 rfl (c_ 4 rfl (c_ 9 rfl (c_ 10 rfl (c_ 17 rfl (c_ 18 rfl (n_)))))))))))))
      refine W_ifT hF rfl ?_
      refine W_ret ?_
      refine ⟨_, hF, ?_⟩
      exact .inr ⟨_, hX'⟩
  ·
   skip
   try simp only [dcl] at hc1
   refine W_exit rfl ?_
   refine ⟨_, hF, ?_⟩
   obtain rfl : j = wid mt := by omega
   exact .inl ⟨hJs _ _ _ hJ hSJ, hS⟩
theorem columns_seq (B M pb : Nat) (pmt : Option Addr) (cmt : Nat) (mt : Mtx) (Z : Nat → Prop) (w0 : World) (hk : KC FDx B w0 ⟨pb, 0, none⟩ (.slice pmt mt.length cmt)) (hA : Mat FDx B M w0 pmt cmt mt) (hzp : ¬ Z pb) (hzM : ∀ k, k < M → ¬ Z k) (hZ : ∀ k, w0.heap.size ≤ k → Z k) (hMw : M ≤ w0.heap.size) (hwd : ∀ r ∈ mt, r.length = wid mt) (hml : 1 ≤ mt.length ∧ mt.length ≤ 1000) (hwl : wid mt ≤ 1000) :
  Seq Tryz.prog FDx B 120 [.pointer (some ⟨pb, 0, none⟩)] (encR FDx B) ((List.range (wid mt)).map (colAt mt)) Z w0 := by
 intro l J Jx W hl hW hJs hY h0
 have := columns1_ok B M pb l pmt cmt mt Z J Jx w0 W hW.z (hk.st hW) (hA.st hW) hzp hzM hZ hMw hwd hml hwl hJs hY h0
 refine Calls.mono this ?_
 rintro e A' ⟨v, rfl, h⟩
 refine ⟨v, rfl, ?_⟩
 rw [show ((List.range (wid mt)).map (colAt mt)).length = wid mt by simp]
 exact h
end Go.Proofs.YtkoiolamnnmokaaGreat

/- The walk of package matrix: Mul. -/
namespace Go.Proofs.YtkoiolamnnmokaaGreat
open Go Go.Gam
namespace FxFMatD
theorem en37 : Ent Tryz.prog 37 := ent Tryz.func37 (by kernel_rfl) (by kernel_rfl)
theorem en107 : Ent Tryz.prog 107 := ent Tryz.func107 (by kernel_rfl) (by kernel_rfl)
theorem en108 : Ent Tryz.prog 108 := ent Tryz.func108 (by kernel_rfl) (by kernel_rfl)
theorem hmix : Tryz.prog.follows .mixedOrders = true := by kernel_rfl
theorem on53 : Gam.One Tryz.prog 53 := by unfold Gam.One; kernel_rfl
theorem sc42 : Scalar Tryz.prog 42 := ⟨_, Tryz.underlying42, by simp, by simp⟩
theorem sc53 : Scalar Tryz.prog 53 := ⟨_, Tryz.underlying53, by simp, by simp⟩
theorem sl36 : Sl Tryz.prog 36 53 (.slice none 0 0) 24 := sl_of Tryz.underlying36 rfl (by kernel_rfl)
theorem sl53 : Sl Tryz.prog 53 3 (.int .i64 0) 8 := sl_of Tryz.underlying53 rfl (by kernel_rfl)
theorem zv53 : Zv Tryz.prog 53 (.slice none 0 0) := zv_of rfl (by kernel_rfl)
end FxFMatD
open FxFMatD
set_option maxRecDepth 100000 in
set_option maxHeartbeats 1000000 in
theorem MulM_ok (B M : Nat) (o : Fq) (fv : Value) (pma : Option Addr) (cma : Nat) (ma : Mtx) (pmb : Option Addr) (cmb : Nat) (mb : Mtx) (w : World) (hI : Inv FDx B w) (hM : M ≤ w.heap.size) (hf : Fo FDx B w fv o) (hAma : Mat FDx B M w pma cma ma) (hlma : ma.length ≤ maxLen) (hbma : ∀ r ∈ ma, r.length ≤ maxLen) (hAmb : Mat FDx B M w pmb cmb mb) (hlmb : mb.length ≤ maxLen) (hbmb : ∀ r ∈ mb, r.length ≤ maxLen) : Ret Tryz.prog 87 [fv, .slice pma ma.length cma, .slice pmb mb.length cmb] w fun v w' => ∃ ob u, v = .tuple #[u, .int .i64 (errV (mulM o ma mb))] ∧ MOwn FDx B w.heap.size 0 w'.heap.size w' 53 u ob ((mulM o ma mb).getD []) ∧ St FDx B w w' := by
 refine enterM2 (D := FDx) (B := B) w.heap.size 54 [(0, fv), (1, .slice pma ma.length cma), (2, .slice pmb mb.length cmb)] 6 7 Tryz.func87 rfl rfl rfl rfl rfl ?_; intro a hF
 have hS := St.refl hI
 have hl2 := hlma
 have hl3 := hlmb
 simp only [maxLen] at hl2 hl3
 have hMk := Mk.nil w.heap.size w
 refine W_sr rfl fun K hK => ?_
 obtain ⟨g3, hg3⟩ : ∃ g, g = w.heap.size := ⟨_, rfl⟩
 refine s_boxN (D := FDx) (B := B) hF rfl (hf.cells1) (by decide) hS.inv rfl ?_; clear hF a; intro w' a hm hI' hb3 hsz hF
 replace hf := hf.mb hm
 replace hAma := hAma.mb hm (fun _ h => by cases h)
 replace hAmb := hAmb.mb hm (fun _ h => by cases h)
 replace hMk := hMk.mb hm (fun k e => by cases e)
 replace hS := hS.mb0 hm
 clear hm hI' hsz
 rw [← hg3] at hb3 hF
 refine sv2w hK hF (v_assign rfl) (v_assign rfl) rfl rfl ?_; clear hF a hK K; intro a hF
 replace hF := hF.sub _ (c_ 7 rfl (c_ 6 rfl (c_ 3 rfl (c_ 1 rfl (c_ 2 rfl (n_))))))
 refine W_seq ?_
 refine W_sr rfl fun K hK => ?_
 refine sv hF (v_load sc42 rfl (by first | assumption | (rw [toNat_c]; assumption) | exact KC.c (by assumption) | (rw [toNat_c]; exact KC.c (by assumption)) | exact Box.at (by assumption))) rfl ?_; clear hF a; intro a hF
 refine sv hF (v_move rfl) rfl ?_; clear hF a; intro a hF
 refine sc hF rfl rfl rfl en37 rfl (May_ok B M o fv pma cma ma _ hS.inv hf hAma hlma hbma) ?_; clear hF a; intro v w' a hv hF
 obtain ⟨rfl, hS'⟩ := hv
 replace hf := hf.st hS'
 replace hAma := hAma.st hS'
 replace hAmb := hAmb.st hS'
 replace hMk := hMk.st hS'
 replace hb3 := hb3.st hS'
 replace hS := hS.trans hS'
 clear hS'
 refine sb hF (v_not rfl) rfl ?_ ?_
 ·
  clear hF a; intro hc1 a hF
  try simp only [dcl] at hc1
  refine sv hF (v_move rfl) rfl ?_; clear hF a; intro a hF
  refine svn4 hF rfl rfl rfl rfl rfl rfl rfl rfl rfl rfl rfl rfl ?_; clear hF a; intro a hF
  refine sv2 hF (v_pickT rfl rfl) (v_move rfl) rfl rfl ?_; clear hF a; intro a hF
  refine svn5 hF rfl rfl rfl rfl rfl rfl rfl rfl rfl rfl rfl rfl rfl rfl rfl ?_; clear hF a; intro a hF
  refine svn2 hF rfl rfl rfl rfl rfl rfl ?_; clear hF a; intro a hF
  refine svw hK hF (v_pickT rfl rfl) rfl ?_; clear hF a hK K; intro a hF
  replace hF := hF.sub _ (c_ 31 rfl (c_ 7 rfl (c_ 6 rfl (c_ 3 rfl (c_ 1 rfl (c_ 2 rfl (n_)))))))
  refine W_ifT hF rfl ?_
  refine W_sr rfl fun K hK => ?_
  refine sv2w hK hF (v_assign rfl) (v_assign rfl) rfl rfl ?_; clear hF a hK K; intro a hF
  replace hF := hF.sub _ (c_ 7 rfl (c_ 6 rfl (c_ 3 rfl (c_ 1 rfl (c_ 2 rfl (n_))))))
  refine W_ret ?_
  refine ⟨_, _, _, _, hMk, hS.inv, hF, rfl, rfl, fun w2 hX => ?_⟩
  have hno : mulM o ma mb = none := mulM_f (.inl (by simpa using hc1))
  rw [hno]
  exact ⟨none, _, rfl, MOwn.nil _ _ _ _ _ _ _ (Nat.zero_le _), hS.thenX hX (Nat.le_refl _)⟩
 ·
  clear hF a; intro hc1 a hF
  try simp only [dcl] at hc1
  refine sv hF (v_move rfl) rfl ?_; clear hF a; intro a hF
  refine svg hF rfl ?_
  refine sv hF (v_load sc42 rfl (by first | assumption | (rw [toNat_c]; assumption) | exact KC.c (by assumption) | (rw [toNat_c]; exact KC.c (by assumption)) | exact Box.at (by assumption))) rfl ?_; clear hF a; intro a hF
  refine svg hF rfl ?_
  refine sv hF (v_move rfl) rfl ?_; clear hF a; intro a hF
  refine svg hF rfl ?_
  refine sc hF rfl rfl rfl en37 rfl (May_ok B M o fv pmb cmb mb _ hS.inv hf hAmb hlmb hbmb) ?_; clear hF a; intro v w' a hv hF
  obtain ⟨rfl, hS'⟩ := hv
  replace hf := hf.st hS'
  replace hAma := hAma.st hS'
  replace hAmb := hAmb.st hS'
  replace hMk := hMk.st hS'
  replace hb3 := hb3.st hS'
  replace hS := hS.trans hS'
  clear hS'
  refine svg hF rfl ?_
  refine sb hF (v_not rfl) rfl ?_ ?_
  ·
   clear hF a; intro hc2 a hF
   try simp only [dcl] at hc2
   refine sv2 hF (v_pickF rfl rfl) (v_move rfl) rfl rfl ?_; clear hF a; intro a hF
   refine svn5 hF rfl rfl rfl rfl rfl rfl rfl rfl rfl rfl rfl rfl rfl rfl rfl ?_; clear hF a; intro a hF
   refine svn2 hF rfl rfl rfl rfl rfl rfl ?_; clear hF a; intro a hF
   refine svw hK hF (v_pickT rfl rfl) rfl ?_; clear hF a hK K; intro a hF
   replace hF := hF.sub _ (c_ 31 rfl (c_ 7 rfl (c_ 6 rfl (c_ 3 rfl (c_ 1 rfl (c_ 2 rfl (n_)))))))
   refine W_ifT hF rfl ?_
   refine W_sr rfl fun K hK => ?_
   refine sv2w hK hF (v_assign rfl) (v_assign rfl) rfl rfl ?_; clear hF a hK K; intro a hF
   replace hF := hF.sub _ (c_ 7 rfl (c_ 6 rfl (c_ 3 rfl (c_ 1 rfl (c_ 2 rfl (n_))))))
   refine W_ret ?_
   refine ⟨_, _, _, _, hMk, hS.inv, hF, rfl, rfl, fun w2 hX => ?_⟩
   have hno : mulM o ma mb = none := mulM_f (.inr (.inl (by simpa using hc2)))
   rw [hno]
   exact ⟨none, _, rfl, MOwn.nil _ _ _ _ _ _ _ (Nat.zero_le _), hS.thenX hX (Nat.le_refl _)⟩
  ·
   clear hF a; intro hc2 a hF
   try simp only [dcl] at hc2
   refine sv2 hF (v_pickF rfl rfl) (v_move rfl) rfl rfl ?_; clear hF a; intro a hF
   refine svg hF rfl ?_
   have hm1 : mayM o ma = true := by simpa using hc1
   have hm2 : mayM o mb = true := by simpa using hc2
   have hp1 := mayM_pos hm1
   have hp2 := mayM_pos hm2
   obtain ⟨rma, hrma⟩ : ∃ r, ma[0]? = some r := ⟨_, List.getElem?_eq_getElem (by omega)⟩
   obtain ⟨gma, oma, prma, crma, hgma, hkma, hrowma, -⟩ := hAma.row hrma
   have hwma := wid_at hrma
   rw [hgma] at hF
   refine sv hF (v_move rfl) rfl ?_; clear hF a; intro a hF
   refine svg hF rfl ?_
   refine sv hF (v_ixS sl36 rfl rfl (by decide) (by omega)) rfl ?_; clear hF a; intro a hF
   refine svg hF rfl ?_
   refine sv hF (v_load sc53 rfl hkma.c) rfl ?_; clear hF a; intro a hF
   refine svg hF rfl ?_
   refine sv hF (v_lenS rfl sl53 rfl) rfl ?_; clear hF a; intro a hF
   refine svg hF rfl ?_
   refine sv hF (v_move rfl) rfl ?_; clear hF a; intro a hF
   refine svg hF rfl ?_
   refine sv hF (v_lenS rfl sl36 rfl) rfl ?_; clear hF a; intro a hF
   refine svg hF rfl ?_
   refine sv2w hK hF (v_neq rfl rfl) (v_pickF rfl rfl) rfl rfl ?_; clear hF a hK K; intro a hF
   replace hF := hF.sub _ (c_ 31 rfl (c_ 7 rfl (c_ 6 rfl (c_ 3 rfl (c_ 1 rfl (c_ 2 rfl (n_)))))))
   refine W_if hF rfl (fun hc3 => ?_) (fun hc3 => ?_)
   ·
    skip
    try simp only [dcl] at hc3
    refine W_sr rfl fun K hK => ?_
    refine sv2w hK hF (v_assign rfl) (v_assign rfl) rfl rfl ?_; clear hF a hK K; intro a hF
    replace hF := hF.sub _ (c_ 7 rfl (c_ 6 rfl (c_ 3 rfl (c_ 1 rfl (c_ 2 rfl (n_))))))
    refine W_ret ?_
    refine ⟨_, _, _, _, hMk, hS.inv, hF, rfl, rfl, fun w2 hX => ?_⟩
    have hno : mulM o ma mb = none := mulM_f (.inr (.inr (by rw [hwma]; omega)))
    rw [hno]
    exact ⟨none, _, rfl, MOwn.nil _ _ _ _ _ _ _ (Nat.zero_le _), hS.thenX hX (Nat.le_refl _)⟩
   ·
    skip
    try simp only [dcl] at hc3
    refine W_skip ?_
    rw [← hgma] at hF
    have hyes := mulM_t hm1 hm2 (by rw [hwma]; omega)
    refine W_sr rfl fun K hK => ?_
    refine svw hK hF (v_assign rfl) rfl ?_; clear hF a hK K; intro a hF
    replace hF := hF.sub _ (c_ 8 rfl (c_ 7 rfl (c_ 6 rfl (c_ 3 rfl (c_ 1 rfl (c_ 2 rfl (n_)))))))
    refine W_seq ?_
    refine W_sr rfl fun K hK => ?_
    refine sv3w hK hF (v_move rfl) (v_lenS rfl sl36 rfl) (v_move rfl) rfl rfl rfl ?_; clear hF a hK K; intro a hF
    replace hF := hF.sub _ (c_ 34 rfl (c_ 33 rfl (c_ 32 rfl (c_ 8 rfl (c_ 7 rfl (c_ 6 rfl (c_ 3 rfl (c_ 2 rfl (n_)))))))))
    refine W_block ?_
    refine W_loop (fun m a w1 => ∃ (i : Nat) (v8 : Value) (b8 : Option Nat) (ds : List Nat), Fr ⟨54, ds⟩ [(2, .slice pmb mb.length cmb), (3, .pointer (some ⟨g3, 0, none⟩)), (8, v8), (32, .slice pma ma.length cma), (33, .int .i64 (ma.length : Int)), (34, .int .i64 (i : Int))] a ∧ (St FDx B w w1) ∧ (Fo FDx B w1 fv o) ∧ (Mat FDx B M w1 pma cma ma) ∧ (Mat FDx B M w1 pmb cmb mb) ∧ (MOwn FDx B w.heap.size 0 w1.heap.size w1 53 v8 b8 ((ma.take i).map (mulRow o mb))) ∧ (Mk w.heap.size ds w1) ∧ (Box FDx B g3 w1 g3 42 fv) ∧ (i ≤ ma.length) ∧ (m + i = ma.length)) (ma.length) ?_ ?_
    ·
     skip
     exact ⟨0, _, none, _, hF.sub _ (c_ 2 rfl (c_ 3 rfl (c_ 8 rfl (c_ 32 rfl (c_ 33 rfl (c_ 34 rfl (n_))))))), hS, hf, hAma, hAmb, MOwn.nil _ _ _ _ _ _ _ (Nat.zero_le _), hMk, hb3, by omega, by omega⟩
    ·
     skip
     clear hF
     clear hS hf hAma hAmb hMk hb3
     rintro m a w1 ⟨i, v8, b8, ds, hF, hS, hf, hAma, hAmb, hMO, hMk, hb3, hi, hm⟩
     obtain ⟨KM, hKe⟩ : ∃ KM, KM = w1.heap.size := ⟨_, rfl⟩
     rw [← hKe] at hMO
     have hKs : KM ≤ w1.heap.size := by omega
     have hNK : w.heap.size ≤ KM := by have := hS.ext.size; omega
     clear hKe
     refine W_sr rfl fun K hK => ?_
     refine svw hK hF (v_lss rfl rfl) rfl ?_; clear hF a hK K; intro a hF
     refine W_seq ?_
     refine W_if hF rfl (fun hc4 => ?_) (fun hc4 => ?_)
     ·
      skip
      try simp only [dcl] at hc4
      have hlt : i < ma.length := by omega
      obtain ⟨r, hr⟩ : ∃ z, ma[i]? = some z := ⟨_, List.getElem?_eq_getElem hlt⟩
      obtain ⟨gx, ox, pr, cr, hgx, hkc, hrow, -⟩ := hAma.row hr
      have hrl := (hp1.2.2.2.2 r (List.mem_of_getElem? hr)).1
      have hrz : (zints r).length = r.length := zints_length r
      refine W_skip ?_
      refine W_seq ?_
      refine W_block ?_
      have hg3l : g3 < w1.heap.size := heap_lt hb3.blk
      rw [hgx] at hF
      refine W_sr rfl fun K hK => ?_
      refine sv hF (v_ixS sl36 rfl rfl (by omega) (by omega)) rfl ?_; clear hF a; intro a hF
      rw [← hgx] at hF
      refine sv hF (v_load sc53 rfl (by rw [toNat_c]; exact hkc.c)) rfl ?_; clear hF a; intro a hF
      obtain ⟨g10, hg10⟩ : ∃ g, g = w1.heap.size := ⟨_, rfl⟩
      have hn10 : b8 ≠ some g10 := fun e => by have := (hMO.lt _ e).2; omega
      have hKg : KM ≤ g10 := by omega
      clear hkc
      refine s_alloc (D := FDx) (B := B) hF zv53 (by decide) hS.inv rfl ?_; clear hF a; intro w' a hm hI' hb10 hsz hF
      replace hf := hf.mb hm
      replace hAma := hAma.mb hm (fun _ h => by cases h)
      replace hAmb := hAmb.mb hm (fun _ h => by cases h)
      replace hMO := hMO.mb0 hm
      replace hMk := hMk.mb hm (fun k e => by cases e)
      replace hb3 := hb3.mb hm (by simp)
      replace hKs := Nat.le_trans hKs hm.size
      replace hrow := hrow.mb hm (fun _ h => by cases h)
      replace hS := hS.mb0 hm
      clear hm hI' hsz
      rw [← hg10] at hb10 hF
      refine s_stb (D := FDx) (B := B) hF on53 rfl rfl (rfl) hb10 hS.inv ?_; intro w' hm hI' hbx'
      replace hf := hf.mb hm
      replace hAma := hAma.mb hm (fun k h => by cases h; exact Nat.le_trans (by omega) hb10.low)
      replace hAmb := hAmb.mb hm (fun k h => by cases h; exact Nat.le_trans (by omega) hb10.low)
      replace hMO := hMO.mbx hm (by assumption) (by omega) (by omega)
      replace hMk := hMk.mb hm (fun k e => by cases e; exact ⟨_, _, _, hb10.blk⟩)
      replace hb3 := hb3.mb hm (by simp; omega)
      replace hKs := Nat.le_trans hKs hm.size
      replace hrow := hrow.mb hm (fun k h => by cases h; exact Nat.le_trans (by omega) hb10.low)
      replace hS := hS.mb hm (fun k h => by cases h; omega)
      replace hb10 := hbx'
      clear hm hI' hbx'
      have hl10 := heap_lt hb10.blk
      refine wn hK ?_
      clear hK K
      replace hF := hF.sub _ (c_ 10 rfl (c_ 2 rfl (c_ 3 rfl (c_ 8 rfl (c_ 32 rfl (c_ 33 rfl (c_ 34 rfl (n_))))))))
      refine W_sr rfl fun K hK => ?_
      obtain ⟨g11, hg11⟩ : ∃ g, g = w'.heap.size := ⟨_, rfl⟩
      have hn11 : b8 ≠ some g11 := fun e => by have := (hMO.lt _ e).2; omega
      refine s_alloc (D := FDx) (B := B) hF zv53 (by decide) hS.inv rfl ?_; clear hF a; intro w' a hm hI' hb11 hsz hF
      replace hf := hf.mb hm
      replace hAma := hAma.mb hm (fun _ h => by cases h)
      replace hAmb := hAmb.mb hm (fun _ h => by cases h)
      replace hMO := hMO.mb0 hm
      replace hMk := hMk.mb hm (fun k e => by cases e)
      replace hb3 := hb3.mb hm (by simp)
      replace hKs := Nat.le_trans hKs hm.size
      replace hrow := hrow.mb hm (fun _ h => by cases h)
      replace hb10 := hb10.mb hm (by simp)
      replace hS := hS.mb0 hm
      clear hm hI' hsz
      rw [← hg11] at hb11 hF
      have hl11 := heap_lt hb11.blk
      refine wn hK ?_
      clear hK K
      refine W_seq ?_
      refine W_sr rfl fun K hK => ?_
      refine sv hF (v_move rfl) rfl ?_; clear hF a; intro a hF
      refine sc hF rfl rfl rfl en107 rfl (columns_ok B pmb cmb mb _ hS.inv) ?_; clear hF a; intro v w' a hv hF
      obtain ⟨pb, rfl, hpb, hkb, hS'⟩ := hv
      replace hf := hf.st hS'
      replace hAma := hAma.st hS'
      replace hAmb := hAmb.st hS'
      replace hMO := hMO.st (by decide) hS'
      replace hMk := hMk.st hS'
      replace hb3 := hb3.st hS'
      replace hKs := Nat.le_trans hKs hS'.ext.size
      replace hrow := hrow.st hS'
      replace hb10 := hb10.st hS'
      replace hb11 := hb11.st hS'
      replace hS := hS.trans hS'
      clear hS'
      refine wn hK ?_
      clear hK K
      replace hF := hF.sub _ (c_ 39 rfl (c_ 11 rfl (c_ 10 rfl (c_ 2 rfl (c_ 3 rfl (c_ 8 rfl (c_ 32 rfl (c_ 33 rfl (c_ 34 rfl (n_))))))))))
      obtain ⟨nr, hnr⟩ : ∃ n, n = w'.heap.size := ⟨_, rfl⟩
      have hsw := hS.ext.size
      have hds : ∀ d ∈ ds, d < w'.heap.size := fun d hd => heap_lt (hMk.2 d hd).2
      have hpl := hkb.2.1
      have hpl2 : pb < w'.heap.size := hpl
      refine W_block ?_
      refine W_rf (D := FDx) (B := B) (fun k A => ∃ v11 b11, Box FDx B g11 A g11 53 v11 ∧ Gam.Own FDx B nr A FDx.E v11 b11 (zints ((mulRow o mb r).take k)) ∧ St FDx B w A ∧ Mk w.heap.size ds A ∧ Box FDx B g3 A g3 42 fv ∧ Box FDx B g10 A g10 53 (.slice pr r.length cr) ∧ Fo FDx B A fv o ∧ Row FDx B M A (.slice pr r.length cr) (zints r) ∧ Mat FDx B M A pma cma ma ∧ Mat FDx B M A pmb cmb mb ∧ MOwn FDx B w.heap.size 0 KM A 53 v8 b8 ((ma.take i).map (mulRow o mb))) (fun _ => False) (fun v a2 _ => Fr ⟨54, []⟩ [(3, .pointer (some ⟨g3, 0, none⟩)), (10, .pointer (some ⟨g10, 0, none⟩)), (11, .pointer (some ⟨g11, 0, none⟩)), (12, v)] a2) hF rfl rfl (ent Tryz.func120 (by kernel_rfl) (by kernel_rfl)) hS.inv (columns_seq B M pb _ cmb mb (fun k => k = g11 ∨ w'.heap.size ≤ k) _ hkb hAmb (by rintro (h | h) <;> omega) (by rintro k h (h2 | h2) <;> omega) (fun k h => .inr h) (by omega) (fun r hr => (hp2.2.2.2.2 r hr).1) (by omega) (by omega)) (fun k h => .inr h) ?_ ?_ ?_ ?_ (⟨_, none, hb11, Gam.Own.nil _ _ _ _ _, hS, hMk, hb3, hb10, hf, hrow, hAma, hAmb, hMO⟩) ?_ ?_ ?_ ?_
      ·
       rintro k A C ⟨v11, b11, h1, h2, h3, h4, h5, h6, h7, h8, h9, h10, h11⟩ hX
       exact ⟨v11, b11, h1.xt hX, h2.xt (by decide) hX, h3.thenX hX hsw, h4.xt hX hds, h5.xt hX, h6.xt hX, h7.xt hX, h8.xt hX, h9.xt hX, h10.xt hX, h11.xt (by decide) hX⟩
      ·
       exact fun _ _ h _ => h
      ·
       exact fun _ _ _ _ h _ => h
      ·
       exact fun x v A C h hX => h.xt hX
      ·
       skip
       clear hF hS
       intro l i x v A a hx hJ hIA he hF
       have hS := St.refl hIA
       refine Rd.W_reg rfl rfl (fun K hK => ?_)
       refine svw hK hF (v_assign rfl) rfl ?_; clear hF a hK K; intro a hF
       replace hF := hF.sub _ (c_ 12 rfl (c_ 11 rfl (c_ 10 rfl (c_ 3 rfl (n_)))))
       exact ⟨hS, hF.sub _ (c_ 3 rfl (c_ 10 rfl (c_ 11 rfl (c_ 12 rfl (n_)))))⟩
      ·
       skip
       clear hF hS hMk hb3 hb10 hb11 hf hrow hAma hAmb hMO
       rintro l k x v A a hx ⟨v11, b11, hb11, hO, hSw, hMk, hb3, hb10, hf, hrow, hAma, hAmb, hMO⟩ hz0 he hF
       obtain ⟨hk, rfl⟩ := cols_get hx
       obtain ⟨bc, hC⟩ := he
       obtain ⟨pc, cc, rfl⟩ := hC.shape
       have hc := hC.row (by decide)
       clear hC
       have hcl : (zints (colAt mb k)).length = (colAt mb k).length := zints_length _
       have hcl2 := colAt_length mb k
       have hml := mulRow_length o mb r
       have hnA : nr ≤ A.heap.size := by have := hz0.ext.size; omega
       have hS : StZ FDx B (fun k => k = g11 ∨ w'.heap.size ≤ k) A A := StZ.refl hSw.inv
       rw [hcl] at hc hF
       refine Rd.W_block ?_
       refine Rd.W_dS (fun w2 => w2.cell? ⟨g3, 0, none⟩ = some fv ∧ w2.cell? ⟨g10, 0, none⟩ = some (.slice pr r.length cr)) (m := 8) rfl hmix rfl (fun K hK => ?_)
       have hS' := St.drew hS.inv
       replace hb11 := hb11.st hS'
       replace hO := hO.st (by decide) hS'
       replace hSw := hSw.trans hS'
       replace hMk := hMk.st hS'
       replace hb3 := hb3.st hS'
       replace hb10 := hb10.st hS'
       replace hf := hf.st hS'
       replace hrow := hrow.st hS'
       replace hAma := hAma.st hS'
       replace hAmb := hAmb.st hS'
       replace hMO := hMO.st (by decide) hS'
       replace hc := (hc.st hS').mono hS'.ext.size
       replace hnA := Nat.le_trans hnA hS'.ext.size
       replace hS := hS.trans hS'
       clear hS'
       have hSS := And.intro hb3.at hb10.at
       refine b_v (i := 1) rfl (by kernel_rfl) hF (fun w2 hx => v_load sc42 rfl hx.1) rfl hSS ?_; clear hF a; intro a hF
       refine b_v (i := 2) rfl (by kernel_rfl) hF (fun w2 hx => v_load sc53 rfl hx.2) rfl hSS ?_; clear hF a; intro a hF
       refine b_v (i := 3) rfl (by kernel_rfl) hF (fun w2 hx => v_move rfl) rfl hSS ?_; clear hF a; intro a hF
       refine b_e2 (i := 0) (i' := 4) (by kernel_rfl) rfl rfl ?_ ?_
       ·
        skip
        refine sv hF (v_load sc53 rfl hb11.at) rfl ?_; clear hF a; intro a hF
        refine WL_nil ⟨hSS, ?_⟩
        refine b_e (i := 4) (by kernel_rfl) rfl ?_
        refine sc hF rfl rfl rfl en108 rfl (dot_ok B M _ o fv pr cr r pc cc (colAt mb k) _ hS.inv hf hrow hc (by omega) (by omega)) ?_; clear hF a; intro v w' a hv hF
        obtain ⟨rfl, hS'⟩ := hv
        replace hb11 := hb11.st hS'
        replace hO := hO.st (by decide) hS'
        replace hSw := hSw.trans hS'
        replace hMk := hMk.st hS'
        replace hb3 := hb3.st hS'
        replace hb10 := hb10.st hS'
        replace hf := hf.st hS'
        replace hrow := hrow.st hS'
        replace hAma := hAma.st hS'
        replace hAmb := hAmb.st hS'
        replace hMO := hMO.st (by decide) hS'
        replace hc := (hc.st hS').mono hS'.ext.size
        replace hnA := Nat.le_trans hnA hS'.ext.size
        replace hS := hS.trans hS'
        clear hS'
        clear hSS
        have hSS := And.intro hb3.at hb10.at
        refine WL_nil ⟨hSS, ?_⟩
        refine b_e (i := 5) (by kernel_rfl) rfl ?_
        refine s_bs (D := FDx) (B := B) hF sl53 rfl rfl (by decide) (by simp [Value.cells]) (by decide) hS.inv rfl ?_; clear hF a; intro w' a hm hI' hL hF
        replace hb11 := hb11.mb hm (by simp)
        replace hO := hO.mb hm (fun _ _ => by simp)
        replace hSw := hSw.mb0 hm
        replace hMk := hMk.mb hm (fun k e => by cases e)
        replace hb3 := hb3.mb hm (by simp)
        replace hb10 := hb10.mb hm (by simp)
        replace hf := hf.mb hm
        replace hrow := hrow.mb hm (fun _ h => by cases h)
        replace hAma := hAma.mb hm (fun _ h => by cases h)
        replace hAmb := hAmb.mb hm (fun _ h => by cases h)
        replace hMO := hMO.mb0 hm
        replace hnA := Nat.le_trans hnA hm.size
        replace hS := hS.mb0 hm
        clear hm hI'
        clear hSS
        have hSS := And.intro hb3.at hb10.at
        refine WL_nil ⟨hSS, ?_⟩
        refine b_e (i := 6) (by kernel_rfl) rfl ?_
        refine s_app (D := FDx) (B := B) hF rfl sl53 rfl rfl hO (hL.row (by decide)) (by simp [Value.oneCell']) (by simp; omega) (by simp [maxLen]; omega) (hnA) (by decide) hS.inv rfl ?_; clear hF a; intro v' b' w' a ho' hm hI' hb' hF
        replace hb11 := hb11.mb hm (hb11.ne_own hO (by decide))
        replace hSw := hSw.mb hm (fun k h => Nat.le_trans (by omega) (hO.lt k h).1)
        replace hMk := hMk.mb hm hO.isrow
        replace hb3 := hb3.mb hm (hb3.ne_own hO (by decide))
        replace hb10 := hb10.mb hm (hb10.ne_own hO (by decide))
        replace hf := hf.mb hm
        replace hrow := hrow.mb hm (fun k h => Nat.le_trans (by omega) (hO.lt k h).1)
        replace hAma := hAma.mb hm (fun k h => Nat.le_trans (by omega) (hO.lt k h).1)
        replace hAmb := hAmb.mb hm (fun k h => Nat.le_trans (by omega) (hO.lt k h).1)
        replace hMO := hMO.mbo hm hO (by decide) (by omega) (Nat.zero_le _)
        replace hnA := Nat.le_trans hnA hm.size
        replace hS := hS.mb hm (fun k h => ⟨.inr (by have := (hO.lt k h).1; omega), hO.isrow k h⟩)
        replace hO := ho'
        clear hm hI' ho'
        clear hSS
        have hSS := And.intro hb3.at hb10.at
        refine WL_nil ⟨hSS, ?_⟩
        refine b_e (i := 7) (by kernel_rfl) rfl ?_
        refine s_stb (D := FDx) (B := B) hF on53 rfl rfl (by obtain ⟨_, _, rfl⟩ := hO.shape; rfl) hb11 hS.inv ?_; intro w' hm hI' hbx'
        replace hO := hO.mb hm ((fun k e e2 => hb11.ne_own hO (by decide) (e.trans e2.symm)))
        replace hSw := hSw.mb hm (fun k h => by cases h; omega)
        replace hMk := hMk.mb hm (fun k e => by cases e; exact ⟨_, _, _, hb11.blk⟩)
        replace hb3 := hb3.mb hm (by simp; omega)
        replace hb10 := hb10.mb hm (by simp; omega)
        replace hf := hf.mb hm
        replace hrow := hrow.mb hm (fun k h => by cases h; exact Nat.le_trans (by omega) hb11.low)
        replace hAma := hAma.mb hm (fun k h => by cases h; exact Nat.le_trans (by omega) hb11.low)
        replace hAmb := hAmb.mb hm (fun k h => by cases h; exact Nat.le_trans (by omega) hb11.low)
        replace hMO := hMO.mbx hm (by assumption) (by omega) (by omega)
        replace hnA := Nat.le_trans hnA hm.size
        replace hS := hS.mb hm (fun k h => ⟨.inl (by cases h; rfl), by cases h; exact ⟨_, _, _, hb11.blk⟩⟩)
        replace hb11 := hbx'
        clear hm hI' hbx'
        clear hSS
        have hSS := And.intro hb3.at hb10.at
        refine WL_nil ⟨hSS, ?_⟩
        refine b_done (by kernel_rfl) (hK _ _ ?_)
        clear hK K
        replace hF := hF.sub _ (n_)
        exact ⟨⟨_, _, hb11, hO.cast (by rw [mulRow_snoc hk]; simp [zints]), hSw, hMk, hb3, hb10, hf, hrow, hAma, hAmb, hMO⟩, hS⟩
       ·
        skip
        refine sc hF rfl rfl rfl en108 rfl (dot_ok B M _ o fv pr cr r pc cc (colAt mb k) _ hS.inv hf hrow hc (by omega) (by omega)) ?_; clear hF a; intro v w' a hv hF
        obtain ⟨rfl, hS'⟩ := hv
        replace hb11 := hb11.st hS'
        replace hO := hO.st (by decide) hS'
        replace hSw := hSw.trans hS'
        replace hMk := hMk.st hS'
        replace hb3 := hb3.st hS'
        replace hb10 := hb10.st hS'
        replace hf := hf.st hS'
        replace hrow := hrow.st hS'
        replace hAma := hAma.st hS'
        replace hAmb := hAmb.st hS'
        replace hMO := hMO.st (by decide) hS'
        replace hc := (hc.st hS').mono hS'.ext.size
        replace hnA := Nat.le_trans hnA hS'.ext.size
        replace hS := hS.trans hS'
        clear hS'
        clear hSS
        have hSS := And.intro hb3.at hb10.at
        refine WL_nil ⟨hSS, ?_⟩
        refine b_e2 (i := 0) (i' := 5) (by kernel_rfl) rfl rfl ?_ ?_
        ·
         skip
         refine sv hF (v_load sc53 rfl hb11.at) rfl ?_; clear hF a; intro a hF
         refine WL_nil ⟨hSS, ?_⟩
         refine b_e (i := 5) (by kernel_rfl) rfl ?_
         refine s_bs (D := FDx) (B := B) hF sl53 rfl rfl (by decide) (by simp [Value.cells]) (by decide) hS.inv rfl ?_; clear hF a; intro w' a hm hI' hL hF
         replace hb11 := hb11.mb hm (by simp)
         replace hO := hO.mb hm (fun _ _ => by simp)
         replace hSw := hSw.mb0 hm
         replace hMk := hMk.mb hm (fun k e => by cases e)
         replace hb3 := hb3.mb hm (by simp)
         replace hb10 := hb10.mb hm (by simp)
         replace hf := hf.mb hm
         replace hrow := hrow.mb hm (fun _ h => by cases h)
         replace hAma := hAma.mb hm (fun _ h => by cases h)
         replace hAmb := hAmb.mb hm (fun _ h => by cases h)
         replace hMO := hMO.mb0 hm
         replace hnA := Nat.le_trans hnA hm.size
         replace hS := hS.mb0 hm
         clear hm hI'
         clear hSS
         have hSS := And.intro hb3.at hb10.at
         refine WL_nil ⟨hSS, ?_⟩
         refine b_e (i := 6) (by kernel_rfl) rfl ?_
         refine s_app (D := FDx) (B := B) hF rfl sl53 rfl rfl hO (hL.row (by decide)) (by simp [Value.oneCell']) (by simp; omega) (by simp [maxLen]; omega) (hnA) (by decide) hS.inv rfl ?_; clear hF a; intro v' b' w' a ho' hm hI' hb' hF
         replace hb11 := hb11.mb hm (hb11.ne_own hO (by decide))
         replace hSw := hSw.mb hm (fun k h => Nat.le_trans (by omega) (hO.lt k h).1)
         replace hMk := hMk.mb hm hO.isrow
         replace hb3 := hb3.mb hm (hb3.ne_own hO (by decide))
         replace hb10 := hb10.mb hm (hb10.ne_own hO (by decide))
         replace hf := hf.mb hm
         replace hrow := hrow.mb hm (fun k h => Nat.le_trans (by omega) (hO.lt k h).1)
         replace hAma := hAma.mb hm (fun k h => Nat.le_trans (by omega) (hO.lt k h).1)
         replace hAmb := hAmb.mb hm (fun k h => Nat.le_trans (by omega) (hO.lt k h).1)
         replace hMO := hMO.mbo hm hO (by decide) (by omega) (Nat.zero_le _)
         replace hnA := Nat.le_trans hnA hm.size
         replace hS := hS.mb hm (fun k h => ⟨.inr (by have := (hO.lt k h).1; omega), hO.isrow k h⟩)
         replace hO := ho'
         clear hm hI' ho'
         clear hSS
         have hSS := And.intro hb3.at hb10.at
         refine WL_nil ⟨hSS, ?_⟩
         refine b_e (i := 7) (by kernel_rfl) rfl ?_
         refine s_stb (D := FDx) (B := B) hF on53 rfl rfl (by obtain ⟨_, _, rfl⟩ := hO.shape; rfl) hb11 hS.inv ?_; intro w' hm hI' hbx'
         replace hO := hO.mb hm ((fun k e e2 => hb11.ne_own hO (by decide) (e.trans e2.symm)))
         replace hSw := hSw.mb hm (fun k h => by cases h; omega)
         replace hMk := hMk.mb hm (fun k e => by cases e; exact ⟨_, _, _, hb11.blk⟩)
         replace hb3 := hb3.mb hm (by simp; omega)
         replace hb10 := hb10.mb hm (by simp; omega)
         replace hf := hf.mb hm
         replace hrow := hrow.mb hm (fun k h => by cases h; exact Nat.le_trans (by omega) hb11.low)
         replace hAma := hAma.mb hm (fun k h => by cases h; exact Nat.le_trans (by omega) hb11.low)
         replace hAmb := hAmb.mb hm (fun k h => by cases h; exact Nat.le_trans (by omega) hb11.low)
         replace hMO := hMO.mbx hm (by assumption) (by omega) (by omega)
         replace hnA := Nat.le_trans hnA hm.size
         replace hS := hS.mb hm (fun k h => ⟨.inl (by cases h; rfl), by cases h; exact ⟨_, _, _, hb11.blk⟩⟩)
         replace hb11 := hbx'
         clear hm hI' hbx'
         clear hSS
         have hSS := And.intro hb3.at hb10.at
         refine WL_nil ⟨hSS, ?_⟩
         refine b_done (by kernel_rfl) (hK _ _ ?_)
         clear hK K
         replace hF := hF.sub _ (n_)
         exact ⟨⟨_, _, hb11, hO.cast (by rw [mulRow_snoc hk]; simp [zints]), hSw, hMk, hb3, hb10, hf, hrow, hAma, hAmb, hMO⟩, hS⟩
        ·
         skip
         refine s_bs (D := FDx) (B := B) hF sl53 rfl rfl (by decide) (by simp [Value.cells]) (by decide) hS.inv rfl ?_; clear hF a; intro w' a hm hI' hL hF
         replace hb11 := hb11.mb hm (by simp)
         replace hO := hO.mb hm (fun _ _ => by simp)
         replace hSw := hSw.mb0 hm
         replace hMk := hMk.mb hm (fun k e => by cases e)
         replace hb3 := hb3.mb hm (by simp)
         replace hb10 := hb10.mb hm (by simp)
         replace hf := hf.mb hm
         replace hrow := hrow.mb hm (fun _ h => by cases h)
         replace hAma := hAma.mb hm (fun _ h => by cases h)
         replace hAmb := hAmb.mb hm (fun _ h => by cases h)
         replace hMO := hMO.mb0 hm
         replace hnA := Nat.le_trans hnA hm.size
         replace hS := hS.mb0 hm
         clear hm hI'
         clear hSS
         have hSS := And.intro hb3.at hb10.at
         refine WL_nil ⟨hSS, ?_⟩
         refine b_e (i := 0) (by kernel_rfl) rfl ?_
         refine sv hF (v_load sc53 rfl hb11.at) rfl ?_; clear hF a; intro a hF
         refine WL_nil ⟨hSS, ?_⟩
         refine b_e (i := 6) (by kernel_rfl) rfl ?_
         refine s_app (D := FDx) (B := B) hF rfl sl53 rfl rfl hO (hL.row (by decide)) (by simp [Value.oneCell']) (by simp; omega) (by simp [maxLen]; omega) (hnA) (by decide) hS.inv rfl ?_; clear hF a; intro v' b' w' a ho' hm hI' hb' hF
         replace hb11 := hb11.mb hm (hb11.ne_own hO (by decide))
         replace hSw := hSw.mb hm (fun k h => Nat.le_trans (by omega) (hO.lt k h).1)
         replace hMk := hMk.mb hm hO.isrow
         replace hb3 := hb3.mb hm (hb3.ne_own hO (by decide))
         replace hb10 := hb10.mb hm (hb10.ne_own hO (by decide))
         replace hf := hf.mb hm
         replace hrow := hrow.mb hm (fun k h => Nat.le_trans (by omega) (hO.lt k h).1)
         replace hAma := hAma.mb hm (fun k h => Nat.le_trans (by omega) (hO.lt k h).1)
         replace hAmb := hAmb.mb hm (fun k h => Nat.le_trans (by omega) (hO.lt k h).1)
         replace hMO := hMO.mbo hm hO (by decide) (by omega) (Nat.zero_le _)
         replace hnA := Nat.le_trans hnA hm.size
         replace hS := hS.mb hm (fun k h => ⟨.inr (by have := (hO.lt k h).1; omega), hO.isrow k h⟩)
         replace hO := ho'
         clear hm hI' ho'
         clear hSS
         have hSS := And.intro hb3.at hb10.at
         refine WL_nil ⟨hSS, ?_⟩
         refine b_e (i := 7) (by kernel_rfl) rfl ?_
         refine s_stb (D := FDx) (B := B) hF on53 rfl rfl (by obtain ⟨_, _, rfl⟩ := hO.shape; rfl) hb11 hS.inv ?_; intro w' hm hI' hbx'
         replace hO := hO.mb hm ((fun k e e2 => hb11.ne_own hO (by decide) (e.trans e2.symm)))
         replace hSw := hSw.mb hm (fun k h => by cases h; omega)
         replace hMk := hMk.mb hm (fun k e => by cases e; exact ⟨_, _, _, hb11.blk⟩)
         replace hb3 := hb3.mb hm (by simp; omega)
         replace hb10 := hb10.mb hm (by simp; omega)
         replace hf := hf.mb hm
         replace hrow := hrow.mb hm (fun k h => by cases h; exact Nat.le_trans (by omega) hb11.low)
         replace hAma := hAma.mb hm (fun k h => by cases h; exact Nat.le_trans (by omega) hb11.low)
         replace hAmb := hAmb.mb hm (fun k h => by cases h; exact Nat.le_trans (by omega) hb11.low)
         replace hMO := hMO.mbx hm (by assumption) (by omega) (by omega)
         replace hnA := Nat.le_trans hnA hm.size
         replace hS := hS.mb hm (fun k h => ⟨.inl (by cases h; rfl), by cases h; exact ⟨_, _, _, hb11.blk⟩⟩)
         replace hb11 := hbx'
         clear hm hI' hbx'
         clear hSS
         have hSS := And.intro hb3.at hb10.at
         refine WL_nil ⟨hSS, ?_⟩
         refine b_done (by kernel_rfl) (hK _ _ ?_)
         clear hK K
         replace hF := hF.sub _ (n_)
         exact ⟨⟨_, _, hb11, hO.cast (by rw [mulRow_snoc hk]; simp [zints]), hSw, hMk, hb3, hb10, hf, hrow, hAma, hAmb, hMO⟩, hS⟩
      ·
       skip
       clear hF hS hb3 hb10 hb11 hf hrow hAma hAmb hMO
       rintro a W hF hD ⟨v11, b11, hb11, hO, hS, hMk2, hb3, hb10, hf, hrow, hAma, hAmb, hMO⟩ hz0
       replace hMk := Mk.cons (D := FDx) (B := B) hMk (Nat.le_refl _) hsw hMk2 hD
       clear hMk2 hD
       replace hO := hO.cast (show zints ((mulRow o mb r).take _) = zints (mulRow o mb r) by rw [List.length_map, List.length_range, List.take_of_length_le (by rw [mulRow_length]; omega)])
       replace hKs := Nat.le_trans hKs hz0.ext.size
       clear hz0
       refine W_reg rfl fun K hK => ?_
       refine sv hF (v_move rfl) rfl ?_; clear hF a; intro a hF
       refine sv hF (v_load sc53 rfl (by first | assumption | (rw [toNat_c]; assumption) | exact KC.c (by assumption) | (rw [toNat_c]; exact KC.c (by assumption)) | exact Box.at (by assumption))) rfl ?_; clear hF a; intro a hF
       obtain ⟨a_, c_r, rfl⟩ := hO.shape
       refine s_bs (D := FDx) (B := B) hF sl36 rfl rfl (by decide) (by simp [Value.cells]) (by decide) hS.inv rfl ?_; clear hF a; intro w' a hm hI' hL hF
       replace hb11 := hb11.mb hm (by simp)
       replace hO := hO.mb hm (fun _ _ => by simp)
       replace hMk := hMk.mb hm (fun k e => by cases e)
       replace hb3 := hb3.mb hm (by simp)
       replace hf := hf.mb hm
       replace hAma := hAma.mb hm (fun _ h => by cases h)
       replace hAmb := hAmb.mb hm (fun _ h => by cases h)
       replace hMO := hMO.mb0 hm
       replace hKs := Nat.le_trans hKs hm.size
       replace hS := hS.mb0 hm
       clear hm hI'
       replace hMO := hMO.up hKs
       clear hKs
       refine s_appM (D := FDx) (B := B) hF rfl sl36 rfl rfl hMO hL (.of hO (Nat.zero_le _)) rfl rfl (by simp; omega) (hS.ext.size) (by decide) (by decide) hS.inv rfl ?_; clear hF a; intro v' b' w' a ho' hm hI' hF
       replace hMk := hMk.mb hm hMO.isrow
       replace hb3 := hb3.mb hm (by obtain ⟨_, _, hO2, _⟩ := hMO.ex; exact hb3.ne_own hO2 (by decide))
       replace hf := hf.mb hm
       replace hAma := hAma.mb hm (fun k h => Nat.le_trans (by omega) (hMO.lt k h).1)
       replace hAmb := hAmb.mb hm (fun k h => Nat.le_trans (by omega) (hMO.lt k h).1)
       replace hS := hS.mb hm (fun k h => Nat.le_trans (Nat.le_refl _) (hMO.lt k h).1)
       have hKm := hm.size
       replace hMO := ho'
       clear hm hI' ho' hL
       refine svw hK hF (v_assign rfl) rfl ?_; clear hF a hK K; intro a hF
       replace hF := hF.sub _ (c_ 8 rfl (c_ 51 rfl (c_ 50 rfl (c_ 49 rfl (c_ 48 rfl (c_ 11 rfl (c_ 2 rfl (c_ 3 rfl (c_ 32 rfl (c_ 33 rfl (c_ 34 rfl (n_))))))))))))
       refine W_reg rfl fun K hK => ?_
       refine sv2w hK hF (v_addI rfl rfl (by omega)) (v_move rfl) rfl rfl ?_; clear hF a hK K; intro a hF
       exact ⟨m - 1, by omega, i + 1, _, _, _, hF.sub _ (c_ 2 rfl (c_ 3 rfl (c_ 8 rfl (c_ 32 rfl (c_ 33 rfl (c_ 34 rfl (n_))))))), hS, hf, hAma, hAmb, (hMO.up hKm).cast (map_snoc hr).symm, hMk, hb3, by omega, by omega⟩
      ·
       intro a1 w1 hF hD hj; exact hj.elim
     ·
      skip
      try simp only [dcl] at hc4
      refine W_exit rfl ?_
      refine W_sr rfl fun K hK => ?_
      refine sv3w hK hF (v_move rfl) (v_assign rfl) (v_assign rfl) rfl rfl rfl ?_; clear hF a hK K; intro a hF
      replace hF := hF.sub _ (c_ 7 rfl (c_ 6 rfl (c_ 53 rfl (c_ 2 rfl (c_ 3 rfl (c_ 8 rfl (c_ 32 rfl (c_ 33 rfl (c_ 34 rfl (n_))))))))))
      refine W_ret ?_
      refine ⟨_, _, _, _, hMk, hS.inv, hF, rfl, rfl, fun w2 hX => ?_⟩
      obtain rfl : i = ma.length := by omega
      rw [List.take_length] at hMO
      rw [hyes]
      exact ⟨_, _, rfl, (hMO.xt (by decide) hX).up (Nat.le_trans hKs hX.size), hS.thenX hX (Nat.le_refl _)⟩
end Go.Proofs.YtkoiolamnnmokaaGreat

/- The walk of package matrix: Apply. -/
namespace Go.Proofs.YtkoiolamnnmokaaGreat
open Go Go.Gam
namespace FxFMatE
end FxFMatE
open FxFMatE
end Go.Proofs.YtkoiolamnnmokaaGreat

/- The walks of package invert: Inverse, Rank, Solve. -/
namespace Go.Proofs.YtkoiolamnnmokaaGreat
open Go Go.Gam
namespace FxFInvD
theorem en37 : Ent Tryz.prog 37 := ent Tryz.func37 (by kernel_rfl) (by kernel_rfl)
theorem en40 : Ent Tryz.prog 40 := ent Tryz.func40 (by kernel_rfl) (by kernel_rfl)
theorem en41 : Ent Tryz.prog 41 := ent Tryz.func41 (by kernel_rfl) (by kernel_rfl)
theorem en42 : Ent Tryz.prog 42 := ent Tryz.func42 (by kernel_rfl) (by kernel_rfl)
theorem en43 : Ent Tryz.prog 43 := ent Tryz.func43 (by kernel_rfl) (by kernel_rfl)
theorem en44 : Ent Tryz.prog 44 := ent Tryz.func44 (by kernel_rfl) (by kernel_rfl)
theorem sc53 : Scalar Tryz.prog 53 := ⟨_, Tryz.underlying53, by simp, by simp⟩
theorem sl36 : Sl Tryz.prog 36 53 (.slice none 0 0) 24 := sl_of Tryz.underlying36 rfl (by kernel_rfl)
theorem sl53 : Sl Tryz.prog 53 3 (.int .i64 0) 8 := sl_of Tryz.underlying53 rfl (by kernel_rfl)
end FxFInvD
open FxFInvD
set_option maxRecDepth 100000 in
set_option maxHeartbeats 1000000 in
theorem square_ok (B M : Nat) (o : Fq) (fv : Value) (pmt : Option Addr) (cmt : Nat) (mt : Mtx) (w : World) (hI : Inv FDx B w) (hf : Fo FDx B w fv o) (hAmt : Mat FDx B M w pmt cmt mt) (hlmt : mt.length ≤ maxLen) (hbmt : ∀ r ∈ mt, r.length ≤ maxLen) : Ret Tryz.prog 41 [fv, .slice pmt mt.length cmt] w fun v w' => v = .bool (sqM o mt) ∧ St FDx B w w' := by
 refine enter 17 [(0, fv), (1, .slice pmt mt.length cmt)] 4 Tryz.func41 rfl rfl rfl rfl rfl ?_; intro a hF
 have hS := St.refl hI
 refine W_sr rfl fun K hK => ?_
 refine svw hK hF (v_assign rfl) rfl ?_; clear hF a hK K; intro a hF
 refine W_sr rfl fun K hK => ?_
 refine sv2 hF (v_move rfl) (v_move rfl) rfl rfl ?_; clear hF a; intro a hF
 refine sc hF rfl rfl rfl en37 rfl (May_ok B M o fv pmt cmt mt _ hS.inv hf hAmt hlmt hbmt) ?_; clear hF a; intro v w' a hv hF
 obtain ⟨rfl, hS'⟩ := hv
 replace hAmt := hAmt.st hS'
 replace hS := hS.trans hS'
 clear hS'
 obtain hc1 | hc1 : (mayM o mt) = true ∨ (mayM o mt) = false := by cases (mayM o mt) <;> simp
 ·
  rw [hc1] at hF
  have hmay : mayM o mt = true := hc1
  have hmp := mayM_pos hmay
  obtain ⟨r0, h0⟩ : ∃ r, mt[0]? = some r := ⟨_, List.getElem?_eq_getElem (by omega)⟩
  obtain ⟨g0, o0, pr0, cr0, hg0, hk0, hrow0, -⟩ := hAmt.row h0
  have hw0 := wid_at h0
  subst hg0
  refine sv hF (v_move rfl) rfl ?_; clear hF a; intro a hF
  refine svg hF rfl ?_
  refine sv hF (v_move rfl) rfl ?_; clear hF a; intro a hF
  refine svg hF rfl ?_
  refine sv hF (v_lenS rfl sl36 rfl) rfl ?_; clear hF a; intro a hF
  refine svg hF rfl ?_
  refine sv hF (v_move rfl) rfl ?_; clear hF a; intro a hF
  refine svg hF rfl ?_
  refine sv hF (v_ixS sl36 rfl rfl (by decide) (by omega)) rfl ?_; clear hF a; intro a hF
  refine svg hF rfl ?_
  refine sv hF (v_load sc53 rfl hk0.c) rfl ?_; clear hF a; intro a hF
  refine svg hF rfl ?_
  refine sv hF (v_lenS rfl sl53 rfl) rfl ?_; clear hF a; intro a hF
  refine svg hF rfl ?_
  refine sv3w hK hF (v_eql rfl rfl) (v_pickT rfl rfl) (v_assign rfl) rfl rfl rfl ?_; clear hF a hK K; intro a hF
  replace hF := hF.sub _ (c_ 4 rfl (n_))
  refine W_ret ?_
  refine ⟨_, _, hF, rfl, ?_⟩
  exact ⟨by congr 1; unfold sqM; rw [hmay, hw0]; simp only [Bool.true_and]; rw [decide_eq_decide]; omega, hS⟩
 ·
  rw [hc1] at hF
  refine sv hF (v_move rfl) rfl ?_; clear hF a; intro a hF
  refine svn5 hF rfl rfl rfl rfl rfl rfl rfl rfl rfl rfl rfl rfl rfl rfl rfl ?_; clear hF a; intro a hF
  refine svn2 hF rfl rfl rfl rfl rfl rfl ?_; clear hF a; intro a hF
  refine sv2w hK hF (v_pickF rfl rfl) (v_assign rfl) rfl rfl ?_; clear hF a hK K; intro a hF
  replace hF := hF.sub _ (c_ 4 rfl (n_))
  refine W_ret ?_
  refine ⟨_, _, hF, rfl, ?_⟩
  exact ⟨by congr 1; unfold sqM; rw [show mayM o mt = false by simpa using hc1]; rfl, hS⟩
set_option maxRecDepth 100000 in
set_option maxHeartbeats 1000000 in
theorem Inverse_ok (B M wb p : Nat) (hp : Prm wb p) (fv : Value) (pmt : Option Addr) (cmt : Nat) (mt : Mtx) (w : World) (hI : Inv FDx B w) (hM : M ≤ w.heap.size) (hf : Fo FDx B w fv (some (wb, p))) (hAmt : Mat FDx B M w pmt cmt mt) (hlmt : mt.length ≤ maxLen) (hbmt : ∀ r ∈ mt, r.length ≤ maxLen) : Ret Tryz.prog 23 [fv, .slice pmt mt.length cmt] w fun v w' => ∃ ob u, v = .tuple #[u, .int .i64 (invR hp mt).1] ∧ MOwn FDx B w.heap.size 0 w'.heap.size w' 53 u ob (invR hp mt).2 ∧ St FDx B w w' := by
 refine enter2 42 [(0, fv), (1, .slice pmt mt.length cmt)] 4 5 Tryz.func23 rfl rfl rfl rfl rfl ?_; intro a hF
 have hS := St.refl hI
 refine W_sr rfl fun K hK => ?_
 refine sv2w hK hF (v_assign rfl) (v_assign rfl) rfl rfl ?_; clear hF a hK K; intro a hF
 refine W_seq ?_
 refine W_sr rfl fun K hK => ?_
 refine sv2 hF (v_move rfl) (v_move rfl) rfl rfl ?_; clear hF a; intro a hF
 refine sc hF rfl rfl rfl en41 rfl (square_ok B M (some (wb, p)) fv pmt cmt mt _ hS.inv hf hAmt hlmt hbmt) ?_; clear hF a; intro v w' a hv hF
 obtain ⟨rfl, hS'⟩ := hv
 replace hf := hf.st hS'
 replace hAmt := hAmt.st hS'
 replace hS := hS.trans hS'
 clear hS'
 refine svw hK hF (v_not rfl) rfl ?_; clear hF a hK K; intro a hF
 replace hF := hF.sub _ (c_ 14 rfl (c_ 5 rfl (c_ 4 rfl (c_ 0 rfl (c_ 1 rfl (n_))))))
 refine W_if hF rfl (fun hc1 => ?_) (fun hc1 => ?_)
 ·
  skip
  try simp only [dcl] at hc1
  refine W_sr rfl fun K hK => ?_
  refine sv2w hK hF (v_assign rfl) (v_assign rfl) rfl rfl ?_; clear hF a hK K; intro a hF
  replace hF := hF.sub _ (c_ 5 rfl (c_ 4 rfl (c_ 0 rfl (c_ 1 rfl (n_)))))
  refine W_ret ?_
  refine ⟨_, _, _, hF, rfl, rfl, ?_⟩
  rw [invR_bad hp (by simpa using hc1)]
  exact ⟨none, _, rfl, MOwn.nil _ _ _ _ _ _ _ (Nat.zero_le _), hS⟩
 ·
  skip
  try simp only [dcl] at hc1
  refine W_skip ?_
  have hsq : sqM (some (wb, p)) mt = true := by simpa using hc1
  obtain ⟨hmx, hn1, hn20, -⟩ := sqM_Mx hsq
  obtain ⟨n, hn⟩ : ∃ n, n = mt.length := ⟨_, rfl⟩
  rw [← hn] at hmx hn1 hn20 hF
  have hbd := hmx.bd hp
  have htab := hmx.eq_tab
  have hid : identM (n : Int) = tab n n I1 := by rw [identM_of ⟨hn1, hn20⟩, idM_tab]; rfl
  refine W_sr rfl fun K hK => ?_
  refine sv3w hK hF (v_move rfl) (v_lenS rfl sl36 rfl) (v_assign rfl) rfl rfl rfl ?_; clear hF a hK K; intro a hF
  replace hF := hF.sub _ (c_ 6 rfl (c_ 5 rfl (c_ 4 rfl (c_ 0 rfl (c_ 1 rfl (n_))))))
  refine W_sr rfl fun K hK => ?_
  refine sv2 hF (v_move rfl) (v_move rfl) rfl rfl ?_; clear hF a; intro a hF
  refine sc hF rfl rfl rfl en43 rfl (Identity_ok B (n : Int) _ hS.inv (by omega)) ?_; clear hF a; intro v w' a hv hF
  obtain ⟨ob, ho, hS'⟩ := hv
  rw [hid] at ho
  obtain ⟨sI, cI, rfl, hId⟩ := ho.mat (by decide) (Nat.zero_le _)
  rw [tab_length] at hF
  clear ho
  replace hf := hf.st hS'
  replace hAmt := hAmt.st hS'
  replace hS := hS.trans hS'
  clear hS'
  refine sc hF rfl rfl rfl en42 rfl (beside_ok B _ n n n pmt sI cmt cI (en mt) I1 _ hS.inv (Nat.le_refl _) (htab ▸ hAmt.mono (Nat.le_trans hM hS.ext.size)) hId ⟨hn1, hn20⟩ ⟨hn1, hn20⟩ hn20) ?_; clear hF a; intro v w' a hv hF
  obtain ⟨gv, cap, bs, rc, rfl, hO, hW, hS'⟩ := hv
  replace hO := hO.le hS.ext.size
  replace hW := hW.le hS.ext.size
  clear hId hAmt
  replace hf := hf.st hS'
  replace hS := hS.trans hS'
  clear hS'
  refine svw hK hF (v_assign rfl) rfl ?_; clear hF a hK K; intro a hF
  replace hF := hF.sub _ (c_ 7 rfl (c_ 6 rfl (c_ 5 rfl (c_ 4 rfl (c_ 0 rfl (n_))))))
  refine W_seq ?_
  refine W_sr rfl fun K hK => ?_
  refine sv3 hF (v_move rfl) (v_move rfl) (v_move rfl) rfl rfl rfl ?_; clear hF a; intro a hF
  refine sc hF rfl rfl rfl en44 rfl (reduce_ok B w.heap.size wb p hp fv gv cap n (n + n) n bs rc _ _ hS.inv hf hO hW hS.ext.size (Fld.bes_bd hp.fld hbd hp.fld.I1_bd) (by omega) ⟨by omega, by omega⟩) ?_; clear hF a; intro v w' a hv hF
  clear hO hW bs rc
  obtain ⟨rfl, ⟨bs, rc, hO, hW⟩, hz⟩ := hv
  replace hW := hW
  replace hS := hS.thenZ hz (fun k hk => Nat.not_le.2 hk)
  clear hz hf
  refine sv2w hK hF (v_move rfl) (v_lss rfl rfl) rfl rfl ?_; clear hF a hK K; intro a hF
  replace hF := hF.sub _ (c_ 26 rfl (c_ 7 rfl (c_ 6 rfl (c_ 5 rfl (c_ 4 rfl (n_))))))
  refine W_if hF rfl (fun hc2 => ?_) (fun hc2 => ?_)
  ·
   skip
   try simp only [dcl] at hc2
   refine W_sr rfl fun K hK => ?_
   refine sv2w hK hF (v_assign rfl) (v_assign rfl) rfl rfl ?_; clear hF a hK K; intro a hF
   replace hF := hF.sub _ (c_ 5 rfl (c_ 4 rfl (c_ 7 rfl (c_ 6 rfl (n_)))))
   refine W_ret ?_
   refine ⟨_, _, _, hF, rfl, rfl, ?_⟩
   rw [invR_none hp hsq (by rw [← hn]; exact iv_lt hp (by omega))]
   exact ⟨none, _, rfl, MOwn.nil _ _ _ _ _ _ _ (Nat.zero_le _), hS⟩
  ·
   skip
   try simp only [dcl] at hc2
   refine W_skip ?_
   have hiv := iv_ge hp (n := n) (f := en mt) (by omega)
   have hinv := invR_some hp hsq (by rw [← hn]; exact hiv)
   rw [← hn] at hinv
   obtain ⟨K0, hK0⟩ : ∃ k, k = w'.heap.size := ⟨_, rfl⟩
   have hWd := hW.mat (gb := gv) hO (by decide)
   rw [← hK0] at hWd
   have hwK : w.heap.size ≤ K0 := by have := hS.ext.size; omega
   clear hO hW
   refine W_sr rfl fun K hK => ?_
   refine svw hK hF (v_assign rfl) rfl ?_; clear hF a hK K; intro a hF
   replace hF := hF.sub _ (c_ 8 rfl (c_ 7 rfl (c_ 6 rfl (c_ 5 rfl (c_ 4 rfl (n_))))))
   refine W_seq ?_
   refine W_sr rfl fun K hK => ?_
   refine sv3w hK hF (v_move rfl) (v_lenS rfl sl36 rfl) (v_move rfl) rfl rfl rfl ?_; clear hF a hK K; intro a hF
   replace hF := hF.sub _ (c_ 29 rfl (c_ 28 rfl (c_ 27 rfl (c_ 8 rfl (c_ 6 rfl (c_ 5 rfl (c_ 4 rfl (n_))))))))
   refine W_block ?_
   refine W_loop (fun m a w1 => ∃ (i : Nat) (v8 : Value) (b8 : Option Nat), Fr 42 [(6, .int .i64 (n : Int)), (8, v8), (27, .slice (some ⟨gv, 0, none⟩) n cap), (28, .int .i64 (n : Int)), (29, .int .i64 (i : Int))] a ∧ (St FDx B w w1) ∧ (Mat FDx B K0 w1 (some ⟨gv, 0, none⟩) cap (tab n (n + n) (hp.fld.red n (Fld.bes n (en mt) I1) n).1)) ∧ (MOwn FDx B K0 0 w1.heap.size w1 53 v8 b8 ((List.range i).map (trow n (half hp n (en mt))))) ∧ (K0 ≤ w1.heap.size) ∧ (i ≤ n) ∧ (m + i = n)) (n) ?_ ?_
   ·
    skip
    exact ⟨0, _, none, hF.sub _ (c_ 6 rfl (c_ 8 rfl (c_ 27 rfl (c_ 28 rfl (c_ 29 rfl (n_)))))), hS, hWd, MOwn.nil _ _ _ _ _ _ _ (Nat.zero_le _), by omega, by omega, by omega⟩
   ·
    skip
    clear hF
    clear hS hWd
    rintro m a w1 ⟨i, v8, b8, hF, hS, hWd, hMO, hKz, hi, hm⟩
    obtain ⟨KM, hKe⟩ : ∃ K, K = w1.heap.size := ⟨_, rfl⟩
    rw [← hKe] at hMO
    have hKs : KM ≤ w1.heap.size := by omega
    clear hKe
    refine W_sr rfl fun K hK => ?_
    refine svw hK hF (v_lss rfl rfl) rfl ?_; clear hF a hK K; intro a hF
    refine W_seq ?_
    refine W_if hF rfl (fun hc3 => ?_) (fun hc3 => ?_)
    ·
     skip
     try simp only [dcl] at hc3
     have hlt : i < n := by omega
     obtain ⟨gw, ow, pr, cr, hgw, hkw, hrw, -⟩ := hWd.row (tab_at (f := (hp.fld.red n (Fld.bes n (en mt) I1) n).1) (m := n + n) hlt)
     cases hgw
     have hrl : ((List.range (n + n)).map fun j => (((hp.fld.red n (Fld.bes n (en mt) I1) n).1 i j : Nat) : Int)).length = n + n := by simp
     rw [hrl] at hrw hkw
     have hcr := hrw.capd
     have hpart := hrw.part (lo := n) (hi := n + n) (by omega) (by simp)
     have hhr := half_row hp n (en mt) i
     have hxs : (List.take (n + n) (zints ((List.range (n + n)).map fun j => (((hp.fld.red n (Fld.bes n (en mt) I1) n).1 i j : Nat) : Int)))).drop n = zints (trow n (half hp n (en mt)) i) := by
      rw [List.take_of_length_le (by simp), ← hhr]; simp [zints, trow]
     rw [hxs] at hpart
     rw [show n + n - n = (trow n (half hp n (en mt)) i).length by simp] at hpart
     clear hxs hhr
     refine W_skip ?_
     refine W_seq ?_
     refine W_block ?_
     refine W_sr rfl fun K hK => ?_
     refine sv hF (v_ixS sl36 rfl rfl (by omega) (by omega)) rfl ?_; clear hF a; intro a hF
     refine sv hF (v_load sc53 rfl (by rw [toNat_c]; exact hkw.c)) rfl ?_; clear hF a; intro a hF
     refine svw hK hF (v_assign rfl) rfl ?_; clear hF a hK K; intro a hF
     replace hF := hF.sub _ (c_ 10 rfl (c_ 6 rfl (c_ 8 rfl (c_ 27 rfl (c_ 28 rfl (c_ 29 rfl (n_)))))))
     refine W_reg rfl fun K hK => ?_
     refine sv4 hF (v_move rfl) (v_move rfl) (v_move rfl) (v_slLo sl53 rfl rfl (by omega) (by omega)) rfl rfl rfl rfl ?_; clear hF a; intro a hF
     rw [show n + n - n = (trow n (half hp n (en mt)) i).length by simp] at hF
     refine sc hF rfl rfl rfl en40 rfl (Clone_ok B _ _ _ _ _ hS.inv hpart hKz (by simp; omega)) ?_; clear hF a; intro v w' a hv hF
     obtain ⟨ob, hC, hS'⟩ := hv
     replace hC := hC.le hKz
     replace hWd := hWd.st hS'
     replace hMO := hMO.st (by decide) hS'
     replace hKz := Nat.le_trans hKz hS'.ext.size
     replace hKs := Nat.le_trans hKs hS'.ext.size
     replace hS := hS.trans hS'
     clear hS'
     obtain ⟨a_, c_r, rfl⟩ := hC.shape
     refine s_bs (D := FDx) (B := B) hF sl36 rfl rfl (by decide) (by simp [Value.cells]) (by decide) hS.inv rfl ?_; clear hF a; intro w' a hm hI' hL hF
     replace hWd := hWd.mb hm (fun _ h => by cases h)
     replace hMO := hMO.mb0 hm
     replace hKz := Nat.le_trans hKz hm.size
     replace hKs := Nat.le_trans hKs hm.size
     replace hC := hC.mb hm (fun _ _ => by simp)
     replace hS := hS.mb0 hm
     clear hm hI'
     replace hMO := hMO.up hKs
     clear hKs
     refine s_appM (D := FDx) (B := B) hF rfl sl36 rfl rfl hMO hL (.of hC (Nat.zero_le _)) rfl rfl (by simp; omega) (hKz) (by decide) (by decide) hS.inv rfl ?_; clear hF a; intro v' b' w' a ho' hm hI' hF
     replace hWd := hWd.mb hm (fun k h => Nat.le_trans ((Nat.le_refl _)) (hMO.lt k h).1)
     replace hKz := Nat.le_trans hKz hm.size
     replace hS := hS.mb hm (fun k h => Nat.le_trans hwK (hMO.lt k h).1)
     have hKm := hm.size
     replace hMO := ho'
     clear hm hI' ho' hL
     refine svw hK hF (v_assign rfl) rfl ?_; clear hF a hK K; intro a hF
     replace hF := hF.sub _ (c_ 8 rfl (c_ 6 rfl (c_ 27 rfl (c_ 28 rfl (c_ 29 rfl (n_))))))
     refine W_reg rfl fun K hK => ?_
     refine sv2w hK hF (v_addI rfl rfl (by omega)) (v_move rfl) rfl rfl ?_; clear hF a hK K; intro a hF
     exact ⟨m - 1, by omega, i + 1, _, _, hF.sub _ (c_ 6 rfl (c_ 8 rfl (c_ 27 rfl (c_ 28 rfl (c_ 29 rfl (n_)))))), hS, hWd, (hMO.up hKm).cast (by rw [List.range_succ, List.map_append]; rfl), hKz, by omega, by omega⟩
    ·
     skip
     try simp only [dcl] at hc3
     refine W_exit rfl ?_
     refine W_sr rfl fun K hK => ?_
     refine sv3w hK hF (v_move rfl) (v_assign rfl) (v_assign rfl) rfl rfl rfl ?_; clear hF a hK K; intro a hF
     replace hF := hF.sub _ (c_ 5 rfl (c_ 4 rfl (c_ 41 rfl (c_ 6 rfl (c_ 8 rfl (c_ 27 rfl (c_ 28 rfl (c_ 29 rfl (n_)))))))))
     refine W_ret ?_
     refine ⟨_, _, _, hF, rfl, rfl, ?_⟩
     obtain rfl : i = n := by omega
     rw [hinv]
     exact ⟨_, _, rfl, (hMO.up hKs).le hwK (Nat.zero_le _), hS⟩
end Go.Proofs.YtkoiolamnnmokaaGreat

/- What the statements of layer 5 ask of inverses, ranks, what is solved. No program in sight. -/
namespace Go.Gam
open Px
namespace Fld
variable (F : Fld)
theorem piv_congr {n c : Nat} {f g : Tb} (h : ∀ i, i < n → f i c = g i c) : ∀ {d t : Nat}, t + d ≤ n → piv f n c t d = piv g n c t d
  | 0, _, _ => rfl
  | d + 1, t, hd => by
    unfold piv
    rw [h t (by omega), piv_congr h (by omega)]
theorem red_cols {n C : Nat} {f g : Tb} (h : ∀ i, i < n → ∀ j, j < C → f i j = g i j) : ∀ c, c ≤ C → (F.red n f c).2 = (F.red n g c).2 ∧ (∀ i, i < n → ∀ j, j < C → (F.red n f c).1 i j = (F.red n g c).1 i j) ∧ (F.red n f c).2 ≤ n
  | 0, _ => ⟨rfl, h, Nat.zero_le _⟩
  | c + 1, hc => by
    obtain ⟨h1, h2, h3⟩ := red_cols h c (by omega)
    rw [red, red, ← h1]
    clear h1
    generalize (F.red n f c).1 = f1 at *
    generalize (F.red n g c).1 = g1 at *
    generalize (F.red n f c).2 = t at *
    have hp : piv f1 n c t (n - t) = piv g1 n c t (n - t) := piv_congr (fun i hi => h2 i hi c (by omega)) (by omega)
    unfold stp
    rw [← hp]
    cases hk : piv f1 n c t (n - t) with
    | none => exact ⟨rfl, h2, h3⟩
    | some k =>
      obtain ⟨k1, k2, -, -⟩ := piv_some hk
      refine ⟨rfl, fun i hi j hj => ?_, by show t + 1 ≤ n; omega⟩
      dsimp only
      unfold op
      rw [h2 k (by omega) j hj, h2 k (by omega) c (by omega), h2 _ (sw_lt (by omega) (by omega) hi) j hj]
      dsimp only
      rw [h2 _ (sw_lt (by omega) (by omega) hi) c (by omega)]
theorem rk_congr {n c : Nat} {f g : Tb} (h : ∀ i, i < n → ∀ j, j < c → f i j = g i j) : F.rk n f c = F.rk n g c := (F.red_cols h c (Nat.le_refl _)).1
theorem Iv.congr {n : Nat} {E E' G : Tb} (h : F.Iv n E E') (hb : F.Bd G) (he : ∀ i j, i < n → j < n → G i j = E i j) : F.Iv n G E' :=
  ⟨hb, h.bd', fun i j hi hj => by rw [← h.r i j hi hj]; exact F.mm_congr (fun l hl => he i l hi hl) (fun _ _ => rfl), fun i j hi hj => by rw [← h.l i j hi hj]; exact F.mm_congr (fun _ _ => rfl) (fun l hl => he l j hl hj)⟩
theorem rk_iv {n : Nat} {f : Tb} (h : (F.iv n f).isSome = true) : F.rk n f n = n := by
  have e : F.rk n f n = F.rk n (bes n f I1) n := F.rk_congr fun i _ j hj => by unfold bes; rw [if_pos hj]
  unfold iv at h
  split at h
  · cases h
  · rename_i hn
    have h2 : ¬ F.rk n (bes n f I1) n < n := hn
    have h3 := (F.red_cols (n := n) (C := n) (f := f) (g := f) (fun _ _ _ _ => rfl) n (Nat.le_refl _)).2.2
    have h4 : F.rk n f n ≤ n := h3
    omega
end Fld
section
variable {wb p : Nat} (hp : Prm wb p)
theorem fld_bd16 {f : Tb} (h : hp.fld.Bd f) : ∀ i j, f i j < 2 ^ wb := fun i j => by have := h i j; rw [hp.fld_w] at this; exact this
theorem mx_tab {n m : Nat} {g : Tb} (h : hp.fld.Bd g) : Mx wb n m (tab n m g) := Mx.tab fun i j _ _ => fld_bd16 hp h i j
end
def unl (l : List Int) (b : Int) : Bool := decide (l.Nodup ∧ ∀ x ∈ l, 0 ≤ x ∧ x < b)
theorem unl_no {l : List Int} {b : Int} (h : ¬ (l.Nodup ∧ ∀ x ∈ l, 0 ≤ x ∧ x < b)) : unl l b = false := decide_eq_false h
theorem nodup_no {l : List Int} {i k : Nat} {x : Int} (h : k < i) (hi : l[i]? = some x) (hk : l[k]? = some x) : ¬ l.Nodup := fun hn => by
  obtain ⟨h1, h2⟩ := List.getElem?_eq_some_iff.1 hi
  obtain ⟨h3, h4⟩ := List.getElem?_eq_some_iff.1 hk
  exact List.pairwise_iff_getElem.1 hn k i h3 h1 h (h4.trans h2.symm)
theorem nodup_snoc {l : List Int} {i : Nat} {x : Int} (h : (l.take i).Nodup) (hi : l[i]? = some x) (hx : ∀ y ∈ l.take i, y ≠ x) : (l.take (i + 1)).Nodup := by
  rw [take_snoc hi]
  refine List.pairwise_append.2 ⟨h, List.pairwise_singleton _ _, fun a ha b hb => ?_⟩
  obtain rfl : b = x := by simpa using hb
  exact hx a ha
theorem gpow_fld {wb p x n : Nat} (hp : Prm wb p) (hx : x < 2 ^ wb) : gpow (some (wb, p)) (x : Int) (n : Int) = (hp.fld.pow x n : Int) := by
  rw [gpow_in hx]; exact congrArg _ (fld_pow p hp.irrP x n).symm
def vtab {wb p : Nat} (hp : Prm wb p) (l : List Nat) : Tb := fun i k => hp.fld.pow (l.getD i 0) k
def vrows {wb p : Nat} (hp : Prm wb p) (l : List Nat) : Mtx := tab l.length l.length (vtab hp l)
/-! ### the smallest ones -/
end Go.Gam
