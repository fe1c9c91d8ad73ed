/- Texts of the claim ProfileAny (part 7), put together in the order of their imports. -/
import Derived.Test.YtkoiolamnnmokaaGreatKProfileAny6
import Derived.Deep.WholeRow
/- The walk of package matrix: Mul. -/
set_option linter.unusedVariables false
set_option linter.unusedSimpArgs false
namespace Go.Proofs.YtkoiolamnnmokaaGreat
open Go Go.Gam


namespace FxFMatD
theorem en37 : Ent Tryz.prog 37 := ent Tryz.func37 (by kernel_rfl) (by kernel_rfl)
theorem en107 : Ent Tryz.prog 107 := ent Tryz.func107 (by kernel_rfl) (by kernel_rfl)
theorem en108 : Ent Tryz.prog 108 := ent Tryz.func108 (by kernel_rfl) (by kernel_rfl)
theorem hmix : Tryz.prog.follows .mixedOrders = true := by kernel_rfl
theorem on53 : Gam.One Tryz.prog 53 := by unfold Gam.One; kernel_rfl
theorem sc42 : Scalar Tryz.prog 42 := ⟨_, Tryz.underlying42, by simp, by simp⟩
theorem sc53 : Scalar Tryz.prog 53 := ⟨_, Tryz.underlying53, by simp, by simp⟩
theorem sl36 : Sl Tryz.prog 36 53 (.slice none 0 0) 24 := sl_of Tryz.underlying36 rfl (by kernel_rfl)
theorem sl53 : Sl Tryz.prog 53 3 (.int .i64 0) 8 := sl_of Tryz.underlying53 rfl (by kernel_rfl)
theorem zv53 : Zv Tryz.prog 53 (.slice none 0 0) := zv_of rfl (by kernel_rfl)
end FxFMatD
open FxFMatD

set_option maxRecDepth 100000 in
set_option maxHeartbeats 1000000 in
theorem MulM_ok (B M : Nat) (o : Fq) (fv : Value) (pma : Option Addr) (cma : Nat) (ma : Mtx) (pmb : Option Addr) (cmb : Nat) (mb : Mtx) (w : World) (hI : Inv FDx B w) (hM : M ≤ w.heap.size) (hf : Fo FDx B w fv o) (hAma : Mat FDx B M w pma cma ma) (hlma : ma.length ≤ maxLen) (hbma : ∀ r ∈ ma, r.length ≤ maxLen) (hAmb : Mat FDx B M w pmb cmb mb) (hlmb : mb.length ≤ maxLen) (hbmb : ∀ r ∈ mb, r.length ≤ maxLen) : Ret Tryz.prog 87 [fv, .slice pma ma.length cma, .slice pmb mb.length cmb] w fun v w' => ∃ ob u, v = .tuple #[u, .int .i64 (errV (mulM o ma mb))] ∧ MOwn FDx B w.heap.size 0 w'.heap.size w' 53 u ob ((mulM o ma mb).getD []) ∧ St FDx B w w' := by
 refine enterM2 (D := FDx) (B := B) w.heap.size 54 [(0, fv), (1, .slice pma ma.length cma), (2, .slice pmb mb.length cmb)] 6 7 Tryz.func87 rfl rfl rfl rfl rfl ?_; intro a hF
 have hS := St.refl hI
 have hl2 := hlma
 have hl3 := hlmb
 simp only [maxLen] at hl2 hl3
 have hMk := Mk.nil w.heap.size w
 refine W_sr rfl (fun K hK => ?_)
 obtain ⟨g3, hg3⟩ : ∃ g, g = w.heap.size := ⟨_, rfl⟩
 refine s_boxN (D := FDx) (B := B) hF rfl (hf.cells1) (by decide) hS.inv rfl ?_; clear hF a; intro w' a hm hI' hb3 hsz hF
 replace hf := hf.mb hm
 replace hAma := hAma.mb hm (fun _ h => by cases h)
 replace hAmb := hAmb.mb hm (fun _ h => by cases h)
 replace hMk := hMk.mb hm (fun k e => by cases e)
 replace hS := hS.mb0 hm
 clear hm hI' hsz
 rw [← hg3] at hb3 hF
 refine sv2 hF (v_assign rfl) (v_assign rfl) rfl rfl ?_; clear hF a; intro a hF
 refine WL_nil (hK _ _ ?_)
 clear hK K
 replace hF := hF.sub _ (c_ 7 rfl (c_ 6 rfl (c_ 3 rfl (c_ 1 rfl (c_ 2 rfl (n_))))))
 refine W_seq ?_
 refine W_sr rfl (fun K hK => ?_)
 refine sv hF (v_load sc42 rfl (by first | assumption | (rw [toNat_c]; assumption) | exact KC.c (by assumption) | (rw [toNat_c]; exact KC.c (by assumption)) | exact Box.at (by assumption))) rfl ?_; clear hF a; intro a hF
 refine sv hF (v_move rfl) rfl ?_; clear hF a; intro a hF
 refine sc hF rfl rfl rfl en37 rfl (May_ok B M o fv pma cma ma _ hS.inv hf hAma hlma hbma) ?_; clear hF a; intro v w' a hv hF
 obtain ⟨rfl, hS'⟩ := hv
 replace hf := hf.st hS'
 replace hAma := hAma.st hS'
 replace hAmb := hAmb.st hS'
 replace hMk := hMk.st hS'
 replace hb3 := hb3.st hS'
 replace hS := hS.trans hS'
 clear hS'
 refine sb hF (v_not rfl) rfl ?_ ?_
 ·
  clear hF a; intro hc1 a hF
  try simp only [dcl] at hc1
  refine sv hF (v_move rfl) rfl ?_; clear hF a; intro a hF
  refine svn hF rfl rfl rfl ?_; clear hF a; intro a hF
  refine svn hF rfl rfl rfl ?_; clear hF a; intro a hF
  refine svn hF rfl rfl rfl ?_; clear hF a; intro a hF
  refine svn hF rfl rfl rfl ?_; clear hF a; intro a hF
  refine sv2 hF (v_pickT rfl rfl) (v_move rfl) rfl rfl ?_; clear hF a; intro a hF
  refine svn hF rfl rfl rfl ?_; clear hF a; intro a hF
  refine svn hF rfl rfl rfl ?_; clear hF a; intro a hF
  refine svn hF rfl rfl rfl ?_; clear hF a; intro a hF
  refine svn hF rfl rfl rfl ?_; clear hF a; intro a hF
  refine svn hF rfl rfl rfl ?_; clear hF a; intro a hF
  refine svn hF rfl rfl rfl ?_; clear hF a; intro a hF
  refine svn hF rfl rfl rfl ?_; clear hF a; intro a hF
  refine sv hF (v_pickT rfl rfl) rfl ?_; clear hF a; intro a hF
  refine WL_nil (hK _ _ ?_)
  clear hK K
  replace hF := hF.sub _ (c_ 31 rfl (c_ 7 rfl (c_ 6 rfl (c_ 3 rfl (c_ 1 rfl (c_ 2 rfl (n_)))))))
  refine W_ifT hF rfl ?_
  refine W_sr rfl (fun K hK => ?_)
  refine sv2 hF (v_assign rfl) (v_assign rfl) rfl rfl ?_; clear hF a; intro a hF
  refine WL_nil (hK _ _ ?_)
  clear hK K
  replace hF := hF.sub _ (c_ 7 rfl (c_ 6 rfl (c_ 3 rfl (c_ 1 rfl (c_ 2 rfl (n_))))))
  refine W_ret ?_
  refine ⟨_, _, _, _, hMk, hS.inv, hF, rfl, rfl, fun w2 hX => ?_⟩
  have hno : mulM o ma mb = none := mulM_f (.inl (by simpa using hc1))
  rw [hno]
  exact ⟨none, _, rfl, MOwn.nil _ _ _ _ _ _ _ (Nat.zero_le _), hS.thenX hX (Nat.le_refl _)⟩
 ·
  clear hF a; intro hc1 a hF
  try simp only [dcl] at hc1
  refine sv hF (v_move rfl) rfl ?_; clear hF a; intro a hF
  refine svg hF rfl ?_
  refine sv hF (v_load sc42 rfl (by first | assumption | (rw [toNat_c]; assumption) | exact KC.c (by assumption) | (rw [toNat_c]; exact KC.c (by assumption)) | exact Box.at (by assumption))) rfl ?_; clear hF a; intro a hF
  refine svg hF rfl ?_
  refine sv hF (v_move rfl) rfl ?_; clear hF a; intro a hF
  refine svg hF rfl ?_
  refine sc hF rfl rfl rfl en37 rfl (May_ok B M o fv pmb cmb mb _ hS.inv hf hAmb hlmb hbmb) ?_; clear hF a; intro v w' a hv hF
  obtain ⟨rfl, hS'⟩ := hv
  replace hf := hf.st hS'
  replace hAma := hAma.st hS'
  replace hAmb := hAmb.st hS'
  replace hMk := hMk.st hS'
  replace hb3 := hb3.st hS'
  replace hS := hS.trans hS'
  clear hS'
  refine svg hF rfl ?_
  refine sb hF (v_not rfl) rfl ?_ ?_
  ·
   clear hF a; intro hc2 a hF
   try simp only [dcl] at hc2
   refine sv2 hF (v_pickF rfl rfl) (v_move rfl) rfl rfl ?_; clear hF a; intro a hF
   refine svn hF rfl rfl rfl ?_; clear hF a; intro a hF
   refine svn hF rfl rfl rfl ?_; clear hF a; intro a hF
   refine svn hF rfl rfl rfl ?_; clear hF a; intro a hF
   refine svn hF rfl rfl rfl ?_; clear hF a; intro a hF
   refine svn hF rfl rfl rfl ?_; clear hF a; intro a hF
   refine svn hF rfl rfl rfl ?_; clear hF a; intro a hF
   refine svn hF rfl rfl rfl ?_; clear hF a; intro a hF
   refine sv hF (v_pickT rfl rfl) rfl ?_; clear hF a; intro a hF
   refine WL_nil (hK _ _ ?_)
   clear hK K
   replace hF := hF.sub _ (c_ 31 rfl (c_ 7 rfl (c_ 6 rfl (c_ 3 rfl (c_ 1 rfl (c_ 2 rfl (n_)))))))
   refine W_ifT hF rfl ?_
   refine W_sr rfl (fun K hK => ?_)
   refine sv2 hF (v_assign rfl) (v_assign rfl) rfl rfl ?_; clear hF a; intro a hF
   refine WL_nil (hK _ _ ?_)
   clear hK K
   replace hF := hF.sub _ (c_ 7 rfl (c_ 6 rfl (c_ 3 rfl (c_ 1 rfl (c_ 2 rfl (n_))))))
   refine W_ret ?_
   refine ⟨_, _, _, _, hMk, hS.inv, hF, rfl, rfl, fun w2 hX => ?_⟩
   have hno : mulM o ma mb = none := mulM_f (.inr (.inl (by simpa using hc2)))
   rw [hno]
   exact ⟨none, _, rfl, MOwn.nil _ _ _ _ _ _ _ (Nat.zero_le _), hS.thenX hX (Nat.le_refl _)⟩
  ·
   clear hF a; intro hc2 a hF
   try simp only [dcl] at hc2
   refine sv2 hF (v_pickF rfl rfl) (v_move rfl) rfl rfl ?_; clear hF a; intro a hF
   refine svg hF rfl ?_
   have hm1 : mayM o ma = true := by simpa using hc1
   have hm2 : mayM o mb = true := by simpa using hc2
   have hp1 := mayM_pos hm1
   have hp2 := mayM_pos hm2
   obtain ⟨rma, hrma⟩ : ∃ r, ma[0]? = some r := ⟨_, List.getElem?_eq_getElem (by omega)⟩
   obtain ⟨gma, oma, prma, crma, hgma, hkma, hrowma, -⟩ := hAma.row hrma
   have hwma := wid_at hrma
   rw [hgma] at hF
   refine sv hF (v_move rfl) rfl ?_; clear hF a; intro a hF
   refine svg hF rfl ?_
   refine sv hF (v_ixS sl36 rfl rfl (by decide) (by omega)) rfl ?_; clear hF a; intro a hF
   refine svg hF rfl ?_
   refine sv hF (v_load sc53 rfl hkma.c) rfl ?_; clear hF a; intro a hF
   refine svg hF rfl ?_
   refine sv hF (v_lenS rfl sl53 rfl) rfl ?_; clear hF a; intro a hF
   refine svg hF rfl ?_
   refine sv hF (v_move rfl) rfl ?_; clear hF a; intro a hF
   refine svg hF rfl ?_
   refine sv hF (v_lenS rfl sl36 rfl) rfl ?_; clear hF a; intro a hF
   refine svg hF rfl ?_
   refine sv hF (v_neq rfl rfl) rfl ?_; clear hF a; intro a hF
   refine sv hF (v_pickF rfl rfl) rfl ?_; clear hF a; intro a hF
   refine WL_nil (hK _ _ ?_)
   clear hK K
   replace hF := hF.sub _ (c_ 31 rfl (c_ 7 rfl (c_ 6 rfl (c_ 3 rfl (c_ 1 rfl (c_ 2 rfl (n_)))))))
   refine W_if hF rfl (fun hc3 => ?_) (fun hc3 => ?_)
   ·
    skip
    try simp only [dcl] at hc3
    refine W_sr rfl (fun K hK => ?_)
    refine sv2 hF (v_assign rfl) (v_assign rfl) rfl rfl ?_; clear hF a; intro a hF
    refine WL_nil (hK _ _ ?_)
    clear hK K
    replace hF := hF.sub _ (c_ 7 rfl (c_ 6 rfl (c_ 3 rfl (c_ 1 rfl (c_ 2 rfl (n_))))))
    refine W_ret ?_
    refine ⟨_, _, _, _, hMk, hS.inv, hF, rfl, rfl, fun w2 hX => ?_⟩
    have hno : mulM o ma mb = none := mulM_f (.inr (.inr (by rw [hwma]; omega)))
    rw [hno]
    exact ⟨none, _, rfl, MOwn.nil _ _ _ _ _ _ _ (Nat.zero_le _), hS.thenX hX (Nat.le_refl _)⟩
   ·
    skip
    try simp only [dcl] at hc3
    refine W_skip ?_
    rw [← hgma] at hF
    have hyes := mulM_t hm1 hm2 (by rw [hwma]; omega)
    refine W_sr rfl (fun K hK => ?_)
    refine sv hF (v_assign rfl) rfl ?_; clear hF a; intro a hF
    refine WL_nil (hK _ _ ?_)
    clear hK K
    replace hF := hF.sub _ (c_ 8 rfl (c_ 7 rfl (c_ 6 rfl (c_ 3 rfl (c_ 1 rfl (c_ 2 rfl (n_)))))))
    refine W_seq ?_
    refine W_sr rfl (fun K hK => ?_)
    refine sv hF (v_move rfl) rfl ?_; clear hF a; intro a hF
    refine sv hF (v_lenS rfl sl36 rfl) rfl ?_; clear hF a; intro a hF
    refine sv hF (v_move rfl) rfl ?_; clear hF a; intro a hF
    refine WL_nil (hK _ _ ?_)
    clear hK K
    replace hF := hF.sub _ (c_ 34 rfl (c_ 33 rfl (c_ 32 rfl (c_ 8 rfl (c_ 7 rfl (c_ 6 rfl (c_ 3 rfl (c_ 2 rfl (n_)))))))))
    refine W_block ?_
    refine W_loop (fun m a w1 => ∃ (i : Nat) (v8 : Value) (b8 : Option Nat) (ds : List Nat), Fr ⟨54, ds⟩ [(2, .slice pmb mb.length cmb), (3, .pointer (some ⟨g3, 0, none⟩)), (8, v8), (32, .slice pma ma.length cma), (33, .int .i64 (ma.length : Int)), (34, .int .i64 (i : Int))] a ∧ (St FDx B w w1) ∧ (Fo FDx B w1 fv o) ∧ (Mat FDx B M w1 pma cma ma) ∧ (Mat FDx B M w1 pmb cmb mb) ∧ (MOwn FDx B w.heap.size 0 w1.heap.size w1 53 v8 b8 ((ma.take i).map (mulRow o mb))) ∧ (Mk w.heap.size ds w1) ∧ (Box FDx B g3 w1 g3 42 fv) ∧ (i ≤ ma.length) ∧ (m + i = ma.length)) (ma.length) ?_ ?_
    ·
     skip
     exact ⟨0, _, none, _, hF.sub _ (c_ 2 rfl (c_ 3 rfl (c_ 8 rfl (c_ 32 rfl (c_ 33 rfl (c_ 34 rfl (n_))))))), hS, hf, hAma, hAmb, MOwn.nil _ _ _ _ _ _ _ (Nat.zero_le _), hMk, hb3, by omega, by omega⟩
    ·
     skip
     clear hF
     clear hS hf hAma hAmb hMk hb3
     rintro m a w1 ⟨i, v8, b8, ds, hF, hS, hf, hAma, hAmb, hMO, hMk, hb3, hi, hm⟩
     obtain ⟨KM, hKe⟩ : ∃ KM, KM = w1.heap.size := ⟨_, rfl⟩
     rw [← hKe] at hMO
     have hKs : KM ≤ w1.heap.size := by omega
     have hNK : w.heap.size ≤ KM := by have := hS.ext.size; omega
     clear hKe
     refine W_sr rfl (fun K hK => ?_)
     refine sv hF (v_lss rfl rfl) rfl ?_; clear hF a; intro a hF
     refine WL_nil (hK _ _ ?_)
     clear hK K
     refine W_seq ?_
     refine W_if hF rfl (fun hc4 => ?_) (fun hc4 => ?_)
     ·
      skip
      try simp only [dcl] at hc4
      have hlt : i < ma.length := by omega
      obtain ⟨r, hr⟩ : ∃ z, ma[i]? = some z := ⟨_, List.getElem?_eq_getElem hlt⟩
      obtain ⟨gx, ox, pr, cr, hgx, hkc, hrow, -⟩ := hAma.row hr
      have hrl := (hp1.2.2.2.2 r (List.mem_of_getElem? hr)).1
      have hrz : (zints r).length = r.length := zints_length r
      refine W_skip ?_
      refine W_seq ?_
      refine W_block ?_
      have hg3l : g3 < w1.heap.size := heap_lt hb3.blk
      rw [hgx] at hF
      refine W_sr rfl (fun K hK => ?_)
      refine sv hF (v_ixS sl36 rfl rfl (by omega) (by omega)) rfl ?_; clear hF a; intro a hF
      rw [← hgx] at hF
      refine sv hF (v_load sc53 rfl (by rw [toNat_c]; exact hkc.c)) rfl ?_; clear hF a; intro a hF
      obtain ⟨g10, hg10⟩ : ∃ g, g = w1.heap.size := ⟨_, rfl⟩
      have hn10 : b8 ≠ some g10 := fun e => by have := (hMO.lt _ e).2; omega
      have hKg : KM ≤ g10 := by omega
      clear hkc
      refine s_alloc (D := FDx) (B := B) hF zv53 (by decide) hS.inv rfl ?_; clear hF a; intro w' a hm hI' hb10 hsz hF
      replace hf := hf.mb hm
      replace hAma := hAma.mb hm (fun _ h => by cases h)
      replace hAmb := hAmb.mb hm (fun _ h => by cases h)
      replace hMO := hMO.mb0 hm
      replace hMk := hMk.mb hm (fun k e => by cases e)
      replace hb3 := hb3.mb hm (by simp)
      replace hKs := Nat.le_trans hKs hm.size
      replace hrow := hrow.mb hm (fun _ h => by cases h)
      replace hS := hS.mb0 hm
      clear hm hI' hsz
      rw [← hg10] at hb10 hF
      refine s_stb (D := FDx) (B := B) hF on53 rfl rfl (rfl) hb10 hS.inv ?_; intro w' hm hI' hbx'
      replace hf := hf.mb hm
      replace hAma := hAma.mb hm (fun k h => by cases h; exact Nat.le_trans (by omega) hb10.low)
      replace hAmb := hAmb.mb hm (fun k h => by cases h; exact Nat.le_trans (by omega) hb10.low)
      replace hMO := hMO.mbx hm (by assumption) (by omega) (by omega)
      replace hMk := hMk.mb hm (fun k e => by cases e; exact ⟨_, _, _, hb10.blk⟩)
      replace hb3 := hb3.mb hm (by simp; omega)
      replace hKs := Nat.le_trans hKs hm.size
      replace hrow := hrow.mb hm (fun k h => by cases h; exact Nat.le_trans (by omega) hb10.low)
      replace hS := hS.mb hm (fun k h => by cases h; omega)
      replace hb10 := hbx'
      clear hm hI' hbx'
      have hl10 := heap_lt hb10.blk
      refine WL_nil (hK _ _ ?_)
      clear hK K
      replace hF := hF.sub _ (c_ 10 rfl (c_ 2 rfl (c_ 3 rfl (c_ 8 rfl (c_ 32 rfl (c_ 33 rfl (c_ 34 rfl (n_))))))))
      refine W_sr rfl (fun K hK => ?_)
      obtain ⟨g11, hg11⟩ : ∃ g, g = w'.heap.size := ⟨_, rfl⟩
      have hn11 : b8 ≠ some g11 := fun e => by have := (hMO.lt _ e).2; omega
      refine s_alloc (D := FDx) (B := B) hF zv53 (by decide) hS.inv rfl ?_; clear hF a; intro w' a hm hI' hb11 hsz hF
      replace hf := hf.mb hm
      replace hAma := hAma.mb hm (fun _ h => by cases h)
      replace hAmb := hAmb.mb hm (fun _ h => by cases h)
      replace hMO := hMO.mb0 hm
      replace hMk := hMk.mb hm (fun k e => by cases e)
      replace hb3 := hb3.mb hm (by simp)
      replace hKs := Nat.le_trans hKs hm.size
      replace hrow := hrow.mb hm (fun _ h => by cases h)
      replace hb10 := hb10.mb hm (by simp)
      replace hS := hS.mb0 hm
      clear hm hI' hsz
      rw [← hg11] at hb11 hF
      have hl11 := heap_lt hb11.blk
      refine WL_nil (hK _ _ ?_)
      clear hK K
      refine W_seq ?_
      refine W_sr rfl (fun K hK => ?_)
      refine sv hF (v_move rfl) rfl ?_; clear hF a; intro a hF
      refine sc hF rfl rfl rfl en107 rfl (columns_ok B pmb cmb mb _ hS.inv) ?_; clear hF a; intro v w' a hv hF
      obtain ⟨pb, rfl, hpb, hkb, hS'⟩ := hv
      replace hf := hf.st hS'
      replace hAma := hAma.st hS'
      replace hAmb := hAmb.st hS'
      replace hMO := hMO.st (by decide) hS'
      replace hMk := hMk.st hS'
      replace hb3 := hb3.st hS'
      replace hKs := Nat.le_trans hKs hS'.ext.size
      replace hrow := hrow.st hS'
      replace hb10 := hb10.st hS'
      replace hb11 := hb11.st hS'
      replace hS := hS.trans hS'
      clear hS'
      refine WL_nil (hK _ _ ?_)
      clear hK K
      replace hF := hF.sub _ (c_ 39 rfl (c_ 11 rfl (c_ 10 rfl (c_ 2 rfl (c_ 3 rfl (c_ 8 rfl (c_ 32 rfl (c_ 33 rfl (c_ 34 rfl (n_))))))))))
      obtain ⟨nr, hnr⟩ : ∃ n, n = w'.heap.size := ⟨_, rfl⟩
      have hsw := hS.ext.size
      have hds : ∀ d ∈ ds, d < w'.heap.size := fun d hd => heap_lt (hMk.2 d hd).2
      have hpl := hkb.2.1
      have hpl2 : pb < w'.heap.size := hpl
      refine W_block ?_
      refine W_rf (D := FDx) (B := B) (fun k A => ∃ v11 b11, Box FDx B g11 A g11 53 v11 ∧ Gam.Own FDx B nr A FDx.E v11 b11 (zints ((mulRow o mb r).take k)) ∧ St FDx B w A ∧ Mk w.heap.size ds A ∧ Box FDx B g3 A g3 42 fv ∧ Box FDx B g10 A g10 53 (.slice pr r.length cr) ∧ Fo FDx B A fv o ∧ Row FDx B M A (.slice pr r.length cr) (zints r) ∧ Mat FDx B M A pma cma ma ∧ Mat FDx B M A pmb cmb mb ∧ MOwn FDx B w.heap.size 0 KM A 53 v8 b8 ((ma.take i).map (mulRow o mb))) (fun _ => False) (fun v a2 _ => Fr ⟨54, []⟩ [(3, .pointer (some ⟨g3, 0, none⟩)), (10, .pointer (some ⟨g10, 0, none⟩)), (11, .pointer (some ⟨g11, 0, none⟩)), (12, v)] a2) hF rfl rfl (ent Tryz.func120 (by kernel_rfl) (by kernel_rfl)) hS.inv (columns_seq B M pb _ cmb mb (fun k => k = g11 ∨ w'.heap.size ≤ k) _ hkb hAmb (by rintro (h | h) <;> omega) (by rintro k h (h2 | h2) <;> omega) (fun k h => .inr h) (by omega) (fun r hr => (hp2.2.2.2.2 r hr).1) (by omega) (by omega)) (fun k h => .inr h) ?_ ?_ ?_ ?_ (⟨_, none, hb11, Gam.Own.nil _ _ _ _ _, hS, hMk, hb3, hb10, hf, hrow, hAma, hAmb, hMO⟩) ?_ ?_ ?_ ?_
      ·
       rintro k A C ⟨v11, b11, h1, h2, h3, h4, h5, h6, h7, h8, h9, h10, h11⟩ hX
       exact ⟨v11, b11, h1.xt hX, h2.xt (by decide) hX, h3.thenX hX hsw, h4.xt hX hds, h5.xt hX, h6.xt hX, h7.xt hX, h8.xt hX, h9.xt hX, h10.xt hX, h11.xt (by decide) hX⟩
      ·
       exact fun _ _ h _ => h
      ·
       exact fun _ _ _ _ h _ => h
      ·
       exact fun x v A C h hX => h.xt hX
      ·
       skip
       clear hF hS
       intro l i x v A a hx hJ hIA he hF
       have hS := St.refl hIA
       refine Rd.W_reg rfl rfl (fun K hK => ?_)
       refine sv hF (v_assign rfl) rfl ?_; clear hF a; intro a hF
       refine WL_nil (hK _ _ ?_)
       clear hK K
       replace hF := hF.sub _ (c_ 12 rfl (c_ 11 rfl (c_ 10 rfl (c_ 3 rfl (n_)))))
       exact ⟨hS, hF.sub _ (c_ 3 rfl (c_ 10 rfl (c_ 11 rfl (c_ 12 rfl (n_)))))⟩
      ·
       skip
       clear hF hS hMk hb3 hb10 hb11 hf hrow hAma hAmb hMO
       rintro l k x v A a hx ⟨v11, b11, hb11, hO, hSw, hMk, hb3, hb10, hf, hrow, hAma, hAmb, hMO⟩ hz0 he hF
       obtain ⟨hk, rfl⟩ := cols_get hx
       obtain ⟨bc, hC⟩ := he
       obtain ⟨pc, cc, rfl⟩ := hC.shape
       have hc := hC.row (by decide)
       clear hC
       have hcl : (zints (colAt mb k)).length = (colAt mb k).length := zints_length _
       have hcl2 := colAt_length mb k
       have hml := mulRow_length o mb r
       have hnA : nr ≤ A.heap.size := by have := hz0.ext.size; omega
       have hS : StZ FDx B (fun k => k = g11 ∨ w'.heap.size ≤ k) A A := StZ.refl hSw.inv
       rw [hcl] at hc hF
       refine Rd.W_block ?_
       refine Rd.W_dS (fun w2 => w2.cell? ⟨g3, 0, none⟩ = some fv ∧ w2.cell? ⟨g10, 0, none⟩ = some (.slice pr r.length cr)) (m := 8) rfl hmix rfl (fun K hK => ?_)
       have hS' := St.drew hS.inv
       replace hb11 := hb11.st hS'
       replace hO := hO.st (by decide) hS'
       replace hSw := hSw.trans hS'
       replace hMk := hMk.st hS'
       replace hb3 := hb3.st hS'
       replace hb10 := hb10.st hS'
       replace hf := hf.st hS'
       replace hrow := hrow.st hS'
       replace hAma := hAma.st hS'
       replace hAmb := hAmb.st hS'
       replace hMO := hMO.st (by decide) hS'
       replace hc := (hc.st hS').mono hS'.ext.size
       replace hnA := Nat.le_trans hnA hS'.ext.size
       replace hS := hS.trans hS'
       clear hS'
       have hSS := And.intro hb3.at hb10.at
       refine b_v (i := 1) rfl (by kernel_rfl) hF (fun w2 hx => v_load sc42 rfl hx.1) rfl hSS ?_; clear hF a; intro a hF
       refine b_v (i := 2) rfl (by kernel_rfl) hF (fun w2 hx => v_load sc53 rfl hx.2) rfl hSS ?_; clear hF a; intro a hF
       refine b_v (i := 3) rfl (by kernel_rfl) hF (fun w2 hx => v_move rfl) rfl hSS ?_; clear hF a; intro a hF
       refine b_e2 (i := 0) (i' := 4) (by kernel_rfl) rfl rfl ?_ ?_
       ·
        skip
        refine sv hF (v_load sc53 rfl hb11.at) rfl ?_; clear hF a; intro a hF
        refine WL_nil ⟨hSS, ?_⟩
        refine b_e (i := 4) (by kernel_rfl) rfl ?_
        refine sc hF rfl rfl rfl en108 rfl (dot_ok B M _ o fv pr cr r pc cc (colAt mb k) _ hS.inv hf hrow hc (by omega) (by omega)) ?_; clear hF a; intro v w' a hv hF
        obtain ⟨rfl, hS'⟩ := hv
        replace hb11 := hb11.st hS'
        replace hO := hO.st (by decide) hS'
        replace hSw := hSw.trans hS'
        replace hMk := hMk.st hS'
        replace hb3 := hb3.st hS'
        replace hb10 := hb10.st hS'
        replace hf := hf.st hS'
        replace hrow := hrow.st hS'
        replace hAma := hAma.st hS'
        replace hAmb := hAmb.st hS'
        replace hMO := hMO.st (by decide) hS'
        replace hc := (hc.st hS').mono hS'.ext.size
        replace hnA := Nat.le_trans hnA hS'.ext.size
        replace hS := hS.trans hS'
        clear hS'
        clear hSS
        have hSS := And.intro hb3.at hb10.at
        refine WL_nil ⟨hSS, ?_⟩
        refine b_e (i := 5) (by kernel_rfl) rfl ?_
        refine s_bs (D := FDx) (B := B) hF sl53 rfl rfl (by decide) (by simp [Value.cells]) (by decide) hS.inv rfl ?_; clear hF a; intro w' a hm hI' hL hF
        replace hb11 := hb11.mb hm (by simp)
        replace hO := hO.mb hm (fun _ _ => by simp)
        replace hSw := hSw.mb0 hm
        replace hMk := hMk.mb hm (fun k e => by cases e)
        replace hb3 := hb3.mb hm (by simp)
        replace hb10 := hb10.mb hm (by simp)
        replace hf := hf.mb hm
        replace hrow := hrow.mb hm (fun _ h => by cases h)
        replace hAma := hAma.mb hm (fun _ h => by cases h)
        replace hAmb := hAmb.mb hm (fun _ h => by cases h)
        replace hMO := hMO.mb0 hm
        replace hnA := Nat.le_trans hnA hm.size
        replace hS := hS.mb0 hm
        clear hm hI'
        clear hSS
        have hSS := And.intro hb3.at hb10.at
        refine WL_nil ⟨hSS, ?_⟩
        refine b_e (i := 6) (by kernel_rfl) rfl ?_
        refine s_app (D := FDx) (B := B) hF rfl sl53 rfl rfl hO (hL.row (by decide)) (by simp [Value.oneCell']) (by simp; omega) (by simp [maxLen]; omega) (hnA) (by decide) hS.inv rfl ?_; clear hF a; intro v' b' w' a ho' hm hI' hb' hF
        replace hb11 := hb11.mb hm (hb11.ne_own hO (by decide))
        replace hSw := hSw.mb hm (fun k h => Nat.le_trans (by omega) (hO.lt k h).1)
        replace hMk := hMk.mb hm hO.isrow
        replace hb3 := hb3.mb hm (hb3.ne_own hO (by decide))
        replace hb10 := hb10.mb hm (hb10.ne_own hO (by decide))
        replace hf := hf.mb hm
        replace hrow := hrow.mb hm (fun k h => Nat.le_trans (by omega) (hO.lt k h).1)
        replace hAma := hAma.mb hm (fun k h => Nat.le_trans (by omega) (hO.lt k h).1)
        replace hAmb := hAmb.mb hm (fun k h => Nat.le_trans (by omega) (hO.lt k h).1)
        replace hMO := hMO.mbo hm hO (by decide) (by omega) (Nat.zero_le _)
        replace hnA := Nat.le_trans hnA hm.size
        replace hS := hS.mb hm (fun k h => ⟨.inr (by have := (hO.lt k h).1; omega), hO.isrow k h⟩)
        replace hO := ho'
        clear hm hI' ho'
        clear hSS
        have hSS := And.intro hb3.at hb10.at
        refine WL_nil ⟨hSS, ?_⟩
        refine b_e (i := 7) (by kernel_rfl) rfl ?_
        refine s_stb (D := FDx) (B := B) hF on53 rfl rfl (by obtain ⟨_, _, rfl⟩ := hO.shape; rfl) hb11 hS.inv ?_; intro w' hm hI' hbx'
        replace hO := hO.mb hm ((fun k e e2 => hb11.ne_own hO (by decide) (e.trans e2.symm)))
        replace hSw := hSw.mb hm (fun k h => by cases h; omega)
        replace hMk := hMk.mb hm (fun k e => by cases e; exact ⟨_, _, _, hb11.blk⟩)
        replace hb3 := hb3.mb hm (by simp; omega)
        replace hb10 := hb10.mb hm (by simp; omega)
        replace hf := hf.mb hm
        replace hrow := hrow.mb hm (fun k h => by cases h; exact Nat.le_trans (by omega) hb11.low)
        replace hAma := hAma.mb hm (fun k h => by cases h; exact Nat.le_trans (by omega) hb11.low)
        replace hAmb := hAmb.mb hm (fun k h => by cases h; exact Nat.le_trans (by omega) hb11.low)
        replace hMO := hMO.mbx hm (by assumption) (by omega) (by omega)
        replace hnA := Nat.le_trans hnA hm.size
        replace hS := hS.mb hm (fun k h => ⟨.inl (by cases h; rfl), by cases h; exact ⟨_, _, _, hb11.blk⟩⟩)
        replace hb11 := hbx'
        clear hm hI' hbx'
        clear hSS
        have hSS := And.intro hb3.at hb10.at
        refine WL_nil ⟨hSS, ?_⟩
        refine b_done (by kernel_rfl) (hK _ _ ?_)
        clear hK K
        replace hF := hF.sub _ (n_)
        exact ⟨⟨_, _, hb11, hO.cast (by rw [mulRow_snoc hk]; simp [zints]), hSw, hMk, hb3, hb10, hf, hrow, hAma, hAmb, hMO⟩, hS⟩
       ·
        skip
        refine sc hF rfl rfl rfl en108 rfl (dot_ok B M _ o fv pr cr r pc cc (colAt mb k) _ hS.inv hf hrow hc (by omega) (by omega)) ?_; clear hF a; intro v w' a hv hF
        obtain ⟨rfl, hS'⟩ := hv
        replace hb11 := hb11.st hS'
        replace hO := hO.st (by decide) hS'
        replace hSw := hSw.trans hS'
        replace hMk := hMk.st hS'
        replace hb3 := hb3.st hS'
        replace hb10 := hb10.st hS'
        replace hf := hf.st hS'
        replace hrow := hrow.st hS'
        replace hAma := hAma.st hS'
        replace hAmb := hAmb.st hS'
        replace hMO := hMO.st (by decide) hS'
        replace hc := (hc.st hS').mono hS'.ext.size
        replace hnA := Nat.le_trans hnA hS'.ext.size
        replace hS := hS.trans hS'
        clear hS'
        clear hSS
        have hSS := And.intro hb3.at hb10.at
        refine WL_nil ⟨hSS, ?_⟩
        refine b_e2 (i := 0) (i' := 5) (by kernel_rfl) rfl rfl ?_ ?_
        ·
         skip
         refine sv hF (v_load sc53 rfl hb11.at) rfl ?_; clear hF a; intro a hF
         refine WL_nil ⟨hSS, ?_⟩
         refine b_e (i := 5) (by kernel_rfl) rfl ?_
         refine s_bs (D := FDx) (B := B) hF sl53 rfl rfl (by decide) (by simp [Value.cells]) (by decide) hS.inv rfl ?_; clear hF a; intro w' a hm hI' hL hF
         replace hb11 := hb11.mb hm (by simp)
         replace hO := hO.mb hm (fun _ _ => by simp)
         replace hSw := hSw.mb0 hm
         replace hMk := hMk.mb hm (fun k e => by cases e)
         replace hb3 := hb3.mb hm (by simp)
         replace hb10 := hb10.mb hm (by simp)
         replace hf := hf.mb hm
         replace hrow := hrow.mb hm (fun _ h => by cases h)
         replace hAma := hAma.mb hm (fun _ h => by cases h)
         replace hAmb := hAmb.mb hm (fun _ h => by cases h)
         replace hMO := hMO.mb0 hm
         replace hnA := Nat.le_trans hnA hm.size
         replace hS := hS.mb0 hm
         clear hm hI'
         clear hSS
         have hSS := And.intro hb3.at hb10.at
         refine WL_nil ⟨hSS, ?_⟩
         refine b_e (i := 6) (by kernel_rfl) rfl ?_
         refine s_app (D := FDx) (B := B) hF rfl sl53 rfl rfl hO (hL.row (by decide)) (by simp [Value.oneCell']) (by simp; omega) (by simp [maxLen]; omega) (hnA) (by decide) hS.inv rfl ?_; clear hF a; intro v' b' w' a ho' hm hI' hb' hF
         replace hb11 := hb11.mb hm (hb11.ne_own hO (by decide))
         replace hSw := hSw.mb hm (fun k h => Nat.le_trans (by omega) (hO.lt k h).1)
         replace hMk := hMk.mb hm hO.isrow
         replace hb3 := hb3.mb hm (hb3.ne_own hO (by decide))
         replace hb10 := hb10.mb hm (hb10.ne_own hO (by decide))
         replace hf := hf.mb hm
         replace hrow := hrow.mb hm (fun k h => Nat.le_trans (by omega) (hO.lt k h).1)
         replace hAma := hAma.mb hm (fun k h => Nat.le_trans (by omega) (hO.lt k h).1)
         replace hAmb := hAmb.mb hm (fun k h => Nat.le_trans (by omega) (hO.lt k h).1)
         replace hMO := hMO.mbo hm hO (by decide) (by omega) (Nat.zero_le _)
         replace hnA := Nat.le_trans hnA hm.size
         replace hS := hS.mb hm (fun k h => ⟨.inr (by have := (hO.lt k h).1; omega), hO.isrow k h⟩)
         replace hO := ho'
         clear hm hI' ho'
         clear hSS
         have hSS := And.intro hb3.at hb10.at
         refine WL_nil ⟨hSS, ?_⟩
         refine b_e (i := 7) (by kernel_rfl) rfl ?_
         refine s_stb (D := FDx) (B := B) hF on53 rfl rfl (by obtain ⟨_, _, rfl⟩ := hO.shape; rfl) hb11 hS.inv ?_; intro w' hm hI' hbx'
         replace hO := hO.mb hm ((fun k e e2 => hb11.ne_own hO (by decide) (e.trans e2.symm)))
         replace hSw := hSw.mb hm (fun k h => by cases h; omega)
         replace hMk := hMk.mb hm (fun k e => by cases e; exact ⟨_, _, _, hb11.blk⟩)
         replace hb3 := hb3.mb hm (by simp; omega)
         replace hb10 := hb10.mb hm (by simp; omega)
         replace hf := hf.mb hm
         replace hrow := hrow.mb hm (fun k h => by cases h; exact Nat.le_trans (by omega) hb11.low)
         replace hAma := hAma.mb hm (fun k h => by cases h; exact Nat.le_trans (by omega) hb11.low)
         replace hAmb := hAmb.mb hm (fun k h => by cases h; exact Nat.le_trans (by omega) hb11.low)
         replace hMO := hMO.mbx hm (by assumption) (by omega) (by omega)
         replace hnA := Nat.le_trans hnA hm.size
         replace hS := hS.mb hm (fun k h => ⟨.inl (by cases h; rfl), by cases h; exact ⟨_, _, _, hb11.blk⟩⟩)
         replace hb11 := hbx'
         clear hm hI' hbx'
         clear hSS
         have hSS := And.intro hb3.at hb10.at
         refine WL_nil ⟨hSS, ?_⟩
         refine b_done (by kernel_rfl) (hK _ _ ?_)
         clear hK K
         replace hF := hF.sub _ (n_)
         exact ⟨⟨_, _, hb11, hO.cast (by rw [mulRow_snoc hk]; simp [zints]), hSw, hMk, hb3, hb10, hf, hrow, hAma, hAmb, hMO⟩, hS⟩
        ·
         skip
         refine s_bs (D := FDx) (B := B) hF sl53 rfl rfl (by decide) (by simp [Value.cells]) (by decide) hS.inv rfl ?_; clear hF a; intro w' a hm hI' hL hF
         replace hb11 := hb11.mb hm (by simp)
         replace hO := hO.mb hm (fun _ _ => by simp)
         replace hSw := hSw.mb0 hm
         replace hMk := hMk.mb hm (fun k e => by cases e)
         replace hb3 := hb3.mb hm (by simp)
         replace hb10 := hb10.mb hm (by simp)
         replace hf := hf.mb hm
         replace hrow := hrow.mb hm (fun _ h => by cases h)
         replace hAma := hAma.mb hm (fun _ h => by cases h)
         replace hAmb := hAmb.mb hm (fun _ h => by cases h)
         replace hMO := hMO.mb0 hm
         replace hnA := Nat.le_trans hnA hm.size
         replace hS := hS.mb0 hm
         clear hm hI'
         clear hSS
         have hSS := And.intro hb3.at hb10.at
         refine WL_nil ⟨hSS, ?_⟩
         refine b_e (i := 0) (by kernel_rfl) rfl ?_
         refine sv hF (v_load sc53 rfl hb11.at) rfl ?_; clear hF a; intro a hF
         refine WL_nil ⟨hSS, ?_⟩
         refine b_e (i := 6) (by kernel_rfl) rfl ?_
         refine s_app (D := FDx) (B := B) hF rfl sl53 rfl rfl hO (hL.row (by decide)) (by simp [Value.oneCell']) (by simp; omega) (by simp [maxLen]; omega) (hnA) (by decide) hS.inv rfl ?_; clear hF a; intro v' b' w' a ho' hm hI' hb' hF
         replace hb11 := hb11.mb hm (hb11.ne_own hO (by decide))
         replace hSw := hSw.mb hm (fun k h => Nat.le_trans (by omega) (hO.lt k h).1)
         replace hMk := hMk.mb hm hO.isrow
         replace hb3 := hb3.mb hm (hb3.ne_own hO (by decide))
         replace hb10 := hb10.mb hm (hb10.ne_own hO (by decide))
         replace hf := hf.mb hm
         replace hrow := hrow.mb hm (fun k h => Nat.le_trans (by omega) (hO.lt k h).1)
         replace hAma := hAma.mb hm (fun k h => Nat.le_trans (by omega) (hO.lt k h).1)
         replace hAmb := hAmb.mb hm (fun k h => Nat.le_trans (by omega) (hO.lt k h).1)
         replace hMO := hMO.mbo hm hO (by decide) (by omega) (Nat.zero_le _)
         replace hnA := Nat.le_trans hnA hm.size
         replace hS := hS.mb hm (fun k h => ⟨.inr (by have := (hO.lt k h).1; omega), hO.isrow k h⟩)
         replace hO := ho'
         clear hm hI' ho'
         clear hSS
         have hSS := And.intro hb3.at hb10.at
         refine WL_nil ⟨hSS, ?_⟩
         refine b_e (i := 7) (by kernel_rfl) rfl ?_
         refine s_stb (D := FDx) (B := B) hF on53 rfl rfl (by obtain ⟨_, _, rfl⟩ := hO.shape; rfl) hb11 hS.inv ?_; intro w' hm hI' hbx'
         replace hO := hO.mb hm ((fun k e e2 => hb11.ne_own hO (by decide) (e.trans e2.symm)))
         replace hSw := hSw.mb hm (fun k h => by cases h; omega)
         replace hMk := hMk.mb hm (fun k e => by cases e; exact ⟨_, _, _, hb11.blk⟩)
         replace hb3 := hb3.mb hm (by simp; omega)
         replace hb10 := hb10.mb hm (by simp; omega)
         replace hf := hf.mb hm
         replace hrow := hrow.mb hm (fun k h => by cases h; exact Nat.le_trans (by omega) hb11.low)
         replace hAma := hAma.mb hm (fun k h => by cases h; exact Nat.le_trans (by omega) hb11.low)
         replace hAmb := hAmb.mb hm (fun k h => by cases h; exact Nat.le_trans (by omega) hb11.low)
         replace hMO := hMO.mbx hm (by assumption) (by omega) (by omega)
         replace hnA := Nat.le_trans hnA hm.size
         replace hS := hS.mb hm (fun k h => ⟨.inl (by cases h; rfl), by cases h; exact ⟨_, _, _, hb11.blk⟩⟩)
         replace hb11 := hbx'
         clear hm hI' hbx'
         clear hSS
         have hSS := And.intro hb3.at hb10.at
         refine WL_nil ⟨hSS, ?_⟩
         refine b_done (by kernel_rfl) (hK _ _ ?_)
         clear hK K
         replace hF := hF.sub _ (n_)
         exact ⟨⟨_, _, hb11, hO.cast (by rw [mulRow_snoc hk]; simp [zints]), hSw, hMk, hb3, hb10, hf, hrow, hAma, hAmb, hMO⟩, hS⟩
      ·
       skip
       clear hF hS hb3 hb10 hb11 hf hrow hAma hAmb hMO
       rintro a W hF hD ⟨v11, b11, hb11, hO, hS, hMk2, hb3, hb10, hf, hrow, hAma, hAmb, hMO⟩ hz0
       replace hMk := Mk.cons (D := FDx) (B := B) hMk (Nat.le_refl _) hsw hMk2 hD
       clear hMk2 hD
       replace hO := hO.cast (show zints ((mulRow o mb r).take _) = zints (mulRow o mb r) by rw [List.length_map, List.length_range, List.take_of_length_le (by rw [mulRow_length]; omega)])
       replace hKs := Nat.le_trans hKs hz0.ext.size
       clear hz0
       refine W_reg rfl (fun K hK => ?_)
       refine sv hF (v_move rfl) rfl ?_; clear hF a; intro a hF
       refine sv hF (v_load sc53 rfl (by first | assumption | (rw [toNat_c]; assumption) | exact KC.c (by assumption) | (rw [toNat_c]; exact KC.c (by assumption)) | exact Box.at (by assumption))) rfl ?_; clear hF a; intro a hF
       obtain ⟨a_, c_r, rfl⟩ := hO.shape
       refine s_bs (D := FDx) (B := B) hF sl36 rfl rfl (by decide) (by simp [Value.cells]) (by decide) hS.inv rfl ?_; clear hF a; intro w' a hm hI' hL hF
       replace hb11 := hb11.mb hm (by simp)
       replace hO := hO.mb hm (fun _ _ => by simp)
       replace hMk := hMk.mb hm (fun k e => by cases e)
       replace hb3 := hb3.mb hm (by simp)
       replace hf := hf.mb hm
       replace hAma := hAma.mb hm (fun _ h => by cases h)
       replace hAmb := hAmb.mb hm (fun _ h => by cases h)
       replace hMO := hMO.mb0 hm
       replace hKs := Nat.le_trans hKs hm.size
       replace hS := hS.mb0 hm
       clear hm hI'
       replace hMO := hMO.up hKs
       clear hKs
       refine s_appM (D := FDx) (B := B) hF rfl sl36 rfl rfl hMO hL (.of hO (Nat.zero_le _)) rfl rfl (by simp; omega) (hS.ext.size) (by decide) (by decide) hS.inv rfl ?_; clear hF a; intro v' b' w' a ho' hm hI' hF
       replace hMk := hMk.mb hm hMO.isrow
       replace hb3 := hb3.mb hm (by obtain ⟨_, _, hO2, _⟩ := hMO.ex; exact hb3.ne_own hO2 (by decide))
       replace hf := hf.mb hm
       replace hAma := hAma.mb hm (fun k h => Nat.le_trans (by omega) (hMO.lt k h).1)
       replace hAmb := hAmb.mb hm (fun k h => Nat.le_trans (by omega) (hMO.lt k h).1)
       replace hS := hS.mb hm (fun k h => Nat.le_trans (Nat.le_refl _) (hMO.lt k h).1)
       have hKm := hm.size
       replace hMO := ho'
       clear hm hI' ho' hL
       refine sv hF (v_assign rfl) rfl ?_; clear hF a; intro a hF
       refine WL_nil (hK _ _ ?_)
       clear hK K
       replace hF := hF.sub _ (c_ 8 rfl (c_ 51 rfl (c_ 50 rfl (c_ 49 rfl (c_ 48 rfl (c_ 11 rfl (c_ 2 rfl (c_ 3 rfl (c_ 32 rfl (c_ 33 rfl (c_ 34 rfl (n_))))))))))))
       refine W_reg rfl (fun K hK => ?_)
       refine sv hF (v_addI rfl rfl (by omega)) rfl ?_; clear hF a; intro a hF
       refine sv hF (v_move rfl) rfl ?_; clear hF a; intro a hF
       refine WL_nil (hK _ _ ?_)
       clear hK K
       exact ⟨m - 1, by omega, i + 1, _, _, _, hF.sub _ (c_ 2 rfl (c_ 3 rfl (c_ 8 rfl (c_ 32 rfl (c_ 33 rfl (c_ 34 rfl (n_))))))), hS, hf, hAma, hAmb, (hMO.up hKm).cast (map_snoc hr).symm, hMk, hb3, by omega, by omega⟩
      ·
       intro a1 w1 hF hD hj; exact hj.elim
     ·
      skip
      try simp only [dcl] at hc4
      refine W_exit rfl ?_
      refine W_sr rfl (fun K hK => ?_)
      refine sv3 hF (v_move rfl) (v_assign rfl) (v_assign rfl) rfl rfl rfl ?_; clear hF a; intro a hF
      refine WL_nil (hK _ _ ?_)
      clear hK K
      replace hF := hF.sub _ (c_ 7 rfl (c_ 6 rfl (c_ 53 rfl (c_ 2 rfl (c_ 3 rfl (c_ 8 rfl (c_ 32 rfl (c_ 33 rfl (c_ 34 rfl (n_))))))))))
      refine W_ret ?_
      refine ⟨_, _, _, _, hMk, hS.inv, hF, rfl, rfl, fun w2 hX => ?_⟩
      obtain rfl : i = ma.length := by omega
      rw [List.take_length] at hMO
      rw [hyes]
      exact ⟨_, _, rfl, (hMO.xt (by decide) hX).up (Nat.le_trans hKs hX.size), hS.thenX hX (Nat.le_refl _)⟩

end Go.Proofs.YtkoiolamnnmokaaGreat

/- The walk of package matrix: Apply. -/
set_option linter.unusedVariables false
set_option linter.unusedSimpArgs false
namespace Go.Proofs.YtkoiolamnnmokaaGreat
open Go Go.Gam


namespace FxFMatE
end FxFMatE
open FxFMatE

end Go.Proofs.YtkoiolamnnmokaaGreat

/- The walks of package invert: Inverse, Rank, Solve. -/
set_option linter.unusedVariables false
set_option linter.unusedSimpArgs false
namespace Go.Proofs.YtkoiolamnnmokaaGreat
open Go Go.Gam


namespace FxFInvD
theorem en37 : Ent Tryz.prog 37 := ent Tryz.func37 (by kernel_rfl) (by kernel_rfl)
theorem en40 : Ent Tryz.prog 40 := ent Tryz.func40 (by kernel_rfl) (by kernel_rfl)
theorem en41 : Ent Tryz.prog 41 := ent Tryz.func41 (by kernel_rfl) (by kernel_rfl)
theorem en42 : Ent Tryz.prog 42 := ent Tryz.func42 (by kernel_rfl) (by kernel_rfl)
theorem en43 : Ent Tryz.prog 43 := ent Tryz.func43 (by kernel_rfl) (by kernel_rfl)
theorem en44 : Ent Tryz.prog 44 := ent Tryz.func44 (by kernel_rfl) (by kernel_rfl)
theorem sc53 : Scalar Tryz.prog 53 := ⟨_, Tryz.underlying53, by simp, by simp⟩
theorem sl36 : Sl Tryz.prog 36 53 (.slice none 0 0) 24 := sl_of Tryz.underlying36 rfl (by kernel_rfl)
theorem sl53 : Sl Tryz.prog 53 3 (.int .i64 0) 8 := sl_of Tryz.underlying53 rfl (by kernel_rfl)
end FxFInvD
open FxFInvD

set_option maxRecDepth 100000 in
set_option maxHeartbeats 1000000 in
theorem square_ok (B M : Nat) (o : Fq) (fv : Value) (pmt : Option Addr) (cmt : Nat) (mt : Mtx) (w : World) (hI : Inv FDx B w) (hf : Fo FDx B w fv o) (hAmt : Mat FDx B M w pmt cmt mt) (hlmt : mt.length ≤ maxLen) (hbmt : ∀ r ∈ mt, r.length ≤ maxLen) : Ret Tryz.prog 41 [fv, .slice pmt mt.length cmt] w fun v w' => v = .bool (sqM o mt) ∧ St FDx B w w' := by
 refine enter 17 [(0, fv), (1, .slice pmt mt.length cmt)] 4 Tryz.func41 rfl rfl rfl rfl rfl ?_; intro a hF
 have hS := St.refl hI
 refine W_sr rfl (fun K hK => ?_)
 refine sv hF (v_assign rfl) rfl ?_; clear hF a; intro a hF
 refine WL_nil (hK _ _ ?_)
 clear hK K
 refine W_sr rfl (fun K hK => ?_)
 refine sv2 hF (v_move rfl) (v_move rfl) rfl rfl ?_; clear hF a; intro a hF
 refine sc hF rfl rfl rfl en37 rfl (May_ok B M o fv pmt cmt mt _ hS.inv hf hAmt hlmt hbmt) ?_; clear hF a; intro v w' a hv hF
 obtain ⟨rfl, hS'⟩ := hv
 replace hAmt := hAmt.st hS'
 replace hS := hS.trans hS'
 clear hS'
 obtain hc1 | hc1 : (mayM o mt) = true ∨ (mayM o mt) = false := by cases (mayM o mt) <;> simp
 ·
  rw [hc1] at hF
  have hmay : mayM o mt = true := hc1
  have hmp := mayM_pos hmay
  obtain ⟨r0, h0⟩ : ∃ r, mt[0]? = some r := ⟨_, List.getElem?_eq_getElem (by omega)⟩
  obtain ⟨g0, o0, pr0, cr0, hg0, hk0, hrow0, -⟩ := hAmt.row h0
  have hw0 := wid_at h0
  subst hg0
  refine sv hF (v_move rfl) rfl ?_; clear hF a; intro a hF
  refine svg hF rfl ?_
  refine sv hF (v_move rfl) rfl ?_; clear hF a; intro a hF
  refine svg hF rfl ?_
  refine sv hF (v_lenS rfl sl36 rfl) rfl ?_; clear hF a; intro a hF
  refine svg hF rfl ?_
  refine sv hF (v_move rfl) rfl ?_; clear hF a; intro a hF
  refine svg hF rfl ?_
  refine sv hF (v_ixS sl36 rfl rfl (by decide) (by omega)) rfl ?_; clear hF a; intro a hF
  refine svg hF rfl ?_
  refine sv hF (v_load sc53 rfl hk0.c) rfl ?_; clear hF a; intro a hF
  refine svg hF rfl ?_
  refine sv hF (v_lenS rfl sl53 rfl) rfl ?_; clear hF a; intro a hF
  refine svg hF rfl ?_
  refine sv hF (v_eql rfl rfl) rfl ?_; clear hF a; intro a hF
  refine sv2 hF (v_pickT rfl rfl) (v_assign rfl) rfl rfl ?_; clear hF a; intro a hF
  refine WL_nil (hK _ _ ?_)
  clear hK K
  replace hF := hF.sub _ (c_ 4 rfl (n_))
  refine W_ret ?_
  refine ⟨_, _, hF, rfl, ?_⟩
  exact ⟨by congr 1; unfold sqM; rw [hmay, hw0]; simp only [Bool.true_and]; rw [decide_eq_decide]; omega, hS⟩
 ·
  rw [hc1] at hF
  refine sv hF (v_move rfl) rfl ?_; clear hF a; intro a hF
  refine svn hF rfl rfl rfl ?_; clear hF a; intro a hF
  refine svn hF rfl rfl rfl ?_; clear hF a; intro a hF
  refine svn hF rfl rfl rfl ?_; clear hF a; intro a hF
  refine svn hF rfl rfl rfl ?_; clear hF a; intro a hF
  refine svn hF rfl rfl rfl ?_; clear hF a; intro a hF
  refine svn hF rfl rfl rfl ?_; clear hF a; intro a hF
  refine svn hF rfl rfl rfl ?_; clear hF a; intro a hF
  refine sv2 hF (v_pickF rfl rfl) (v_assign rfl) rfl rfl ?_; clear hF a; intro a hF
  refine WL_nil (hK _ _ ?_)
  clear hK K
  replace hF := hF.sub _ (c_ 4 rfl (n_))
  refine W_ret ?_
  refine ⟨_, _, hF, rfl, ?_⟩
  exact ⟨by congr 1; unfold sqM; rw [show mayM o mt = false by simpa using hc1]; rfl, hS⟩

set_option maxRecDepth 100000 in
set_option maxHeartbeats 1000000 in
theorem Inverse_ok (B M wb p : Nat) (hp : Prm wb p) (fv : Value) (pmt : Option Addr) (cmt : Nat) (mt : Mtx) (w : World) (hI : Inv FDx B w) (hM : M ≤ w.heap.size) (hf : Fo FDx B w fv (some (wb, p))) (hAmt : Mat FDx B M w pmt cmt mt) (hlmt : mt.length ≤ maxLen) (hbmt : ∀ r ∈ mt, r.length ≤ maxLen) : Ret Tryz.prog 23 [fv, .slice pmt mt.length cmt] w fun v w' => ∃ ob u, v = .tuple #[u, .int .i64 (invR hp mt).1] ∧ MOwn FDx B w.heap.size 0 w'.heap.size w' 53 u ob (invR hp mt).2 ∧ St FDx B w w' := by
 refine enter2 42 [(0, fv), (1, .slice pmt mt.length cmt)] 4 5 Tryz.func23 rfl rfl rfl rfl rfl ?_; intro a hF
 have hS := St.refl hI
 refine W_sr rfl (fun K hK => ?_)
 refine sv2 hF (v_assign rfl) (v_assign rfl) rfl rfl ?_; clear hF a; intro a hF
 refine WL_nil (hK _ _ ?_)
 clear hK K
 refine W_seq ?_
 refine W_sr rfl (fun K hK => ?_)
 refine sv2 hF (v_move rfl) (v_move rfl) rfl rfl ?_; clear hF a; intro a hF
 refine sc hF rfl rfl rfl en41 rfl (square_ok B M (some (wb, p)) fv pmt cmt mt _ hS.inv hf hAmt hlmt hbmt) ?_; clear hF a; intro v w' a hv hF
 obtain ⟨rfl, hS'⟩ := hv
 replace hf := hf.st hS'
 replace hAmt := hAmt.st hS'
 replace hS := hS.trans hS'
 clear hS'
 refine sv hF (v_not rfl) rfl ?_; clear hF a; intro a hF
 refine WL_nil (hK _ _ ?_)
 clear hK K
 replace hF := hF.sub _ (c_ 14 rfl (c_ 5 rfl (c_ 4 rfl (c_ 0 rfl (c_ 1 rfl (n_))))))
 refine W_if hF rfl (fun hc1 => ?_) (fun hc1 => ?_)
 ·
  skip
  try simp only [dcl] at hc1
  refine W_sr rfl (fun K hK => ?_)
  refine sv2 hF (v_assign rfl) (v_assign rfl) rfl rfl ?_; clear hF a; intro a hF
  refine WL_nil (hK _ _ ?_)
  clear hK K
  replace hF := hF.sub _ (c_ 5 rfl (c_ 4 rfl (c_ 0 rfl (c_ 1 rfl (n_)))))
  refine W_ret ?_
  refine ⟨_, _, _, hF, rfl, rfl, ?_⟩
  rw [invR_bad hp (by simpa using hc1)]
  exact ⟨none, _, rfl, MOwn.nil _ _ _ _ _ _ _ (Nat.zero_le _), hS⟩
 ·
  skip
  try simp only [dcl] at hc1
  refine W_skip ?_
  have hsq : sqM (some (wb, p)) mt = true := by simpa using hc1
  obtain ⟨hmx, hn1, hn20, -⟩ := sqM_Mx hsq
  obtain ⟨n, hn⟩ : ∃ n, n = mt.length := ⟨_, rfl⟩
  rw [← hn] at hmx hn1 hn20 hF
  have hbd := hmx.bd hp
  have htab := hmx.eq_tab
  have hid : identM (n : Int) = tab n n I1 := by rw [identM_of ⟨hn1, hn20⟩, idM_tab]; rfl
  refine W_sr rfl (fun K hK => ?_)
  refine sv hF (v_move rfl) rfl ?_; clear hF a; intro a hF
  refine sv hF (v_lenS rfl sl36 rfl) rfl ?_; clear hF a; intro a hF
  refine sv hF (v_assign rfl) rfl ?_; clear hF a; intro a hF
  refine WL_nil (hK _ _ ?_)
  clear hK K
  replace hF := hF.sub _ (c_ 6 rfl (c_ 5 rfl (c_ 4 rfl (c_ 0 rfl (c_ 1 rfl (n_))))))
  refine W_sr rfl (fun K hK => ?_)
  refine sv2 hF (v_move rfl) (v_move rfl) rfl rfl ?_; clear hF a; intro a hF
  refine sc hF rfl rfl rfl en43 rfl (Identity_ok B (n : Int) _ hS.inv (by omega)) ?_; clear hF a; intro v w' a hv hF
  obtain ⟨ob, ho, hS'⟩ := hv
  rw [hid] at ho
  obtain ⟨sI, cI, rfl, hId⟩ := ho.mat (by decide) (Nat.zero_le _)
  rw [tab_length] at hF
  clear ho
  replace hf := hf.st hS'
  replace hAmt := hAmt.st hS'
  replace hS := hS.trans hS'
  clear hS'
  refine sc hF rfl rfl rfl en42 rfl (beside_ok B _ n n n pmt sI cmt cI (en mt) I1 _ hS.inv (Nat.le_refl _) (htab ▸ hAmt.mono (Nat.le_trans hM hS.ext.size)) hId ⟨hn1, hn20⟩ ⟨hn1, hn20⟩ hn20) ?_; clear hF a; intro v w' a hv hF
  obtain ⟨gv, cap, bs, rc, rfl, hO, hW, hS'⟩ := hv
  replace hO := hO.le hS.ext.size
  replace hW := hW.le hS.ext.size
  clear hId hAmt
  replace hf := hf.st hS'
  replace hS := hS.trans hS'
  clear hS'
  refine sv hF (v_assign rfl) rfl ?_; clear hF a; intro a hF
  refine WL_nil (hK _ _ ?_)
  clear hK K
  replace hF := hF.sub _ (c_ 7 rfl (c_ 6 rfl (c_ 5 rfl (c_ 4 rfl (c_ 0 rfl (n_))))))
  refine W_seq ?_
  refine W_sr rfl (fun K hK => ?_)
  refine sv3 hF (v_move rfl) (v_move rfl) (v_move rfl) rfl rfl rfl ?_; clear hF a; intro a hF
  refine sc hF rfl rfl rfl en44 rfl (reduce_ok B w.heap.size wb p hp fv gv cap n (n + n) n bs rc _ _ hS.inv hf hO hW hS.ext.size (Fld.bes_bd hp.fld hbd hp.fld.I1_bd) (by omega) ⟨by omega, by omega⟩) ?_; clear hF a; intro v w' a hv hF
  clear hO hW bs rc
  obtain ⟨rfl, ⟨bs, rc, hO, hW⟩, hz⟩ := hv
  replace hW := hW
  replace hS := hS.thenZ hz (fun k hk => Nat.not_le.2 hk)
  clear hz hf
  refine sv hF (v_move rfl) rfl ?_; clear hF a; intro a hF
  refine sv hF (v_lss rfl rfl) rfl ?_; clear hF a; intro a hF
  refine WL_nil (hK _ _ ?_)
  clear hK K
  replace hF := hF.sub _ (c_ 26 rfl (c_ 7 rfl (c_ 6 rfl (c_ 5 rfl (c_ 4 rfl (n_))))))
  refine W_if hF rfl (fun hc2 => ?_) (fun hc2 => ?_)
  ·
   skip
   try simp only [dcl] at hc2
   refine W_sr rfl (fun K hK => ?_)
   refine sv2 hF (v_assign rfl) (v_assign rfl) rfl rfl ?_; clear hF a; intro a hF
   refine WL_nil (hK _ _ ?_)
   clear hK K
   replace hF := hF.sub _ (c_ 5 rfl (c_ 4 rfl (c_ 7 rfl (c_ 6 rfl (n_)))))
   refine W_ret ?_
   refine ⟨_, _, _, hF, rfl, rfl, ?_⟩
   rw [invR_none hp hsq (by rw [← hn]; exact iv_lt hp (by omega))]
   exact ⟨none, _, rfl, MOwn.nil _ _ _ _ _ _ _ (Nat.zero_le _), hS⟩
  ·
   skip
   try simp only [dcl] at hc2
   refine W_skip ?_
   have hiv := iv_ge hp (n := n) (f := en mt) (by omega)
   have hinv := invR_some hp hsq (by rw [← hn]; exact hiv)
   rw [← hn] at hinv
   obtain ⟨K0, hK0⟩ : ∃ k, k = w'.heap.size := ⟨_, rfl⟩
   have hWd := hW.mat (gb := gv) hO (by decide)
   rw [← hK0] at hWd
   have hwK : w.heap.size ≤ K0 := by have := hS.ext.size; omega
   clear hO hW
   refine W_sr rfl (fun K hK => ?_)
   refine sv hF (v_assign rfl) rfl ?_; clear hF a; intro a hF
   refine WL_nil (hK _ _ ?_)
   clear hK K
   replace hF := hF.sub _ (c_ 8 rfl (c_ 7 rfl (c_ 6 rfl (c_ 5 rfl (c_ 4 rfl (n_))))))
   refine W_seq ?_
   refine W_sr rfl (fun K hK => ?_)
   refine sv hF (v_move rfl) rfl ?_; clear hF a; intro a hF
   refine sv hF (v_lenS rfl sl36 rfl) rfl ?_; clear hF a; intro a hF
   refine sv hF (v_move rfl) rfl ?_; clear hF a; intro a hF
   refine WL_nil (hK _ _ ?_)
   clear hK K
   replace hF := hF.sub _ (c_ 29 rfl (c_ 28 rfl (c_ 27 rfl (c_ 8 rfl (c_ 6 rfl (c_ 5 rfl (c_ 4 rfl (n_))))))))
   refine W_block ?_
   refine W_loop (fun m a w1 => ∃ (i : Nat) (v8 : Value) (b8 : Option Nat), Fr 42 [(6, .int .i64 (n : Int)), (8, v8), (27, .slice (some ⟨gv, 0, none⟩) n cap), (28, .int .i64 (n : Int)), (29, .int .i64 (i : Int))] a ∧ (St FDx B w w1) ∧ (Mat FDx B K0 w1 (some ⟨gv, 0, none⟩) cap (tab n (n + n) (hp.fld.red n (Fld.bes n (en mt) I1) n).1)) ∧ (MOwn FDx B K0 0 w1.heap.size w1 53 v8 b8 ((List.range i).map (trow n (half hp n (en mt))))) ∧ (K0 ≤ w1.heap.size) ∧ (i ≤ n) ∧ (m + i = n)) (n) ?_ ?_
   ·
    skip
    exact ⟨0, _, none, hF.sub _ (c_ 6 rfl (c_ 8 rfl (c_ 27 rfl (c_ 28 rfl (c_ 29 rfl (n_)))))), hS, hWd, MOwn.nil _ _ _ _ _ _ _ (Nat.zero_le _), by omega, by omega, by omega⟩
   ·
    skip
    clear hF
    clear hS hWd
    rintro m a w1 ⟨i, v8, b8, hF, hS, hWd, hMO, hKz, hi, hm⟩
    obtain ⟨KM, hKe⟩ : ∃ K, K = w1.heap.size := ⟨_, rfl⟩
    rw [← hKe] at hMO
    have hKs : KM ≤ w1.heap.size := by omega
    clear hKe
    refine W_sr rfl (fun K hK => ?_)
    refine sv hF (v_lss rfl rfl) rfl ?_; clear hF a; intro a hF
    refine WL_nil (hK _ _ ?_)
    clear hK K
    refine W_seq ?_
    refine W_if hF rfl (fun hc3 => ?_) (fun hc3 => ?_)
    ·
     skip
     try simp only [dcl] at hc3
     have hlt : i < n := by omega
     obtain ⟨gw, ow, pr, cr, hgw, hkw, hrw, -⟩ := hWd.row (tab_at (f := (hp.fld.red n (Fld.bes n (en mt) I1) n).1) (m := n + n) hlt)
     cases hgw
     have hrl : ((List.range (n + n)).map fun j => (((hp.fld.red n (Fld.bes n (en mt) I1) n).1 i j : Nat) : Int)).length = n + n := by simp
     rw [hrl] at hrw hkw
     have hcr := hrw.capd
     have hpart := hrw.part (lo := n) (hi := n + n) (by omega) (by simp)
     have hhr := half_row hp n (en mt) i
     have hxs : (List.take (n + n) (zints ((List.range (n + n)).map fun j => (((hp.fld.red n (Fld.bes n (en mt) I1) n).1 i j : Nat) : Int)))).drop n = zints (trow n (half hp n (en mt)) i) := by
      rw [List.take_of_length_le (by simp), ← hhr]; simp [zints, trow]
     rw [hxs] at hpart
     rw [show n + n - n = (trow n (half hp n (en mt)) i).length by simp] at hpart
     clear hxs hhr
     refine W_skip ?_
     refine W_seq ?_
     refine W_block ?_
     refine W_sr rfl (fun K hK => ?_)
     refine sv hF (v_ixS sl36 rfl rfl (by omega) (by omega)) rfl ?_; clear hF a; intro a hF
     refine sv hF (v_load sc53 rfl (by rw [toNat_c]; exact hkw.c)) rfl ?_; clear hF a; intro a hF
     refine sv hF (v_assign rfl) rfl ?_; clear hF a; intro a hF
     refine WL_nil (hK _ _ ?_)
     clear hK K
     replace hF := hF.sub _ (c_ 10 rfl (c_ 6 rfl (c_ 8 rfl (c_ 27 rfl (c_ 28 rfl (c_ 29 rfl (n_)))))))
     refine W_reg rfl (fun K hK => ?_)
     refine sv3 hF (v_move rfl) (v_move rfl) (v_move rfl) rfl rfl rfl ?_; clear hF a; intro a hF
     refine sv hF (v_slLo sl53 rfl rfl (by omega) (by omega)) rfl ?_; clear hF a; intro a hF
     rw [show n + n - n = (trow n (half hp n (en mt)) i).length by simp] at hF
     refine sc hF rfl rfl rfl en40 rfl (Clone_ok B _ _ _ _ _ hS.inv hpart hKz (by simp; omega)) ?_; clear hF a; intro v w' a hv hF
     obtain ⟨ob, hC, hS'⟩ := hv
     replace hC := hC.le hKz
     replace hWd := hWd.st hS'
     replace hMO := hMO.st (by decide) hS'
     replace hKz := Nat.le_trans hKz hS'.ext.size
     replace hKs := Nat.le_trans hKs hS'.ext.size
     replace hS := hS.trans hS'
     clear hS'
     obtain ⟨a_, c_r, rfl⟩ := hC.shape
     refine s_bs (D := FDx) (B := B) hF sl36 rfl rfl (by decide) (by simp [Value.cells]) (by decide) hS.inv rfl ?_; clear hF a; intro w' a hm hI' hL hF
     replace hWd := hWd.mb hm (fun _ h => by cases h)
     replace hMO := hMO.mb0 hm
     replace hKz := Nat.le_trans hKz hm.size
     replace hKs := Nat.le_trans hKs hm.size
     replace hC := hC.mb hm (fun _ _ => by simp)
     replace hS := hS.mb0 hm
     clear hm hI'
     replace hMO := hMO.up hKs
     clear hKs
     refine s_appM (D := FDx) (B := B) hF rfl sl36 rfl rfl hMO hL (.of hC (Nat.zero_le _)) rfl rfl (by simp; omega) (hKz) (by decide) (by decide) hS.inv rfl ?_; clear hF a; intro v' b' w' a ho' hm hI' hF
     replace hWd := hWd.mb hm (fun k h => Nat.le_trans ((Nat.le_refl _)) (hMO.lt k h).1)
     replace hKz := Nat.le_trans hKz hm.size
     replace hS := hS.mb hm (fun k h => Nat.le_trans hwK (hMO.lt k h).1)
     have hKm := hm.size
     replace hMO := ho'
     clear hm hI' ho' hL
     refine sv hF (v_assign rfl) rfl ?_; clear hF a; intro a hF
     refine WL_nil (hK _ _ ?_)
     clear hK K
     replace hF := hF.sub _ (c_ 8 rfl (c_ 6 rfl (c_ 27 rfl (c_ 28 rfl (c_ 29 rfl (n_))))))
     refine W_reg rfl (fun K hK => ?_)
     refine sv hF (v_addI rfl rfl (by omega)) rfl ?_; clear hF a; intro a hF
     refine sv hF (v_move rfl) rfl ?_; clear hF a; intro a hF
     refine WL_nil (hK _ _ ?_)
     clear hK K
     exact ⟨m - 1, by omega, i + 1, _, _, hF.sub _ (c_ 6 rfl (c_ 8 rfl (c_ 27 rfl (c_ 28 rfl (c_ 29 rfl (n_)))))), hS, hWd, (hMO.up hKm).cast (by rw [List.range_succ, List.map_append]; rfl), hKz, by omega, by omega⟩
    ·
     skip
     try simp only [dcl] at hc3
     refine W_exit rfl ?_
     refine W_sr rfl (fun K hK => ?_)
     refine sv3 hF (v_move rfl) (v_assign rfl) (v_assign rfl) rfl rfl rfl ?_; clear hF a; intro a hF
     refine WL_nil (hK _ _ ?_)
     clear hK K
     replace hF := hF.sub _ (c_ 5 rfl (c_ 4 rfl (c_ 41 rfl (c_ 6 rfl (c_ 8 rfl (c_ 27 rfl (c_ 28 rfl (c_ 29 rfl (n_)))))))))
     refine W_ret ?_
     refine ⟨_, _, _, hF, rfl, rfl, ?_⟩
     obtain rfl : i = n := by omega
     rw [hinv]
     exact ⟨_, _, rfl, (hMO.up hKs).le hwK (Nat.zero_le _), hS⟩

end Go.Proofs.YtkoiolamnnmokaaGreat

/- What the statements of layer 5 ask of inverses, ranks, what is solved. No program in sight. -/
set_option linter.unusedVariables false
set_option linter.unusedSimpArgs false
namespace Go.Gam
open Px

namespace Fld
variable (F : Fld)
theorem piv_congr {n c : Nat} {f g : Tb} (h : ∀ i, i < n → f i c = g i c) : ∀ {d t : Nat}, t + d ≤ n → piv f n c t d = piv g n c t d
  | 0, _, _ => rfl
  | d + 1, t, hd => by
    unfold piv
    rw [h t (by omega), piv_congr h (by omega)]
/-- The reduction looks at the first columns alone. -/
theorem red_cols {n C : Nat} {f g : Tb} (h : ∀ i, i < n → ∀ j, j < C → f i j = g i j) : ∀ c, c ≤ C → (F.red n f c).2 = (F.red n g c).2 ∧ (∀ i, i < n → ∀ j, j < C → (F.red n f c).1 i j = (F.red n g c).1 i j) ∧ (F.red n f c).2 ≤ n
  | 0, _ => ⟨rfl, h, Nat.zero_le _⟩
  | c + 1, hc => by
    obtain ⟨h1, h2, h3⟩ := red_cols h c (by omega)
    rw [red, red, ← h1]
    clear h1
    generalize (F.red n f c).1 = f1 at *
    generalize (F.red n g c).1 = g1 at *
    generalize (F.red n f c).2 = t at *
    have hp : piv f1 n c t (n - t) = piv g1 n c t (n - t) := piv_congr (fun i hi => h2 i hi c (by omega)) (by omega)
    unfold stp
    rw [← hp]
    cases hk : piv f1 n c t (n - t) with
    | none => exact ⟨rfl, h2, h3⟩
    | some k =>
      obtain ⟨k1, k2, -, -⟩ := piv_some hk
      refine ⟨rfl, fun i hi j hj => ?_, by show t + 1 ≤ n; omega⟩
      dsimp only
      unfold op
      rw [h2 k (by omega) j hj, h2 k (by omega) c (by omega), h2 _ (sw_lt (by omega) (by omega) hi) j hj]
      dsimp only
      rw [h2 _ (sw_lt (by omega) (by omega) hi) c (by omega)]
theorem rk_congr {n c : Nat} {f g : Tb} (h : ∀ i, i < n → ∀ j, j < c → f i j = g i j) : F.rk n f c = F.rk n g c := (F.red_cols h c (Nat.le_refl _)).1
theorem Iv.congr {n : Nat} {E E' G : Tb} (h : F.Iv n E E') (hb : F.Bd G) (he : ∀ i j, i < n → j < n → G i j = E i j) : F.Iv n G E' :=
  ⟨hb, h.bd', fun i j hi hj => by rw [← h.r i j hi hj]; exact F.mm_congr (fun l hl => he i l hi hl) (fun _ _ => rfl), fun i j hi hj => by rw [← h.l i j hi hj]; exact F.mm_congr (fun _ _ => rfl) (fun l hl => he l j hl hj)⟩
theorem rk_iv {n : Nat} {f : Tb} (h : (F.iv n f).isSome = true) : F.rk n f n = n := by
  have e : F.rk n f n = F.rk n (bes n f I1) n := F.rk_congr fun i _ j hj => by unfold bes; rw [if_pos hj]
  unfold iv at h
  split at h
  · cases h
  · rename_i hn
    have h2 : ¬ F.rk n (bes n f I1) n < n := hn
    have h3 := (F.red_cols (n := n) (C := n) (f := f) (g := f) (fun _ _ _ _ => rfl) n (Nat.le_refl _)).2.2
    have h4 : F.rk n f n ≤ n := h3
    omega
end Fld

section
variable {wb p : Nat} (hp : Prm wb p)
theorem fld_bd16 {f : Tb} (h : hp.fld.Bd f) : ∀ i j, f i j < 2 ^ wb := fun i j => by have := h i j; rw [hp.fld_w] at this; exact this
theorem mx_tab {n m : Nat} {g : Tb} (h : hp.fld.Bd g) : Mx wb n m (tab n m g) := Mx.tab fun i j _ _ => fld_bd16 hp h i j
end
/-- Are numbers all different, and below a bound? -/
def unl (l : List Int) (b : Int) : Bool := decide (l.Nodup ∧ ∀ x ∈ l, 0 ≤ x ∧ x < b)
theorem unl_no {l : List Int} {b : Int} (h : ¬ (l.Nodup ∧ ∀ x ∈ l, 0 ≤ x ∧ x < b)) : unl l b = false := decide_eq_false h
theorem nodup_no {l : List Int} {i k : Nat} {x : Int} (h : k < i) (hi : l[i]? = some x) (hk : l[k]? = some x) : ¬ l.Nodup := fun hn => by
  obtain ⟨h1, h2⟩ := List.getElem?_eq_some_iff.1 hi
  obtain ⟨h3, h4⟩ := List.getElem?_eq_some_iff.1 hk
  exact List.pairwise_iff_getElem.1 hn k i h3 h1 h (h4.trans h2.symm)
theorem nodup_snoc {l : List Int} {i : Nat} {x : Int} (h : (l.take i).Nodup) (hi : l[i]? = some x) (hx : ∀ y ∈ l.take i, y ≠ x) : (l.take (i + 1)).Nodup := by
  rw [take_snoc hi]
  refine List.pairwise_append.2 ⟨h, List.pairwise_singleton _ _, fun a ha b hb => ?_⟩
  obtain rfl : b = x := by simpa using hb
  exact hx a ha
theorem gpow_fld {wb p x n : Nat} (hp : Prm wb p) (hx : x < 2 ^ wb) : gpow (some (wb, p)) (x : Int) (n : Int) = (hp.fld.pow x n : Int) := by
  rw [gpow_in hx]; exact congrArg _ (fld_pow p hp.irrP x n).symm
/-- The rows of powers of some numbers. -/
def vtab {wb p : Nat} (hp : Prm wb p) (l : List Nat) : Tb := fun i k => hp.fld.pow (l.getD i 0) k
def vrows {wb p : Nat} (hp : Prm wb p) (l : List Nat) : Mtx := tab l.length l.length (vtab hp l)
/-! ### the smallest ones -/
end Go.Gam

/- Matrices of powers: what package vander tells; rows that are chosen. No program in sight. -/
set_option linter.unusedVariables false
set_option linter.unusedSimpArgs false
namespace Go.Gam
open Px

theorem gpow_nn {wb p : Nat} (hp : Prm wb p) (x n : Int) : 0 ≤ gpow (some (wb, p)) x n ∧ gpow (some (wb, p)) x n < ((2 ^ wb : Nat) : Int) := by
  have h0 := hp.size.1
  unfold gpow
  split
  · have := hp.pow_lt x.toNat n.toNat
    exact ⟨Int.natCast_nonneg _, by show ((Px.pow x.toNat p n.toNat : Nat) : Int) < _; omega⟩
  · exact ⟨by omega, by omega⟩
/-- Powers of the rows' numbers; of powers of 2. -/
def pwT (o : Fq) : Tb := fun i j => (gpow o (i : Int) (j : Int)).toNat
def isT (o : Fq) : Tb := fun i j => (gpow o (gpow o 2 (i : Int)) (j : Int)).toNat
def fitB (o : Fq) (k m : Int) : Bool := o.isSome && decide (1 ≤ k ∧ 1 ≤ m ∧ k < 20 ∧ m < 20 ∧ k + m ≤ 20)
def rawB (o : Fq) (k m : Int) : Bool := o.isSome && decide (1 ≤ k ∧ k ≤ 20 ∧ 1 ≤ m ∧ m ≤ 20)
def rawM (o : Fq) (k m : Int) : Option Mtx := if rawB o k m = true then some (tab k.toNat m.toNat (pwT o)) else none
def isalM (o : Fq) (k m : Int) : Option Mtx := if fitB o k m = true then some (tab m.toNat k.toNat (isT o)) else none
section
variable {wb p : Nat} (hp : Prm wb p)
def vinv (k : Nat) : Tb := (hp.fld.iv k fun i j => hp.fld.pow i j).getD I1
def sysT (k : Nat) : Tb := hp.fld.mm k (fun i j => hp.fld.pow i j) (vinv hp k)
def sysM (k m : Int) : Option Mtx := if fitB (some (wb, p)) k m = true then some (tab (k + m).toNat k.toNat (sysT hp k.toNat)) else none
theorem pwT_pow {i j : Nat} (hi : i < 256) : pwT (some (wb, p)) i j = hp.fld.pow i j := by
  unfold pwT
  have := hp.size.1
  rw [gpow_fld hp (by omega), Int.toNat_natCast]
theorem isT_pow {i j : Nat} : isT (some (wb, p)) i j = hp.fld.pow (hp.fld.pow 2 i) j := by
  unfold isT
  have := hp.size.1
  have h2 : hp.fld.pow 2 i < 2 ^ wb := by have := hp.fld.pow_lt 2 i; rwa [hp.fld_w] at this
  rw [show (2 : Int) = ((2 : Nat) : Int) from rfl, gpow_fld hp (by omega), gpow_fld hp h2, Int.toNat_natCast]
theorem vinv_ok {k : Nat} (hk : k ≤ 256) : hp.fld.iv k (fun i j => hp.fld.pow i j) = some (vinv hp k) ∧ hp.fld.Iv k (fun i j => hp.fld.pow i j) (vinv hp k) := by
  have h16 := hp.size.1
  have hb : hp.fld.Bd fun i j => hp.fld.pow i j := fun i j => hp.fld.pow_lt _ _
  obtain ⟨g, hg⟩ := hp.fld.vander (n := k) (x := fun i => if i < 256 then i else 0) (fun i => by rw [hp.fld_w]; split <;> omega) (fun i j hi hj e => by
    rw [if_pos (by omega), if_pos (by omega)] at e
    exact e)
  have hc := hp.fld.iv_congr (n := k) (f := fun i j => hp.fld.pow i j) (g := fun i k => hp.fld.pow (if i < 256 then i else 0) k) hb (fun i j => hp.fld.pow_lt _ _) fun i j hi _ => by rw [if_pos (by omega)]
  rw [hg] at hc
  obtain ⟨g', hg'⟩ := Option.isSome_iff_exists.1 hc
  have e : vinv hp k = g' := by unfold vinv; rw [hg']; rfl
  rw [e]
  exact ⟨hg', hp.fld.iv_some hb hg'⟩
theorem tab_take {n k m : Nat} {f : Tb} (h : k ≤ n) : (tab n m f).take k = tab k m f := by
  unfold tab
  rw [← List.map_take, List.take_range, Nat.min_eq_left h]
theorem tab_drop {n k m : Nat} {f : Tb} (h : k ≤ n) : (tab n m f).drop k = tab (n - k) m fun i j => f (k + i) j := by
  unfold tab
  apply List.ext_getElem?
  intro i
  rw [List.getElem?_drop, List.getElem?_map, List.getElem?_map]
  by_cases hi : i < n - k
  · rw [List.getElem?_range hi, List.getElem?_range (show k + i < n by omega)]; rfl
  · rw [List.getElem?_eq_none (by simp; omega), List.getElem?_eq_none (by simp; omega)]; rfl
/-- The first rows' inverse, as it is told. -/
theorem raw_inv {k : Nat} (h1 : 1 ≤ k) (h2 : k ≤ 20) : invR hp (tab k k (pwT (some (wb, p)))) = (0, tab k k (vinv hp k)) := by
  have e : tab k k (pwT (some (wb, p))) = tab k k fun i j => hp.fld.pow i j := tab_congr fun i j hi _ => pwT_pow hp (by omega)
  rw [e]
  have hb : hp.fld.Bd fun i j => hp.fld.pow i j := fun i j => hp.fld.pow_lt _ _
  have hm := mx_tab hp (n := k) (m := k) hb
  have hl : (tab k k fun i j => hp.fld.pow i j).length = k := tab_length _ _ _
  obtain ⟨hi, hI⟩ := vinv_ok hp (k := k) (by omega)
  have hI2 := hI.congr hp.fld (hm.bd hp) fun i j hi hj => (en_tab hi hj : en (tab k k fun i j => hp.fld.pow i j) i j = _)
  obtain ⟨g, hg⟩ := hp.fld.iv_of_Iv hI2
  have hu := (hp.fld.iv_some (hm.bd hp) hg).uniq hp.fld hI.bd' fun i j hi hj => hI2.r i j hi hj
  rw [invR_some hp (hm.sq h1 h2) (g := g) (by rw [hl]; exact hg), hl]
  congr 1
  exact tab_congr fun i j hi hj => (hu i j hi hj).symm
theorem sys_mul {k m : Nat} (h1 : 1 ≤ k) (h2 : 1 ≤ m) (h3 : k + m ≤ 20) : mulM (some (wb, p)) (tab (k + m) k (pwT (some (wb, p)))) (tab k k (vinv hp k)) = some (tab (k + m) k (sysT hp k)) := by
  have hb : hp.fld.Bd fun i j => hp.fld.pow i j := fun i j => hp.fld.pow_lt _ _
  have e : tab (k + m) k (pwT (some (wb, p))) = tab (k + m) k fun i j => hp.fld.pow i j := tab_congr fun i j hi _ => pwT_pow hp (by omega)
  rw [e, mulM_tab hp (mx_tab hp hb) (mx_tab hp (vinv_ok hp (show k ≤ 256 by omega)).2.bd') ⟨by omega, by omega⟩ ⟨h1, by omega⟩ ⟨h1, by omega⟩]
  congr 1
  exact tab_congr fun i j hi hj => xsum_congr fun l hl => by rw [en_tab hi hl, en_tab hl hj]
end

/-! ### rows chosen -/
/-- What is chosen so far; which ones that are, bit by bit; where. -/
def stC (rows step : Nat) (s : List Nat × Nat × Nat) : List Nat × Nat × Nat :=
  let o := if s.2.1.testBit s.2.2 then s.1 else s.1 ++ [s.2.2]
  let b := if s.2.1.testBit s.2.2 then s.2.1 else s.2.1 ||| 1 <<< s.2.2
  let a := (s.2.2 + step) % rows
  (o, b, if b.testBit a then (a + 1) % rows else a)
def chS (rows step at0 : Nat) : Nat → List Nat × Nat × Nat
  | 0 => ([], 0, at0)
  | i + 1 => stC rows step (chS rows step at0 i)
def chI (rows step : Nat) : Nat → List Nat × Nat × Nat → List Nat × Nat × Nat
  | 0, s => s
  | i + 1, s => chI rows step i (stC rows step s)
theorem chI_st (rows step : Nat) : ∀ i s, chI rows step (i + 1) s = stC rows step (chI rows step i s)
  | 0, _ => rfl
  | i + 1, s => by rw [chI, chI_st rows step i, chI]
theorem chS_I (rows step at0 : Nat) : ∀ i, chS rows step at0 i = chI rows step i ([], 0, at0)
  | 0 => rfl
  | i + 1 => by rw [chS, chS_I rows step at0 i, ← chI_st]
/-- How many are chosen. -/
def chN (rows step : Nat) : Nat → Nat → Nat → Nat → Nat
  | 0, n, _, _ => n
  | i + 1, n, b, t =>
    bif Nat.beq ((b >>> t) % 2) 1 then
      (bif Nat.beq ((b >>> ((t + step) % rows)) % 2) 1 then chN rows step i n b (((t + step) % rows + 1) % rows) else chN rows step i n b ((t + step) % rows))
    else
      (bif Nat.beq (((b ||| 1 <<< t) >>> ((t + step) % rows)) % 2) 1 then chN rows step i (n + 1) (b ||| 1 <<< t) (((t + step) % rows + 1) % rows) else chN rows step i (n + 1) (b ||| 1 <<< t) ((t + step) % rows))
theorem beq_bit (b t : Nat) : Nat.beq ((b >>> t) % 2) 1 = b.testBit t := by
  rw [Nat.testBit_eq_decide_div_mod_eq, Nat.shiftRight_eq_div_pow]
  rw [Bool.eq_iff_iff, decide_eq_true_iff, Nat.beq_eq]
theorem chN_I (rows step : Nat) : ∀ i s, chN rows step i s.1.length s.2.1 s.2.2 = (chI rows step i s).1.length
  | 0, _ => rfl
  | i + 1, s => by
    rw [chI, ← chN_I rows step i, chN, beq_bit, beq_bit, beq_bit]
    unfold stC
    cases h : s.2.1.testBit s.2.2 with
    | true =>
      simp only [cond_true, if_true]
      cases h2 : s.2.1.testBit ((s.2.2 + step) % rows) <;> simp only [cond_true, cond_false, if_true, if_false, Bool.false_eq_true]
    | false =>
      simp only [cond_false, Bool.false_eq_true, if_false, List.length_append, List.length_singleton]
      cases h2 : (s.2.1 ||| 1 <<< s.2.2).testBit ((s.2.2 + step) % rows) <;> simp only [cond_true, cond_false, if_true, if_false, Bool.false_eq_true]
def chOk : Bool := (List.range 21).all fun rows => (List.range rows).all fun t => (List.range rows).all fun step => Nat.ble (rows - 1) (chN rows step (2 * rows) 0 0 t)
theorem chOk_t : chOk = true := by decide +kernel
/-- As many as are asked for are chosen. -/
theorem chS_many {rows step t : Nat} (h : rows ≤ 20) (ht : t < rows) : rows - 1 ≤ (chS rows (step % rows) t (2 * rows)).1.length := by
  have h1 := chOk_t
  unfold chOk at h1
  rw [List.all_eq_true] at h1
  have h2 := h1 rows (List.mem_range.2 (by omega))
  rw [List.all_eq_true] at h2
  have h3 := h2 t (List.mem_range.2 ht)
  rw [List.all_eq_true] at h3
  have h4 := h3 (step % rows) (List.mem_range.2 (Nat.mod_lt _ (by omega)))
  rw [chS_I, ← chN_I]
  exact Nat.le_of_ble_eq_true h4
theorem chS_at {rows step t : Nat} (h : 0 < rows) (ht : t < rows) : ∀ i, (chS rows step t i).2.2 < rows
  | 0 => ht
  | i + 1 => by
    show (stC _ _ _).2.2 < rows
    unfold stC
    dsimp only
    split <;> (try split) <;> exact Nat.mod_lt _ h
/-- What is known of the rows that are chosen. -/
theorem chS_ok {rows step t : Nat} (h : 0 < rows) (ht : t < rows) : ∀ i, (chS rows step t i).1.Nodup ∧ ∀ x, (x ∈ (chS rows step t i).1 ↔ (chS rows step t i).2.1.testBit x = true) ∧ (x ∈ (chS rows step t i).1 → x < rows)
  | 0 => ⟨List.nodup_nil, fun x => by simp [chS]⟩
  | i + 1 => by
    obtain ⟨h1, h2⟩ := chS_ok (step := step) h ht i
    have h3 := chS_at (step := step) h ht i
    show (stC _ _ _).1.Nodup ∧ ∀ x, (x ∈ (stC _ _ _).1 ↔ (stC _ _ _).2.1.testBit x = true) ∧ (x ∈ (stC _ _ _).1 → x < rows)
    generalize chS rows step t i = s at *
    unfold stC
    dsimp only
    cases hb : s.2.1.testBit s.2.2 with
    | true => simp only [if_true]; exact ⟨h1, h2⟩
    | false =>
      simp only [Bool.false_eq_true, if_false]
      have hni : s.2.2 ∉ s.1 := fun hm => by rw [(h2 _).1.1 hm] at hb; cases hb
      refine ⟨List.pairwise_append.2 ⟨h1, List.pairwise_singleton _ _, fun a ha b hb' => ?_⟩, fun x => ⟨?_, fun hx => ?_⟩⟩
      · obtain rfl : b = s.2.2 := by simpa using hb'
        exact fun e => hni (e ▸ ha)
      · rw [List.mem_append, Nat.testBit_or, Bool.or_eq_true, (h2 x).1, Nat.one_shiftLeft, Nat.testBit_two_pow]
        simp only [List.mem_singleton, decide_eq_true_iff]
        exact ⟨fun h => h.imp id Eq.symm, fun h => h.imp id Eq.symm⟩
      · rcases List.mem_append.1 hx with hx | hx
        · exact (h2 x).2 hx
        · obtain rfl : x = s.2.2 := by simpa using hx
          exact h3
def bls (b : Nat) : List Value := (List.range 20).map fun x => .bool (b.testBit x)
@[simp] theorem bls_length (b : Nat) : (bls b).length = 20 := by simp [bls]
theorem bls_zero : List.replicate 20 (Value.bool false) = bls 0 := by simp [bls]; rfl
theorem bls_at {b x : Nat} (h : x < 20) : (bls b)[x]? = some (.bool (b.testBit x)) := by simp [bls, h]
theorem bls_set {b x : Nat} (h : x < 20) : (bls b).set x (.bool true) = bls (b ||| 1 <<< x) := by
  apply List.ext_getElem?
  intro l
  by_cases hl : l < 20
  · rw [bls_at hl, List.getElem?_set]
    by_cases e : x = l
    · subst e
      rw [if_pos rfl, if_pos (by simpa using h), Nat.testBit_or, Nat.one_shiftLeft, Nat.testBit_two_pow]
      simp
    · rw [if_neg e, bls_at hl, Nat.testBit_or, Nat.one_shiftLeft, Nat.testBit_two_pow]
      simp [e]
  · rw [List.getElem?_eq_none (by simp; omega), List.getElem?_eq_none (by simp; omega)]
theorem Fo.ptr {D : FD} {B : Nat} {w : World} {v : Value} {o : Fq} (h : Fo D B w v o) : ∃ a, v = .pointer a ∧ a.isSome = o.isSome := by
  cases o with
  | none => exact ⟨none, h, rfl⟩
  | some q => obtain ⟨-, k, rfl, -⟩ := h; exact ⟨_, rfl, rfl⟩
theorem rawM_no {o : Fq} {k m : Int} (h : rawB o k m = false) : rawM o k m = none := by unfold rawM; rw [h]; rfl
theorem isalM_no {o : Fq} {k m : Int} (h : fitB o k m = false) : isalM o k m = none := by unfold isalM; rw [h]; rfl
theorem fitB_iff {o : Fq} {k m : Int} : fitB o k m = true ↔ o.isSome = true ∧ 1 ≤ k ∧ 1 ≤ m ∧ k < 20 ∧ m < 20 ∧ k + m ≤ 20 := by unfold fitB; rw [Bool.and_eq_true, decide_eq_true_iff]
theorem pwT_nn {o : Fq} (h : ∀ wb p, o = some (wb, p) → Prm wb p) (x n : Int) : ((gpow o x n).toNat : Int) = gpow o x n := by
  cases o with
  | none => unfold gpow; split <;> simp [fpow]
  | some q => obtain ⟨wb, p⟩ := q; have := gpow_nn (h wb p rfl) x n; omega
theorem Fo.prms {D : FD} {B : Nat} {w : World} {v : Value} {o : Fq} (h : Fo D B w v o) : ∀ wb p, o = some (wb, p) → Prm wb p := fun wb p e => by subst e; exact h.1
end Go.Gam

/- Rows of the identity with other rows behind it: which of them, as many as columns, have an inverse; minors. No program in sight. -/
set_option linter.unusedVariables false
set_option linter.unusedSimpArgs false
namespace Go.Gam
open Px

/-! ### sums over a list -/
def xsumL : List Nat → (Nat → Nat) → Nat
  | [], _ => 0
  | j :: r, f => f j ^^^ xsumL r f
theorem xsumL_app (f : Nat → Nat) : ∀ (a b : List Nat), xsumL (a ++ b) f = xsumL a f ^^^ xsumL b f
  | [], b => by simp [xsumL]
  | j :: r, b => by rw [List.cons_append, xsumL, xsumL_app f r b, xsumL, Nat.xor_assoc]
theorem xsumL_range (f : Nat → Nat) : ∀ n, xsumL (List.range n) f = xsum n f
  | 0 => rfl
  | n + 1 => by rw [List.range_succ, xsumL_app, xsumL_range f n, xsum]; simp [xsumL]
theorem xsumL_filter {f : Nat → Nat} {p : Nat → Bool} : ∀ {L : List Nat}, (∀ j ∈ L, p j = false → f j = 0) → xsumL L f = xsumL (L.filter p) f
  | [], _ => rfl
  | j :: r, h => by
    have ih := xsumL_filter (L := r) fun j hj => h j (List.mem_cons_of_mem _ hj)
    cases hp : p j with
    | true => rw [List.filter_cons_of_pos hp, xsumL, xsumL, ih]
    | false => rw [List.filter_cons_of_neg (by simp [hp]), xsumL, ih, h j (List.mem_cons_self ..) hp, Nat.zero_xor]
theorem xsumL_len (f : Nat → Nat) : ∀ J : List Nat, xsumL J f = xsum J.length fun b => f (J.getD b 0)
  | [] => rfl
  | j :: r => by
    rw [xsumL, xsumL_len f r, List.length_cons, Nat.add_comm r.length 1, xsum_add]
    congr 1
    · show f j = 0 ^^^ f j; rw [Nat.zero_xor]
    · exact xsum_congr fun i _ => by rw [Nat.add_comm 1 i]; rfl
theorem sub_len {a b : List Nat} (ha : a.Nodup) (h : ∀ x ∈ a, x ∈ b) : a.length ≤ b.length := by
  by_cases hl : b.length ≤ a.length
  · exact Nat.le_of_eq (Fld.perm_of_sub a b ha h hl).length_eq
  · omega
theorem filter_two {α : Type} (p : α → Bool) : ∀ l : List α, (l.filter p).length + (l.filter fun x => !p x).length = l.length
  | [] => rfl
  | x :: r => by
    have ih := filter_two p r
    cases h : p x <;> simp [h] <;> omega

/-! ### minors -/
/-- The rows behind the identity that are chosen; the columns that no chosen row of the identity has. -/
def parR (k : Nat) (l : List Nat) : List Nat := (l.filter fun x => decide (k ≤ x)).map (· - k)
def misJ (k : Nat) (l : List Nat) : List Nat := (List.range k).filter fun j => !decide (j ∈ l)
theorem par_mis {k : Nat} {l : List Nat} (hl : l.length = k) (hn : l.Nodup) : (parR k l).length = (misJ k l).length := by
  have h1 := filter_two (fun x => decide (k ≤ x)) l
  have h2 := filter_two (fun j => decide (j ∈ l)) (List.range k)
  have e : (l.filter fun x => !decide (k ≤ x)).length = ((List.range k).filter fun j => decide (j ∈ l)).length := by
    apply Nat.le_antisymm
    · exact sub_len (hn.filter _) fun x hx => by
        simp only [List.mem_filter, Bool.not_eq_true', decide_eq_false_iff_not] at hx
        simp only [List.mem_filter, List.mem_range, decide_eq_true_iff]
        exact ⟨by omega, hx.1⟩
    · exact sub_len (List.nodup_range.filter _) fun x hx => by
        simp only [List.mem_filter, List.mem_range, decide_eq_true_iff] at hx
        simp only [List.mem_filter, Bool.not_eq_true', decide_eq_false_iff_not]
        exact ⟨hx.2, by omega⟩
  unfold parR misJ
  rw [List.length_map]
  rw [List.length_range] at h2
  omega
theorem parR_nodup {k : Nat} {l : List Nat} (hn : l.Nodup) : (parR k l).Nodup := by
  refine List.Pairwise.map _ (R := fun a b => k ≤ a ∧ k ≤ b ∧ a ≠ b) (fun a b h e => h.2.2 (by omega)) ?_
  refine List.Pairwise.imp_of_mem (fun ha hb hne => ?_) (hn.filter _)
  simp only [List.mem_filter, decide_eq_true_iff] at ha hb
  exact ⟨ha.2, hb.2, hne⟩
theorem misJ_nodup (k : Nat) (l : List Nat) : (misJ k l).Nodup := List.nodup_range.filter _
theorem parR_lt {k m : Nat} {l : List Nat} (h : ∀ x ∈ l, x < k + m) : ∀ r ∈ parR k l, r < m := fun r hr => by
  obtain ⟨x, hx, rfl⟩ := List.mem_map.1 hr
  simp only [List.mem_filter, decide_eq_true_iff] at hx
  have := h x hx.1
  omega
theorem misJ_lt {k : Nat} {l : List Nat} : ∀ j ∈ misJ k l, j < k := fun j hj => List.mem_range.1 (List.mem_filter.1 hj).1
def mnr (C : Tb) (R J : List Nat) : Tb := fun a b => C (R.getD a 0) (J.getD b 0)
/-- The identity's k rows, with others behind it. -/
def beh (k : Nat) (C : Tb) : Tb := fun i j => if i < k then I1 i j else C (i - k) j
namespace Fld
variable (F : Fld)
theorem mnr_bd {C : Tb} (h : F.Bd C) (R J : List Nat) : F.Bd (mnr C R J) := fun a b => h _ _
theorem beh_bd {k : Nat} {C : Tb} (h : F.Bd C) : F.Bd (beh k C) := fun i j => by unfold beh; split; exact F.I1_bd _ _; exact h _ _
theorem getD_mem {L : List Nat} {i : Nat} (h : i < L.length) : L.getD i 0 ∈ L := by rw [getD_of h]; exact List.getElem_mem h
theorem row_par {k : Nat} {C : Tb} {l : List Nat} {y : Nat → Nat} (hy : ∀ j, j < k → j ∈ l → y j = 0) (r : Nat) :
    (xsum k fun j => F.mul (C r j) (y j)) = xsum (misJ k l).length fun b => F.mul (C r ((misJ k l).getD b 0)) (y ((misJ k l).getD b 0)) := by
  rw [← xsumL_range, xsumL_filter (p := fun j => !decide (j ∈ l)) (fun j hj hp => by
    rw [hy j (List.mem_range.1 hj) (by simpa using hp), F.mul_zero])]
  exact xsumL_len _ _
/-- Chosen rows have an inverse, if the minor that they leave has. -/
theorem mds_of {k m : Nat} {C : Tb} {l : List Nat} (hC : F.Bd C) (hl : l.length = k) (hn : l.Nodup) (h : (F.iv (parR k l).length (mnr C (parR k l) (misJ k l))).isSome = true) :
    ∃ g, F.iv k (fun i j => beh k C (l.getD i 0) j) = some g := by
  obtain ⟨g, hg⟩ := Option.isSome_iff_exists.1 h
  have hI := F.iv_some (F.mnr_bd hC _ _) hg
  have hlen := par_mis hl hn
  refine F.iv_ofR (fun i j => F.beh_bd hC _ _) fun y h1 h2 => ?_
  have hin : ∀ x ∈ l, (xsum k fun j => F.mul (beh k C x j) (y j)) = 0 := fun x hx => by
    obtain ⟨i, hi⟩ := List.getElem?_of_mem hx
    have hil := (List.getElem?_eq_some_iff.1 hi).1
    have := h2 i (by omega)
    rw [List.getD_eq_getElem?_getD, hi] at this
    exact this
  have hid : ∀ j, j < k → j ∈ l → y j = 0 := fun j hj hjl => by
    have := hin j hjl
    rw [xsum_congr (g := fun s => F.mul (I1 j s) (y s)) fun s _ => by unfold beh; rw [if_pos hj]] at this
    have e := F.mm_idl (n := k) (f := fun s _ => y s) (i := j) (j := 0) hj (h1 j)
    unfold mm at e
    rw [← e]; exact this
  have hz : ∀ b, b < (parR k l).length → y ((misJ k l).getD b 0) = 0 := by
    refine hI.right F (y := fun b => y ((misJ k l).getD b 0)) (fun b => h1 _) fun a ha => ?_
    have hr := getD_mem ha
    obtain ⟨x, hx, hxe⟩ := List.mem_map.1 hr
    simp only [List.mem_filter, decide_eq_true_iff] at hx
    have := hin x hx.1
    rw [xsum_congr (g := fun s => F.mul (C (x - k) s) (y s)) fun s _ => by unfold beh; rw [if_neg (by omega)], F.row_par hid, ← hlen] at this
    unfold mnr
    rw [← hxe]
    exact this
  intro j hj
  by_cases hjl : j ∈ l
  · exact hid j hj hjl
  · have hm : j ∈ misJ k l := List.mem_filter.2 ⟨List.mem_range.2 hj, by simpa using hjl⟩
    obtain ⟨b, hb⟩ := List.getElem?_of_mem hm
    have hbl := (List.getElem?_eq_some_iff.1 hb).1
    have := hz b (by omega)
    rw [List.getD_eq_getElem?_getD, hb] at this
    exact this
/-- And the other way. -/
theorem mds_to {k m : Nat} {C : Tb} {l : List Nat} (hC : F.Bd C) (hl : l.length = k) (hn : l.Nodup) (h : (F.iv k (fun i j => beh k C (l.getD i 0) j)).isSome = true) :
    ∃ g, F.iv (parR k l).length (mnr C (parR k l) (misJ k l)) = some g := by
  obtain ⟨g, hg⟩ := Option.isSome_iff_exists.1 h
  have hI := F.iv_some (fun i j => F.beh_bd hC _ _) hg
  have hlen := par_mis hl hn
  refine F.iv_ofR (F.mnr_bd hC _ _) fun z h1 h2 => ?_
  let y : Nat → Nat := fun j => if j ∈ misJ k l then z ((misJ k l).idxOf j) else 0
  have hyb : ∀ j, y j < 2 ^ F.w := fun j => by
    show (if _ then _ else _) < _
    split
    · exact h1 _
    · exact F.zero_lt
  have hid : ∀ j, j < k → j ∈ l → y j = 0 := fun j hj hjl => if_neg fun hm => by
    have := (List.mem_filter.1 hm).2
    simp [hjl] at this
  have hyz : ∀ b, b < (misJ k l).length → y ((misJ k l).getD b 0) = z b := fun b hb => by
    show (if _ then _ else _) = _
    rw [if_pos (getD_mem hb), getD_of hb, List.Nodup.idxOf_getElem (misJ_nodup k l) b hb]
  have hy0 := hI.right F hyb fun i hi => by
    have hx := getD_mem (L := l) (i := i) (by omega)
    generalize l.getD i 0 = x at hx
    by_cases hxk : x < k
    · rw [xsum_congr (g := fun s => F.mul (I1 x s) (y s)) fun s _ => by unfold beh; rw [if_pos hxk]]
      have e := F.mm_idl (n := k) (f := fun s _ => y s) (i := x) (j := 0) hxk (hyb x)
      unfold mm at e
      rw [e]; exact hid x hxk hx
    · rw [xsum_congr (g := fun s => F.mul (C (x - k) s) (y s)) fun s _ => by unfold beh; rw [if_neg hxk], F.row_par hid]
      have hxp : x - k ∈ parR k l := List.mem_map.2 ⟨x, List.mem_filter.2 ⟨hx, by simpa using hxk⟩, rfl⟩
      obtain ⟨a, ha⟩ := List.getElem?_of_mem hxp
      have hal := (List.getElem?_eq_some_iff.1 ha).1
      have := h2 a hal
      unfold mnr at this
      rw [List.getD_eq_getElem?_getD, ha, hlen] at this
      exact Eq.trans (xsum_congr fun b hb => by rw [hyz b hb]; rfl) this
  intro b hb
  rw [← hyz b (by omega)]
  exact hy0 _ (misJ_lt _ (getD_mem (by omega)))

/-! ### rows of powers, columns for rows -/
theorem pow_tr {r : Nat} {x z : Nat → Nat} (hx : ∀ b, x b < 2 ^ F.w) (hu : ∀ a b, a < r → b < r → x a = x b → a = b) (hz : ∀ b, z b < 2 ^ F.w) (h : ∀ e, e < r → (xsum r fun b => F.mul (F.pow (x b) e) (z b)) = 0) : ∀ b, b < r → z b = 0 := by
  obtain ⟨g, hg⟩ := F.vander hx hu
  have hI := F.iv_some (fun i j => F.pow_lt _ _) hg
  exact hI.left F hz fun e he => by rw [← h e he]; exact xsum_congr fun b _ => F.comm _ _
theorem sq_inj {a b : Nat} (ha : a < 2 ^ F.w) (hb : b < 2 ^ F.w) (h : F.mul a a = F.mul b b) : a = b := by
  have h1 := F.sq_xor a b
  rw [h, Nat.xor_self] at h1
  rcases F.nzd _ _ (Px.xor_lt ha hb) (Px.xor_lt ha hb) h1 with h2 | h2 <;> exact Px.xor_eq_zero h2
theorem pow_two (a : Nat) (h : a < 2 ^ F.w) : F.pow a 2 = F.mul a a := by rw [show 2 = 1 + 1 from rfl, F.pow_add, F.pow_one a h]
/-- Three rows at most of powers of unlike numbers, the first three: any of them, of as many columns. -/
theorem three {R J : List Nat} {x : Nat → Nat} (hx : ∀ j, x j < 2 ^ F.w) (hx0 : ∀ j ∈ J, x j ≠ 0) (hu : ∀ i ∈ J, ∀ j ∈ J, x i = x j → i = j) (hR : R.Nodup) (hR3 : ∀ e ∈ R, e < 3) (hJ : J.Nodup) (hl : R.length = J.length) :
    ∃ g, F.iv R.length (mnr (fun i j => F.pow (x j) i) R J) = some g := by
  refine F.iv_ofR (fun a b => F.pow_lt _ _) fun z hz h => ?_
  have hrow : ∀ e ∈ R, (xsum R.length fun b => F.mul (F.pow (x (J.getD b 0)) e) (z b)) = 0 := fun e he => by
    obtain ⟨a, ha⟩ := List.getElem?_of_mem he
    have := h a (List.getElem?_eq_some_iff.1 ha).1
    unfold mnr at this
    rw [List.getD_eq_getElem?_getD, ha] at this
    exact this
  have hJu : ∀ a b, a < R.length → b < R.length → x (J.getD a 0) = x (J.getD b 0) → a = b := fun a b ha hb e => by
    have h1 := hu _ (getD_mem (L := J) (by omega)) _ (getD_mem (L := J) (by omega)) e
    rw [getD_of (show a < J.length by omega), getD_of (show b < J.length by omega)] at h1
    refine Classical.byContradiction fun hne => ?_
    rcases Nat.lt_or_gt_of_ne hne with h' | h'
    · exact List.pairwise_iff_getElem.1 hJ a b _ _ h' h1
    · exact List.pairwise_iff_getElem.1 hJ b a _ _ h' h1.symm
  have hJ0 : ∀ b, b < R.length → x (J.getD b 0) ≠ 0 := fun b hb => hx0 _ (getD_mem (by omega))
  generalize hX : (fun b => x (J.getD b 0)) = X
  have hXe : ∀ b, x (J.getD b 0) = X b := fun b => by rw [← hX]
  have hXb : ∀ b, X b < 2 ^ F.w := fun b => by rw [← hXe]; exact hx _
  simp only [hXe] at hrow hJu hJ0
  clear hX hXe hl h
  -- all rows from 0 on
  have full : (∀ e, e < R.length → e ∈ R) → ∀ b, b < R.length → z b = 0 := fun hf => F.pow_tr hXb hJu hz fun e he => hrow e (hf e he)
  match R, hR, hR3, hrow, hJu, hJ0, full with
  | [], _, _, _, _, _, _ => intro b hb; simp at hb
  | [e], _, _, hrow, _, hJ0, _ =>
    intro b hb
    have hb0 : b = 0 := by simpa using hb
    subst hb0
    have h1 := hrow e (by simp)
    simp only [List.length_singleton, xsum, Nat.zero_xor] at h1
    rcases F.nzd _ _ (F.pow_lt _ _) (hz 0) h1 with h2 | h2
    · exact absurd h2 (F.pow_ne (hXb 0) (hJ0 0 (by simp)) e)
    · exact h2
  | [e, f], hR, hR3, hrow, hJu, hJ0, full =>
    have hef : e ≠ f := by simpa using hR
    have he := hR3 e (by simp)
    have hf := hR3 f (by simp)
    have cases3 : (0 ∈ [e, f] ∧ 1 ∈ [e, f]) ∨ (0 ∈ [e, f] ∧ 2 ∈ [e, f]) ∨ (1 ∈ [e, f] ∧ 2 ∈ [e, f]) := by
      simp only [List.mem_cons, List.mem_nil_iff, or_false]; omega
    rcases cases3 with ⟨h0, h1⟩ | ⟨h0, h1⟩ | ⟨h0, h1⟩
    · exact full fun s hs => by
        have : s = 0 ∨ s = 1 := by simp at hs; omega
        rcases this with rfl | rfl
        · exact h0
        · exact h1
    · refine F.pow_tr (x := fun b => F.mul (X b) (X b)) (fun b => F.lt _ _) (fun a b ha hb h => hJu a b ha hb (F.sq_inj (hXb a) (hXb b) h)) hz fun s hs => ?_
      have : s = 0 ∨ s = 1 := by simp at hs; omega
      rcases this with rfl | rfl
      · exact hrow 0 h0
      · exact Eq.trans (xsum_congr fun b _ => by rw [F.pow_one _ (F.lt _ _), F.pow_two _ (hXb b)]) (hrow 2 h1)
    · have := F.pow_tr (x := X) (z := fun b => F.mul (X b) (z b)) hXb hJu (fun b => F.lt _ _) fun s hs => by
        have : s = 0 ∨ s = 1 := by simp at hs; omega
        rcases this with rfl | rfl
        · exact Eq.trans (xsum_congr fun b _ => by rw [F.pow_one _ (hXb b)]; exact F.one _ (F.lt _ _)) (hrow 1 h0)
        · exact Eq.trans (xsum_congr fun b _ => by rw [F.pow_one _ (hXb b), F.pow_two _ (hXb b), F.assoc]) (hrow 2 h1)
      intro b hb
      rcases F.nzd _ _ (hXb b) (hz b) (this b hb) with h2 | h2
      · exact absurd h2 (hJ0 b hb)
      · exact h2
  | [e, f, g], hR, hR3, _, _, _, full =>
    have he := hR3 e (by simp)
    have hf := hR3 f (by simp)
    have hg := hR3 g (by simp)
    simp at hR
    exact full fun s hs => by
      have : s = 0 ∨ s = 1 ∨ s = 2 := by simp at hs; omega
      simp only [List.mem_cons, List.mem_nil_iff, or_false]
      omega
  | e :: f :: g :: i :: r, hR, hR3, _, _, _, _ =>
    have he := hR3 e (by simp)
    have hf := hR3 f (by simp)
    have hg := hR3 g (by simp)
    have hi := hR3 i (by simp)
    simp at hR
    omega
end Fld
end Go.Gam

/- What the statements of layer 6 ask of matrices of powers. No program in sight. -/
set_option linter.unusedVariables false
set_option linter.unusedSimpArgs false
namespace Go.Gam
open Px

def casts (l : List Nat) : List Int := l.map fun (x : Nat) => (x : Int)
theorem casts_length (l : List Nat) : (casts l).length = l.length := by simp [casts]
section
variable {wb p : Nat} (hp : Prm wb p)
theorem tab_lens {n m : Nat} {f : Tb} (hn : n ≤ 20) (hm : m ≤ 20) : (tab n m f).length ≤ 20 ∧ ∀ r ∈ tab n m f, r.length ≤ 20 :=
  ⟨by rw [tab_length]; exact hn, fun r hr => by obtain ⟨i, _, rfl⟩ := List.mem_map.1 hr; simpa using hm⟩
theorem inv0 {k : Nat} {f : Tb} (hb : hp.fld.Bd f) (h1 : 1 ≤ k) (h2 : k ≤ 20) (h : ∃ g, hp.fld.iv k f = some g) : (invR hp (tab k k f)).1 = 0 := by
  have hm := mx_tab hp (n := k) (m := k) hb
  have hl : (tab k k f).length = k := tab_length _ _ _
  obtain ⟨g, hg⟩ := h
  have hc := hp.fld.iv_congr (n := k) (hm.bd hp) hb fun i j hi hj => (en_tab hi hj : en (tab k k f) i j = f i j)
  rw [hg] at hc
  obtain ⟨g', hg'⟩ := Option.isSome_iff_exists.1 hc
  rw [invR_some hp (hm.sq h1 h2) (g := g') (by rw [hl]; exact hg')]
theorem pick_tab {n k : Nat} {f : Tb} {l : List Nat} (hb : hp.fld.Bd f) (hn : 1 ≤ n ∧ n ≤ 20) (hk : 1 ≤ k ∧ k ≤ 20) (hl : 1 ≤ l.length ∧ l.length ≤ 20) (h : ∀ x ∈ l, x < n) :
    pickM (some (wb, p)) (tab n k f) (casts l) = some (tab l.length k fun i j => f (l.getD i 0) j) := by
  have hm := mx_tab hp (n := n) (m := k) hb
  rw [pickM_t (hm.may hn.1 hn.2 hk.1 hk.2) (by rw [casts_length]; exact hl) (List.all_eq_true.2 fun z hz => by
    obtain ⟨x, hx, rfl⟩ := List.mem_map.1 hz
    have := h x hx
    rw [tab_length]
    exact decide_eq_true ⟨by omega, by omega⟩)]
  congr 1
  unfold casts
  rw [List.map_map]
  apply List.ext_getElem?
  intro i
  by_cases hi : i < l.length
  · rw [List.getElem?_map, List.getElem?_eq_getElem hi, tab_at hi]
    show some (rowM _ _) = _
    congr 1
    have hx := h l[i] (List.getElem_mem hi)
    rw [show ((fun (x : Nat) => (x : Int)) l[i]) = ((l[i] : Nat) : Int) from rfl, rowM_of (tab_at hx), getD_of hi]
  · rw [List.getElem?_eq_none (by simp; omega), List.getElem?_eq_none (by rw [tab_length]; omega)]
theorem join_tab {n m k : Nat} {f g : Tb} (hf : hp.fld.Bd f) (hg : hp.fld.Bd g) (hn : 1 ≤ n) (hm : 1 ≤ m) (hnm : n + m ≤ 20) (hk : 1 ≤ k ∧ k ≤ 20) :
    joinM (some (wb, p)) (tab n k f) (tab m k g) = some (tab (n + m) k fun i j => if i < n then f i j else g (i - n) j) := by
  rw [joinM_t ((mx_tab hp hf).may hn (by omega) hk.1 hk.2) ((mx_tab hp hg).may hm (by omega) hk.1 hk.2) (by rw [wid_tab (by omega), wid_tab (by omega)]) (by rw [tab_length, tab_length]; omega)]
  congr 1
  unfold tab
  rw [List.range_add, List.map_append, List.map_map]
  congr 1
  · exact List.map_congr_left fun i hi => by simp only [List.mem_range.1 hi, if_true]
  · refine List.map_congr_left fun i _ => ?_
    show _ = List.map _ _
    refine List.map_congr_left fun j _ => ?_
    show _ = ((if n + i < n then f (n + i) j else g (n + i - n) j : Nat) : Int)
    rw [if_neg (by omega), Nat.add_sub_cancel_left]
/-! ### with the identity ahead -/
theorem sysM_is {k m : Nat} (h1 : 1 ≤ k) (h2 : 1 ≤ m) (h3 : k + m ≤ 20) : sysM hp (k : Int) (m : Int) = some (tab (k + m) k (sysT hp k)) := by
  unfold sysM fitB
  rw [if_pos (by rw [decide_eq_true (by omega)]; rfl)]
  rfl
theorem isalM_is {o : Fq} (ho : o.isSome = true) {k m : Nat} (h1 : 1 ≤ k) (h2 : 1 ≤ m) (h3 : k + m ≤ 20) : isalM o (k : Int) (m : Int) = some (tab m k (isT o)) := by
  unfold isalM fitB
  rw [if_pos (by rw [ho, decide_eq_true (by omega)]; rfl)]
  rfl
theorem sysT_bd (k : Nat) : hp.fld.Bd (sysT hp k) := hp.fld.mm_bd _ _ _
theorem pts_inv {k : Nat} {l : List Nat} (hl : l.length = k) (hn : l.Nodup) (h : ∀ x ∈ l, x < 256) : ∃ g, hp.fld.iv k (fun i j => hp.fld.pow (l.getD i 0) j) = some g := by
  have h16 := hp.size.1
  refine hp.fld.vander (x := fun i => l.getD i 0) (fun i => ?_) fun i j hi hj e => ?_
  · rw [hp.fld_w, List.getD_eq_getElem?_getD]
    cases hi : l[i]? with
    | none => simp; omega
    | some x => have := h x (List.mem_of_getElem? hi); simp; omega
  · rw [getD_of (show i < l.length by omega), getD_of (show j < l.length by omega)] at e
    refine Classical.byContradiction fun hne => ?_
    rcases Nat.lt_or_gt_of_ne hne with h' | h'
    · exact List.pairwise_iff_getElem.1 hn i j _ _ h' e
    · exact List.pairwise_iff_getElem.1 hn j i _ _ h' e.symm
theorem van_iv {k : Nat} {l : List Nat} (hk : k ≤ 20) (hl : l.length = k) (hn : l.Nodup) (h : ∀ x ∈ l, x < 256) : ∃ g, hp.fld.iv k (fun i j => sysT hp k (l.getD i 0) j) = some g := by
  obtain ⟨g, hg⟩ := pts_inv hp hl hn h
  have h1 := hp.fld.iv_some (fun i j => hp.fld.pow_lt _ _) hg
  have h2 := (vinv_ok hp (k := k) (by omega)).2.symm
  exact hp.fld.iv_of_Iv (h1.mul hp.fld h2)
/-! ### ISA-L's -/
include hp in
theorem isT_zero_r (i : Nat) : isT (some (wb, p)) i 0 = 1 := by rw [isT_pow hp]; rfl
include hp in
theorem isT_zero_l (j : Nat) : isT (some (wb, p)) 0 j = 1 := by rw [isT_pow hp]; exact hp.fld.one_pow j
include hp in
theorem isT_bd : hp.fld.Bd (isT (some (wb, p))) := fun i j => by rw [isT_pow hp]; exact hp.fld.pow_lt _ _
theorem two_inj {i j : Nat} (hi : i < 255) (hj : j < 255) (h : hp.fld.pow 2 i = hp.fld.pow 2 j) : i = j := by
  have ho := hp.order
  rw [← hp.pw_pow, ← hp.pw_pow] at h
  exact hp.pw_inj (by omega) (by omega) h
theorem join_id {k m : Nat} {f : Tb} (hf : hp.fld.Bd f) (h1 : 1 ≤ k) (h2 : 1 ≤ m) (h3 : k + m ≤ 20) : joinM (some (wb, p)) (idM k) (tab m k f) = some (tab (k + m) k (beh k f)) := by
  rw [idM_tab]; exact join_tab hp hp.fld.I1_bd hf h1 h2 h3 ⟨h1, by omega⟩
end
theorem aw6_isal : isalM (some (8, 285)) 2 2 = some [[1, 1], [1, 2]] := by
  rw [show isalM (some (8, 285)) 2 2 = some (tab 2 2 (isT (some (8, 285)))) from isalM_is rfl (k := 2) (m := 2) (by decide) (by decide) (by decide)]
  show some [[((isT (some (8, 285)) 0 0 : Nat) : Int), ((isT (some (8, 285)) 0 1 : Nat) : Int)], [((isT (some (8, 285)) 1 0 : Nat) : Int), ((isT (some (8, 285)) 1 1 : Nat) : Int)]] = _
  rw [isT_zero_r prm_285, isT_zero_l prm_285, isT_zero_r prm_285, isT_pow prm_285, prm_285.fld.pow_one _ (prm_285.fld.pow_lt _ _), prm_285.fld.pow_one 2 (by rw [prm_285.fld_w]; decide)]
  rfl
theorem aw6_len (a b c d : Int) : ([[a, b], [c, d]] : Mtx).length ≤ 1000 ∧ ∀ r ∈ ([[a, b], [c, d]] : Mtx), r.length ≤ 1000 := by
  refine ⟨by simp, fun r hr => ?_⟩
  simp only [List.mem_cons, List.mem_nil_iff, or_false] at hr
  rcases hr with rfl | rfl <;> simp
end Go.Gam

/- Jerasure's rows of powers, their columns reduced, what is left behind the identity. No program in sight. -/
set_option linter.unusedVariables false
set_option linter.unusedSimpArgs false
set_option linter.unusedSectionVars false
namespace Go.Gam
open Px

/-- Columns. -/
def colS (i q x : Nat) (f : Tb) : Tb := fun r j => if r < x then f r (Fld.sw i q j) else f r j
namespace Fld
variable (F : Fld)
def scC (fr j c x : Nat) (f : Tb) : Tb := fun r l => if fr ≤ r ∧ r < x ∧ l = j then F.mul (f r l) c else f r l
def clC (i j x : Nat) (f : Tb) : Tb := fun r l => if l ≠ i ∧ (l < j ∨ l = j ∧ r < x) then f r l ^^^ F.mul (f r i) (f i l) else f r l
theorem colS_bd {i q x : Nat} {f : Tb} (h : F.Bd f) : F.Bd (colS i q x f) := fun r j => by unfold colS; split <;> exact h _ _
theorem scC_bd {fr j c x : Nat} {f : Tb} (h : F.Bd f) : F.Bd (F.scC fr j c x f) := fun r l => by unfold scC; split; exact F.lt _ _; exact h _ _
theorem clC_bd {i j x : Nat} {f : Tb} (h : F.Bd f) : F.Bd (F.clC i j x f) := fun r l => by unfold clC; split; exact Px.xor_lt (h _ _) (F.lt _ _); exact h _ _
/-- One step's table. -/
def stC (n k i : Nat) (f : Tb) : Tb := tr (F.stp (tr f) k i i).1
theorem stC_is {n k i q : Nat} {f : Tb} (hq : piv (tr f) k i i (k - i) = some q) (hi : i < n) : ∀ r, r < n → ∀ l, l < k → F.clC i k 0 (F.scC 0 i (F.inv (f i q)) n (colS i q n f)) r l = F.stC n k i f r l := by
  intro r hr l hl
  unfold stC stp
  rw [hq]
  show _ = F.op i q (F.inv (f i q)) (fun a => f i (sw i q a)) (tr f) l r
  have e1 : ∀ a j, a < n → colS i q n f a j = f a (sw i q j) := fun a j ha => if_pos ha
  have e2 : ∀ a j, a < n → F.scC 0 i (F.inv (f i q)) n (colS i q n f) a j = if j = i then F.mul (f a (sw i q j)) (F.inv (f i q)) else f a (sw i q j) := fun a j ha => by
    unfold scC; rw [e1 a j ha]
    by_cases h : j = i
    · rw [if_pos ⟨Nat.zero_le _, ha, h⟩, if_pos h]
    · rw [if_neg (fun c => h c.2.2), if_neg h]
  have e3 : sw i q i = q := if_pos rfl
  unfold clC Fld.op tr
  rw [e2 r l hr, e2 r i hr, e2 i l hi, e3, if_pos rfl]
  by_cases h : l = i
  · rw [if_neg (fun c => c.1 h), if_pos h, if_pos h, h, e3]
  · rw [if_pos ⟨h, .inl hl⟩, if_neg h, if_neg h, if_neg h, F.comm (F.mul (f r q) _)]
/-- Full rank at the end: full rank all the way. -/
theorem red_all {n k : Nat} {f : Tb} (hf : F.Bd f) (h : (F.red n f k).2 = k) : ∀ d c, c + d = k → (F.red n f c).2 = c
  | 0, c, e => by obtain rfl : c = k := e; exact h
  | d + 1, c, e => by
    have ih := red_all hf h d (c + 1) (by omega)
    have h1 := (F.red_ok (n := n) hf c).tc
    have h2 : (F.red n f (c + 1)).2 = (F.stp (F.red n f c).1 n c (F.red n f c).2).2 := rfl
    rw [ih] at h2
    unfold stp at h2
    split at h2
    · dsimp only at h2; omega
    · dsimp only at h2; omega
/-- Rows and columns times numbers that aren't 0. -/
theorem iv_scaled {n : Nat} {f g : Tb} {a b : Nat → Nat} (hf : F.Bd f) (hg : F.Bd g) (ha : ∀ j, a j < 2 ^ F.w) (hb : ∀ i, b i < 2 ^ F.w) (ha0 : ∀ j, j < n → a j ≠ 0) (hb0 : ∀ i, i < n → b i ≠ 0)
    (h : ∀ i j, i < n → j < n → g i j = F.mul (F.mul (f i j) (a j)) (b i)) (hi : (F.iv n f).isSome = true) : ∃ x, F.iv n g = some x := by
  obtain ⟨x, hx⟩ := Option.isSome_iff_exists.1 hi
  have hI := F.iv_some hf hx
  refine F.iv_of hg fun y h1 h2 i hin => ?_
  have h3 := hI.left F (y := fun l => F.mul (y l) (b l)) (fun l => F.lt _ _) (fun j hj => by
    have e := h2 j hj
    rw [xsum_congr (g := fun l => F.mul (F.mul (F.mul (y l) (b l)) (f l j)) (a j)) fun l hl => by
      rw [h l j hl hj, F.comm (F.mul (f l j) (a j)), F.assoc (F.mul (y l) (b l)), F.assoc (y l)], ← xsum_mul] at e
    rcases F.nzd _ _ (xsum_lt fun l _ => F.lt _ _) (ha j) e with e | e
    · exact e
    · exact absurd e (ha0 j hj)) i hin
  rcases F.nzd _ _ (h1 i) (hb i) h3 with e | e
  · exact e
  · exact absurd e (hb0 i hin)
end Fld

def extT (o : Fq) (k m : Nat) : Tb := fun i j => if i = k + m - 1 then (if j = k - 1 then 1 else 0) else pwT o i j
def extM (o : Fq) (k m : Int) : Option Mtx := if fitB o k m = true then some (tab (k + m).toNat k.toNat (extT o k.toNat m.toNat)) else none
section
variable {wb p : Nat} (hp : Prm wb p)
include hp in
theorem pwT_bd : hp.fld.Bd (pwT (some (wb, p))) := fun i j => by
  have := gpow_nn hp (i : Int) (j : Int)
  unfold pwT
  rw [hp.fld_w]; omega
include hp in
theorem extT_bd (k m : Nat) : hp.fld.Bd (extT (some (wb, p)) k m) := fun i j => by
  have := hp.fld.one_lt; have := hp.fld.zero_lt
  unfold extT
  split
  · split <;> omega
  · exact pwT_bd hp i j
/-- Any k of the rows have an inverse. -/
theorem ext_iv {k m : Nat} {l : List Nat} (hk : 1 ≤ k) (h20 : k + m ≤ 20) (hl : l.length = k) (hn : l.Nodup) (h : ∀ x ∈ l, x < k + m) : ∃ g, hp.fld.iv k (fun i j => extT (some (wb, p)) k m (l.getD i 0) j) = some g := by
  have hbd : hp.fld.Bd (fun i j => extT (some (wb, p)) k m (l.getD i 0) j) := fun i j => extT_bd hp k m _ _
  have hot : ∀ x, x < k + m → x ≠ k + m - 1 → ∀ j, extT (some (wb, p)) k m x j = hp.fld.pow x j := fun x hx hne j => by
    unfold extT; rw [if_neg hne]; exact pwT_pow hp (by omega)
  by_cases hlast : k + m - 1 ∈ l
  · refine hp.fld.iv_ofR hbd fun y h1 h2 => ?_
    have hrow : ∀ x ∈ l, (xsum k fun s => hp.fld.mul (extT (some (wb, p)) k m x s) (y s)) = 0 := fun x hx => by
      obtain ⟨i, hi⟩ := List.getElem?_of_mem hx
      have hil := (List.getElem?_eq_some_iff.1 hi).1
      have := h2 i (by omega)
      rw [List.getD_eq_getElem?_getD, hi] at this
      exact this
    have hy : y (k - 1) = 0 := by
      have e := hrow _ hlast
      rw [xsum_single (i := k - 1) (by omega) (fun j _ hj => by unfold extT; rw [if_pos rfl, if_neg hj, hp.fld.zero_mul])] at e
      unfold extT at e
      rw [if_pos rfl, if_pos rfl, hp.fld.one _ (h1 _)] at e
      exact e
    obtain ⟨g, hg⟩ := pts_inv hp (k := k - 1) (l := l.erase (k + m - 1)) (by rw [List.length_erase_of_mem hlast, hl]) (hn.erase _) (fun x hx => by have := h x (List.mem_of_mem_erase hx); omega)
    have hI := hp.fld.iv_some (fun i j => hp.fld.pow_lt _ _) hg
    have hz := hI.right hp.fld h1 (fun j hj => by
      have hjl : j < (l.erase (k + m - 1)).length := by rw [List.length_erase_of_mem hlast, hl]; exact hj
      have hx := Fld.getD_mem hjl
      generalize (l.erase (k + m - 1)).getD j 0 = x at hx
      have hxl := List.mem_of_mem_erase hx
      have hne : x ≠ k + m - 1 := ((hn.mem_erase_iff).1 hx).1
      have e := hrow x hxl
      obtain ⟨k', rfl⟩ : ∃ k', k = k' + 1 := ⟨k - 1, by omega⟩
      rw [xsum_congr (g := fun s => hp.fld.mul (hp.fld.pow x s) (y s)) fun s _ => by rw [hot x (h x hxl) hne]] at e
      have e2 : xsum (k' + 1) (fun s => hp.fld.mul (hp.fld.pow x s) (y s)) = xsum k' (fun s => hp.fld.mul (hp.fld.pow x s) (y s)) ^^^ hp.fld.mul (hp.fld.pow x k') (y k') := rfl
      rw [e2, show y k' = 0 from hy, hp.fld.mul_zero, Nat.xor_zero] at e
      exact e)
    intro i hi
    by_cases e : i = k - 1
    · rw [e]; exact hy
    · exact hz i (by omega)
  · obtain ⟨g, hg⟩ := pts_inv hp hl hn (fun x hx => by have := h x hx; omega)
    have := hp.fld.iv_congr (f := fun i j => hp.fld.pow (l.getD i 0) j) (g := fun i j => extT (some (wb, p)) k m (l.getD i 0) j) (n := k) (fun i j => hp.fld.pow_lt _ _) hbd (fun i j hi _ => by
      have hx := Fld.getD_mem (L := l) (i := i) (by omega)
      exact (hot _ (h _ hx) (fun e => hlast (e ▸ hx)) j).symm)
    rw [hg] at this
    exact Option.isSome_iff_exists.1 this.symm
theorem ext_top {k m : Nat} (hk : 1 ≤ k) (hm : 1 ≤ m) (h20 : k + m ≤ 20) : ∃ g, hp.fld.iv k (extT (some (wb, p)) k m) = some g := by
  obtain ⟨g, hg⟩ := ext_iv hp (l := List.range k) hk h20 (by simp) List.nodup_range (fun x hx => by have := List.mem_range.1 hx; omega)
  have := hp.fld.iv_congr (f := fun i j => extT (some (wb, p)) k m ((List.range k).getD i 0) j) (g := extT (some (wb, p)) k m) (n := k) (fun i j => extT_bd hp k m _ _) (extT_bd hp k m) (fun i j hi _ => by
    rw [getD_of (show i < (List.range k).length by simpa using hi), List.getElem_range])
  rw [hg] at this
  exact Option.isSome_iff_exists.1 this.symm
/-- The table once i columns are reduced. -/
def redC (k m i : Nat) : Tb := Fld.tr (hp.fld.red k (Fld.tr (extT (some (wb, p)) k m)) i).1
theorem tr_bd {f : Tb} (h : hp.fld.Bd f) : hp.fld.Bd (Fld.tr f) := fun i j => h j i
theorem redC_bd (k m i : Nat) : hp.fld.Bd (redC hp k m i) := tr_bd hp (hp.fld.red_ok (tr_bd hp (extT_bd hp k m)) i).bd
theorem redC_full {k m : Nat} (hk : 1 ≤ k) (hm : 1 ≤ m) (h20 : k + m ≤ 20) : ∀ c, c ≤ k → (hp.fld.red k (Fld.tr (extT (some (wb, p)) k m)) c).2 = c := fun c hc => by
  obtain ⟨g, hg⟩ := ext_top hp hk hm h20
  have h1 := (hp.fld.iv_some (extT_bd hp k m) hg).tr hp.fld
  obtain ⟨g', hg'⟩ := hp.fld.iv_of_Iv h1
  have h2 := hp.fld.rk_iv (n := k) (f := Fld.tr (extT (some (wb, p)) k m)) (by rw [hg']; rfl)
  exact hp.fld.red_all (tr_bd hp (extT_bd hp k m)) h2 (k - c) c (by omega)
/-- There is a column to begin with. -/
theorem redC_piv {k m i : Nat} (hk : 1 ≤ k) (hm : 1 ≤ m) (h20 : k + m ≤ 20) (hi : i < k) : ∃ q, Fld.piv (Fld.tr (redC hp k m i)) k i i (k - i) = some q ∧ redC hp k m (i + 1) = hp.fld.stC (k + m) k i (redC hp k m i) := by
  have h1 := redC_full hp hk hm h20 i (by omega)
  have h2 := redC_full hp hk hm h20 (i + 1) hi
  have e : hp.fld.red k (Fld.tr (extT (some (wb, p)) k m)) (i + 1) = hp.fld.stp (hp.fld.red k (Fld.tr (extT (some (wb, p)) k m)) i).1 k i i := by
    show hp.fld.stp _ k i _ = _
    rw [h1]
  rw [e] at h2
  unfold redC Fld.stC
  rw [e]
  unfold Fld.stp at h2
  show ∃ q, Fld.piv (hp.fld.red k (Fld.tr (extT (some (wb, p)) k m)) i).1 k i i (k - i) = some q ∧ _
  cases hq : Fld.piv (hp.fld.red k (Fld.tr (extT (some (wb, p)) k m)) i).1 k i i (k - i) with
  | none => rw [hq] at h2; dsimp only at h2; omega
  | some q => exact ⟨q, rfl, rfl⟩
/-- What is behind the identity. -/
def jG (k m : Nat) : Tb := fun r j => redC hp k m k (k + r) j
theorem jG_bd (k m : Nat) : hp.fld.Bd (jG hp k m) := fun r j => redC_bd hp k m k _ _
theorem jG_ex {k m : Nat} (hk : 1 ≤ k) (hm : 1 ≤ m) (h20 : k + m ≤ 20) : ∃ C C', hp.fld.Iv k C C' ∧ ∀ i j, j < k → beh k (jG hp k m) i j = hp.fld.mm k (extT (some (wb, p)) k m) C i j := by
  have hr := hp.fld.red_ok (n := k) (tr_bd hp (extT_bd hp k m)) k
  have ht := redC_full hp hk hm h20 k (Nat.le_refl _)
  obtain ⟨E, E', hE, he⟩ := hr.ex
  obtain ⟨q, hq, hqe⟩ := hr.pv
  refine ⟨Fld.tr E, Fld.tr E', hE.tr hp.fld, fun i j hj => ?_⟩
  have hx : redC hp k m k i j = hp.fld.mm k (extT (some (wb, p)) k m) (Fld.tr E) i j := 
    (he j i hj).trans (hp.fld.mm_tr k (Fld.tr (extT (some (wb, p)) k m)) E i j).symm
  rw [← hx]
  unfold beh
  split
  · rename_i hi
    have := (hq i (by rw [ht]; exact hi)).2 j hj
    rw [hqe ht i (by rw [ht]; exact hi)] at this
    show _ = (hp.fld.red k (Fld.tr (extT (some (wb, p)) k m)) k).1 j i
    rw [this]
    unfold I1
    by_cases e : i = j
    · rw [if_pos e, if_pos e.symm]
    · rw [if_neg e, if_neg (Ne.symm e)]
  · show redC hp k m k (k + (i - k)) j = _
    rw [show k + (i - k) = i by omega]
theorem jG_any {k m : Nat} {l : List Nat} (hk : 1 ≤ k) (hm : 1 ≤ m) (h20 : k + m ≤ 20) (hl : l.length = k) (hn : l.Nodup) (h : ∀ x ∈ l, x < k + m) : ∃ g, hp.fld.iv k (fun i j => beh k (jG hp k m) (l.getD i 0) j) = some g := by
  obtain ⟨C, C', hC, he⟩ := jG_ex hp hk hm h20
  obtain ⟨g, hg⟩ := ext_iv hp hk h20 hl hn h
  have h1 := (hp.fld.iv_some (fun i j => extT_bd hp k m _ _) hg).mul hp.fld hC
  exact hp.fld.iv_of_Iv (h1.congr hp.fld (fun i j => hp.fld.beh_bd (jG_bd hp k m) _ _) fun i j _ hj => he _ j hj)
theorem jG_ne {k m r j : Nat} (hk : 1 ≤ k) (hm : 1 ≤ m) (h20 : k + m ≤ 20) (hr : r < m) (hj : j < k) : jG hp k m r j ≠ 0 := fun h0 => by
  obtain ⟨g, hg⟩ := jG_any hp (l := (List.range k).set j (k + r)) hk hm h20 (by simp) (by
    refine List.pairwise_iff_getElem.2 fun a b ha hb hab => ?_
    simp only [List.length_set, List.length_range] at ha hb
    rw [List.getElem_set, List.getElem_set]
    simp only [List.getElem_range]
    split <;> split <;> omega) (fun x hx => by
      rcases List.mem_or_eq_of_mem_set hx with h | h
      · have := List.mem_range.1 h; omega
      · omega)
  have hI := hp.fld.iv_some (fun i j => hp.fld.beh_bd (jG_bd hp k m) _ _) hg
  have := hI.right hp.fld (y := fun s => if s = j then 1 else 0) (fun s => by have := hp.fld.one_lt; have := hp.fld.zero_lt; show (if s = j then 1 else 0) < _; split <;> omega) (fun i hi => by
    rw [xsum_single (i := j) hj (fun s _ hs => by rw [if_neg hs, hp.fld.mul_zero])]
    by_cases e : i = j
    · rw [e, getD_of (show j < ((List.range k).set j (k + r)).length by simpa using hj), List.getElem_set_self]
      unfold beh; rw [if_neg (by omega), show k + r - k = r by omega, h0, hp.fld.zero_mul]
    · rw [getD_of (show i < ((List.range k).set j (k + r)).length by simpa using hi), List.getElem_set_ne (Ne.symm e), List.getElem_range]
      unfold beh I1; rw [if_pos hi, if_neg e, hp.fld.zero_mul]) j hj
  simp at this
/-- The parity rows. -/
def jA (k m : Nat) : Nat → Nat := fun j => hp.fld.inv (jG hp k m 0 j)
def jC (k m : Nat) : Tb := fun r j => hp.fld.mul (jG hp k m r j) (jA hp k m j)
def jB (k m : Nat) : Nat → Nat := fun r => if r = 0 then 1 else hp.fld.inv (jC hp k m r 0)
def parT (k m : Nat) : Tb := fun r j => hp.fld.mul (jC hp k m r j) (jB hp k m r)
def parM (k m : Int) : Option Mtx := if fitB (some (wb, p)) k m = true then some (tab m.toNat k.toNat (parT hp k.toNat m.toNat)) else none
theorem jA_lt (k m j : Nat) : jA hp k m j < 2 ^ hp.fld.w := hp.fld.inv_lt _
theorem jC_bd (k m : Nat) : hp.fld.Bd (jC hp k m) := fun r j => hp.fld.lt _ _
theorem jB_lt (k m r : Nat) : jB hp k m r < 2 ^ hp.fld.w := by unfold jB; split; exact hp.fld.one_lt; exact hp.fld.inv_lt _
theorem parT_bd (k m : Nat) : hp.fld.Bd (parT hp k m) := fun r j => hp.fld.lt _ _
theorem parT_zero {k m j : Nat} : parT hp k m 0 j = jC hp k m 0 j := by unfold parT jB; rw [if_pos rfl, hp.fld.mul_one _ (jC_bd hp k m _ _)]
theorem parT_pos {k m r j : Nat} (h : r ≠ 0) : parT hp k m r j = hp.fld.mul (jC hp k m r j) (hp.fld.inv (jC hp k m r 0)) := by unfold parT jB; rw [if_neg h]
variable {k m : Nat} (hk : 1 ≤ k) (hm : 1 ≤ m) (h20 : k + m ≤ 20)
include hk hm h20
theorem jA_ne {j : Nat} (hj : j < k) : jA hp k m j ≠ 0 := hp.fld.inv_ne (jG_bd hp k m _ _) (jG_ne hp hk hm h20 (by omega) hj)
theorem jC_ne {r j : Nat} (hr : r < m) (hj : j < k) : jC hp k m r j ≠ 0 := fun h => by
  rcases hp.fld.nzd _ _ (jG_bd hp k m _ _) (jA_lt hp k m j) h with e | e
  · exact jG_ne hp hk hm h20 hr hj e
  · exact jA_ne hp hk hm h20 hj e
theorem jB_ne {r : Nat} (hr : r < m) : jB hp k m r ≠ 0 := by
  unfold jB; split
  · decide
  · exact hp.fld.inv_ne (jC_bd hp k m _ _) (jC_ne hp hk hm h20 hr (by omega))
theorem par_any {l : List Nat} (hl : l.length = k) (hn : l.Nodup) (h : ∀ x ∈ l, x < k + m) : ∃ g, hp.fld.iv k (fun i j => beh k (parT hp k m) (l.getD i 0) j) = some g := by
  obtain ⟨g, hg⟩ := jG_any hp hk hm h20 hl hn h
  obtain ⟨x, hx⟩ := hp.fld.mds_to (m := m) (jG_bd hp k m) hl hn (by rw [hg]; rfl)
  refine hp.fld.mds_of (m := m) (parT_bd hp k m) hl hn ?_
  have hR := parR_lt h
  have hlen := par_mis hl hn
  obtain ⟨y, hy⟩ := hp.fld.iv_scaled (n := (parR k l).length) (f := mnr (jG hp k m) (parR k l) (misJ k l)) (g := mnr (parT hp k m) (parR k l) (misJ k l)) (a := fun j => jA hp k m ((misJ k l).getD j 0)) (b := fun i => jB hp k m ((parR k l).getD i 0)) (hp.fld.mnr_bd (jG_bd hp k m) _ _) (hp.fld.mnr_bd (parT_bd hp k m) _ _) (fun j => jA_lt hp k m _) (fun i => jB_lt hp k m _)
    (fun j hj => jA_ne hp hk hm h20 (misJ_lt _ (Fld.getD_mem (by omega)))) (fun i hi => jB_ne hp hk hm h20 (hR _ (Fld.getD_mem hi))) (fun i j _ _ => rfl) (by rw [hx]; rfl)
  rw [hy]; rfl
end
end Go.Gam

/- Records of two fields of one cell each; rows that are a walk's own, as they are gathered. No program in sight. -/
set_option linter.unusedVariables false
set_option linter.unusedSimpArgs false
set_option linter.unusedSectionVars false
namespace Go.Gam
open Px

theorem agg_cells (cs : Array Value) : (Value.agg cs).cells = cs := rfl
/-- A record type of two fields of one cell each, z1 and z2 at first. -/
def Rec2 (P : Program) (t : TypeId) (z1 z2 : Value) : Prop :=
  ∃ f0 f1 i0 i1 i, P.underlying t = some (.struct #[f0, f1]) ∧ P.info? f0.type = some i0 ∧ i0.size = 1 ∧ f0.offset = 0 ∧ P.info? f1.type = some i1 ∧ i1.size = 1 ∧ f1.offset = 1 ∧ P.info? t = some i ∧ i.size = 2 ∧ i.zero = some (.agg #[z1, z2])
theorem rec2_of {P : Program} {t : TypeId} {z1 z2 : Value} {f0 f1 : Field} (h : P.underlying t = some (.struct #[f0, f1])) (h0 : (P.info? f0.type).map (fun i => (i.size, f0.offset)) = some (1, 0)) (h1 : (P.info? f1.type).map (fun i => (i.size, f1.offset)) = some (1, 1))
    (hz : (P.info? t).map (fun i => (i.size, i.zero)) = some (2, some (.agg #[z1, z2]))) : Rec2 P t z1 z2 := by
  cases e0 : P.info? f0.type with
  | none => rw [e0] at h0; cases h0
  | some i0 =>
    cases e1 : P.info? f1.type with
    | none => rw [e1] at h1; cases h1
    | some i1 =>
      cases e : P.info? t with
      | none => rw [e] at hz; cases hz
      | some i =>
        rw [e0] at h0; rw [e1] at h1; rw [e] at hz
        simp only [Option.map_some, Option.some.injEq, Prod.mk.injEq] at h0 h1 hz
        exact ⟨f0, f1, i0, i1, i, h, e0, h0.1, h0.2, e1, h1.1, h1.2, e, hz.1, hz.2⟩
section
variable {P : Program} {ops : Array Oper} {K : Kont} {rest : List Oper} {n : NN} {F : Fs} {T : TypeId} {pp : String} {af : Array Edge} {v : Value} {d : Nat} {a : Act} {w : World} {x y : Operand} {D : FD} {B : Nat} {z1 z2 : Value}
theorem v_loadR {t E g : Nat} {u v : Value} (ht : Rec2 P t z1 z2) (hx : ev F x = some (.pointer (some ⟨g, 0, none⟩))) (hb : Blk w g E [u, v]) : Val P (.load t x) T F w (.agg #[u, v]) :=
  fun ρ h d p af g' => by
    obtain ⟨f0, f1, i0, i1, i, h1, h2, h3, h4, h5, h6, h7, h8, h9, h10⟩ := ht
    have := run_loadVar_row (P := P) w g E t #[u, v] (0, 0) _ hb h1 rfl (by rw [h8]; simp [h9])
    simp only [execOp, h x _ hx, Instr.loadAt, Instr.sureAddr]
    simp [this]
theorem v_buildR {t : Nat} {u v : Value} (ht : Rec2 P t z1 z2) (hx : ev F x = some u) (hy : ev F y = some v) (hu : u.cells = #[u]) (hv : v.cells = #[v]) : Val P (.build t #[(0, x), (1, y)]) T F w (.agg #[u, v]) :=
  fun ρ h d p af g' => by
    obtain ⟨f0, f1, i0, i1, i, h1, h2, h3, h4, h5, h6, h7, h8, h9, h10⟩ := ht
    simp [execOp, h x _ hx, h y _ hy, Instr.build, zeroValue, typeInfo, h8, h10, underlying, h1, sizeOf, h2, h3, h4, h5, h6, h7, program, Sem.run, Instr.fill, hu, hv, agg_cells]
theorem v_mkfF {fn : Fn} {cs : List Operand} {vs : List Value} (hc : evs F cs = some vs) : Val P (.makeFunc fn cs.toArray #[]) T F w (.func fn vs.toArray ([] : List Value).toArray) :=
  fun ρ h d p af g => by
    have := h.list cs vs hc
    simp [execOp, Instr.makeFunc, this]
/-- A new variable that a record is stored into at once. -/
theorem s_newR {t : Nat} {u v : Value} {T' : TypeId} {pp' : String} {af' : Array Edge} (hF : Fr n F a) (ht : Rec2 P t z1 z2) (he : t ≠ D.T) (hy : ∀ q, ev ((d, q) :: F) y = some (.agg #[u, v])) (hu : u.oneCell' = true) (hv : v.oneCell' = true) (hd : Nat.blt d n.n = true)
    (k : ∀ w' a, Mb D B none w w' → Blk w' w.heap.size t [u, v] → w'.heap.size = w.heap.size + 1 → Fr n ((d, .pointer (some ⟨w.heap.size, 0, none⟩)) :: F) a → WL P ops K rest a w') :
    WL P ops K (⟨some d, .alloc t, T, pp, af, none⟩ :: ⟨none, .store t (.tmp d) y, T', pp', af', none⟩ :: rest) a w := by
  obtain ⟨f0, f1, i0, i1, i, h1, h2, h3, h4, h5, h6, h7, h8, h9, h10⟩ := ht
  refine s_run (v := .pointer (some ⟨w.heap.size, 0, none⟩)) (w' := w.alloc (.cells #[z1, z2] t)) hF (fun ρ h => ?_) hd fun a hF => ?_
  · simp [execOp, Instr.alloc, zeroValue, typeInfo, h8, h10, newVar, newRow, newObj, Sem.run, Value.cells]
  · have hst := run_storeCells_new (P := P) w t #[z1, z2] #[u, v] (by rw [h8]; simp [h9]) rfl (by simp [hu, hv])
    have hrun : (execOp a.eval ⟨none, .store t (.tmp d) y, T', pp', af', none⟩).run P (w.alloc (.cells #[z1, z2] t)) = .ok .skip (w.alloc (.cells #[u, v] t)) := by
      have hd' : ev ((d, Value.pointer (some ⟨w.heap.size, 0, none⟩)) :: F) (.tmp d) = some (.pointer (some ⟨w.heap.size, 0, none⟩)) := by simp [ev, look_cons]
      simp only [execOp, hF.reads y _ (hy _), hF.reads (.tmp d) _ hd', Instr.storeAt, Instr.sureAddr, storeVar]
      simp [sizeOf, typeInfo, h8, h9, agg_cells, hst]
    unfold WL wpList
    rw [if_pos (by simp [Region.wanted])]
    refine .inl ?_
    unfold Oper.wp
    rw [hrun]
    exact k _ a (Mb.alloc D B w _ t (0, 0) he) (alloc_new w _) (by simp) hF
end
theorem slA_of {g lo cap : Nat} (h : lo < cap) : slA (some ⟨g, 0, none⟩) lo cap = some ⟨g, 0 + lo, none⟩ := by unfold slA; rw [if_neg (by omega)]; simp [Addr.add_eq]

section
variable {P : Program} {D : FD} {B : Nat} {a : Act} {w : World} {ops : Array Oper} {K : Kont} {fuel : Nat} {L : Array Bool}
end
theorem Blk.ne_own {D : FD} {B N' : Nat} {w : World} {g : Nat} {E E' : TypeId} {cs : List Value} {u : Value} {b : Option Nat} {xs : List Value} (h : Blk w g E cs) (ho : Own D B N' w E' u b xs) (hE : E ≠ E') : b ≠ some g := by
  intro e
  rcases ho with ⟨_, h', _⟩ | ⟨g', cap', cur, rfl, hb, h1, hB, h2, h3⟩
  · rw [h'] at e; cases e
  · rw [hb] at e; obtain rfl := Option.some.inj e
    have hk : w.heap[g']? = _ := h
    rw [h2] at hk
    exact hE (Obj.cells.inj (Option.some.inj hk)).2.1.symm
theorem StZ.cut {D : FD} {B : Nat} {Z : Nat → Prop} {w w' : World} (h : StZ D B (fun k => Z k ∨ w.heap.size ≤ k) w w') : StZ D B Z w w' :=
  ⟨⟨h.ext.os, h.ext.tape, h.ext.output, h.ext.size, fun k hk hz hc => h.ext.keep k hk (fun e => e.elim hz (by omega)) hc, h.ext.oth, h.ext.fld, h.ext.priv, h.ext.made⟩, h.inv⟩
/-- A step that changes a block that is newer. -/
theorem StZ.mbn {D : FD} {B : Nat} {Z : Nat → Prop} {b : Option Nat} {w0 w w' : World} (hs : StZ D B Z w0 w) (h : Mb D B b w w') (hb : ∀ k, b = some k → w0.heap.size ≤ k ∧ ∃ c e fr, w.heap[k]? = some (.cells c e fr)) : StZ D B Z w0 w' :=
  ((hs.weak (Z' := fun k => Z k ∨ w0.heap.size ≤ k) fun k z => .inl z).mb h (fun k e => ⟨.inr (hb k e).1, (hb k e).2⟩)).cut
/-! ### steps of the tables -/
theorem ext_cell {o : Fq} (hprm : ∀ wb p, o = some (wb, p) → Prm wb p) {k m i j : Nat} (h : i < k + m - 1) : ((extT o k m i j : Nat) : Int) = gpow o (i : Int) (j : Int) := by
  unfold extT; rw [if_neg (by omega)]; exact pwT_nn hprm _ _
theorem ext_last {o : Fq} {k m : Nat} (hk : 1 ≤ k) : (List.replicate k (Value.int .i64 0)).set (k - 1) (.int .i64 1) = zints (trow k (extT o k m) (k + m - 1)) := by
  apply List.ext_getElem?
  intro j
  by_cases hj : j < k
  · rw [zints_at (trow_at hj)]
    unfold extT
    rw [if_pos rfl]
    by_cases e : k - 1 = j
    · rw [← e, List.getElem?_set_self (by simpa using by omega), if_pos rfl]; rfl
    · rw [List.getElem?_set_ne e, if_neg (Ne.symm e)]; simp [hj]
  · rw [List.getElem?_eq_none (by simp; omega), List.getElem?_eq_none (by simp [zints]; omega)]
namespace Fld
variable (F : Fld)
theorem scC_at {fr j c x l : Nat} {f : Tb} (h : fr ≤ x) : F.scC fr j c (x + 1) f x l = if l = j then F.mul (F.scC fr j c x f x j) c else F.scC fr j c x f x l := by
  unfold scC
  rw [if_neg (show ¬ (fr ≤ x ∧ x < x ∧ j = j) by omega), if_neg (show ¬ (fr ≤ x ∧ x < x ∧ l = j) by omega)]
  by_cases e : l = j
  · rw [if_pos e, if_pos ⟨h, by omega, e⟩, e]
  · rw [if_neg e, if_neg (fun c => e c.2.2)]
theorem scC_ne {fr j c x a l : Nat} {f : Tb} (h : a ≠ x) : F.scC fr j c (x + 1) f a l = F.scC fr j c x f a l := by
  unfold scC
  by_cases e : fr ≤ a ∧ a < x ∧ l = j
  · rw [if_pos e, if_pos ⟨e.1, by omega, e.2.2⟩]
  · rw [if_neg e, if_neg (fun c => e ⟨c.1, by omega, c.2.2⟩)]
theorem scC_zero {fr j c a l : Nat} {f : Tb} : F.scC fr j c fr f a l = f a l := by unfold scC; rw [if_neg (by omega)]
theorem clC_at {i j x l : Nat} {f : Tb} (h : j ≠ i) : F.clC i j (x + 1) f x l = if l = j then F.clC i j x f x j ^^^ F.mul (F.clC i j x f x i) (f i j) else F.clC i j x f x l := by
  unfold clC
  rw [if_neg (show ¬ (j ≠ i ∧ (j < j ∨ j = j ∧ x < x)) by omega), if_neg (show ¬ (i ≠ i ∧ (i < j ∨ i = j ∧ x < x)) by omega)]
  by_cases e : l = j
  · rw [if_pos e, if_pos ⟨by omega, .inr ⟨e, by omega⟩⟩, e]
  · rw [if_neg e]
    by_cases e2 : l ≠ i ∧ l < j
    · rw [if_pos ⟨e2.1, .inl e2.2⟩, if_pos ⟨e2.1, .inl e2.2⟩]
    · rw [if_neg (by omega), if_neg (by omega)]
theorem clC_ne {i j x a l : Nat} {f : Tb} (h : a ≠ x) : F.clC i j (x + 1) f a l = F.clC i j x f a l := by
  unfold clC
  by_cases e : l ≠ i ∧ (l < j ∨ l = j ∧ a < x)
  · rw [if_pos e, if_pos (by omega)]
  · rw [if_neg e, if_neg (by omega)]
theorem clC_skip {i x a l : Nat} {f : Tb} : F.clC i i (x + 1) f a l = F.clC i i x f a l := by
  unfold clC
  by_cases e : l ≠ i ∧ (l < i ∨ l = i ∧ a < x)
  · rw [if_pos e, if_pos (by omega)]
  · rw [if_neg e, if_neg (by omega)]
theorem clC_next {i j n a l : Nat} {f : Tb} (h : a < n) : F.clC i j n f a l = F.clC i (j + 1) 0 f a l := by
  unfold clC
  by_cases e : l ≠ i ∧ (l < j ∨ l = j ∧ a < n)
  · rw [if_pos e, if_pos (by omega)]
  · rw [if_neg e, if_neg (by omega)]
theorem clC_self {i j x a : Nat} {f : Tb} : F.clC i j x f a i = f a i := by unfold clC; rw [if_neg (by omega)]
theorem clC_zero {i a l : Nat} {f : Tb} : F.clC i 0 0 f a l = f a l := by unfold clC; rw [if_neg (by omega)]
end Fld
/-- The two stores of a swap. -/
def colH (i q x : Nat) (f : Tb) : Tb := fun r l => if r = x ∧ l = i then f x q else colS i q x f r l
theorem colH_at {i q x l : Nat} {f : Tb} : colH i q x f x l = if l = i then f x q else colS i q x f x l := by
  unfold colH
  by_cases e : l = i
  · rw [if_pos ⟨rfl, e⟩, if_pos e]
  · rw [if_neg (fun c => e c.2), if_neg e]
theorem colH_ne {i q x a l : Nat} {f : Tb} (h : a ≠ x) : colH i q x f a l = colS i q x f a l := by unfold colH; rw [if_neg (fun c => h c.1)]
theorem colS_at {i q x l : Nat} {f : Tb} : colS i q (x + 1) f x l = if l = q then f x i else colH i q x f x l := by
  rw [colH_at]
  unfold colS Fld.sw
  rw [if_pos (show x < x + 1 by omega), if_neg (show ¬ x < x by omega)]
  by_cases e : l = q
  · by_cases e2 : l = i
    · subst e; subst e2; simp
    · rw [if_neg e2, if_pos e, if_pos e]
  · by_cases e2 : l = i
    · rw [if_pos e2, if_neg e, if_pos e2]
    · rw [if_neg e2, if_neg e, if_neg e, if_neg e2]
theorem colS_ne {i q x a l : Nat} {f : Tb} (h : a ≠ x) : colS i q (x + 1) f a l = colH i q x f a l := by
  rw [colH_ne h]
  unfold colS
  by_cases e : a < x
  · rw [if_pos e, if_pos (by omega)]
  · rw [if_neg e, if_neg (by omega)]
theorem colS_old {i q x l : Nat} {f : Tb} : colS i q x f x l = f x l := by unfold colS; rw [if_neg (by omega)]
theorem colS_zero {i q a l : Nat} {f : Tb} : colS i q 0 f a l = f a l := by unfold colS; rw [if_neg (by omega)]
/-! ### parity rows, as they are made -/
section
variable {wb p : Nat} (hp : Prm wb p) {k m : Nat}
def colI (k m j : Nat) : Tb := fun r l => if k ≤ r ∧ l < j then jC hp k m (r - k) l else redC hp k m k r l
def rowI (k m x j : Nat) : Tb := fun r l => if k < r ∧ (r < k + 1 + x ∨ r = k + 1 + x ∧ l < j) then parT hp k m (r - k) l else colI hp k m k r l
theorem redC_jG {r l : Nat} (h : k ≤ r) : redC hp k m k r l = jG hp k m (r - k) l := by unfold jG; rw [show k + (r - k) = r by omega]
theorem colI_zero {a b : Nat} : colI hp k m 0 a b = redC hp k m k a b := by unfold colI; rw [if_neg (by omega)]
theorem colI_at {j : Nat} : colI hp k m j k j = jG hp k m 0 j := by unfold colI; rw [if_neg (by omega), redC_jG hp (Nat.le_refl _), Nat.sub_self]
theorem colI_bd {j : Nat} : hp.fld.Bd (colI hp k m j) := fun a b => by unfold colI; split; exact jC_bd hp k m _ _; exact redC_bd hp k m k _ _
theorem colI_step {j n a b : Nat} (ha : a < n) : hp.fld.scC k j (hp.fld.inv (jG hp k m 0 j)) n (colI hp k m j) a b = colI hp k m (j + 1) a b := by
  unfold Fld.scC
  by_cases e : k ≤ a ∧ a < n ∧ b = j
  · obtain ⟨e1, e2, rfl⟩ := e
    rw [if_pos ⟨e1, e2, rfl⟩]
    unfold colI
    rw [if_neg (by omega), if_pos ⟨e1, by omega⟩, redC_jG hp e1]
    rfl
  · rw [if_neg e]
    unfold colI
    by_cases e2 : k ≤ a ∧ b < j
    · rw [if_pos e2, if_pos (by omega)]
    · rw [if_neg e2, if_neg (by omega)]
theorem rowI_zero {a b : Nat} : rowI hp k m 0 0 a b = colI hp k m k a b := by unfold rowI; rw [if_neg (by omega)]
theorem rowI_at {x j l : Nat} (hl : ¬ l < j := by omega) (hk : l < k := by omega) : rowI hp k m x j (k + 1 + x) l = jC hp k m (x + 1) l := by
  unfold rowI colI
  rw [if_neg (by omega), if_pos ⟨by omega, hk⟩, show k + 1 + x - k = x + 1 by omega]
theorem rowI_ne {x j a l : Nat} (h : a ≠ k + 1 + x) : rowI hp k m x (j + 1) a l = rowI hp k m x j a l := by
  unfold rowI
  by_cases e : k < a ∧ (a < k + 1 + x ∨ a = k + 1 + x ∧ l < j)
  · rw [if_pos e, if_pos (by omega)]
  · rw [if_neg e, if_neg (by omega)]
theorem rowI_col {x j l : Nat} : rowI hp k m x (j + 1) (k + 1 + x) l = if l = j then hp.fld.mul (jC hp k m (x + 1) j) (hp.fld.inv (jC hp k m (x + 1) 0)) else rowI hp k m x j (k + 1 + x) l := by
  by_cases e : l = j
  · rw [if_pos e]
    unfold rowI
    rw [if_pos (by omega), show k + 1 + x - k = x + 1 by omega, parT_pos hp (by omega), e]
  · rw [if_neg e]
    unfold rowI
    by_cases e2 : l < j
    · rw [if_pos (by omega), if_pos (by omega)]
    · rw [if_neg (by omega), if_neg (by omega)]
theorem rowI_next {x a b : Nat} (hb : b < k) : rowI hp k m x k a b = rowI hp k m (x + 1) 0 a b := by
  unfold rowI
  by_cases e : k < a ∧ (a < k + 1 + x ∨ a = k + 1 + x ∧ b < k)
  · rw [if_pos e, if_pos (by omega)]
  · rw [if_neg e, if_neg (by omega)]
theorem rowI_end (hm : 1 ≤ m) : tab m k (parT hp k m) = (tab (k + m) k (rowI hp k m (m - 1) 0)).drop k := by
  rw [tab_drop (by omega), show k + m - k = m by omega]
  refine tab_congr fun i j hi hj => ?_
  unfold rowI
  by_cases e : i = 0
  · subst e
    rw [if_neg (by omega)]
    unfold colI
    rw [if_pos ⟨by omega, hj⟩, show k + 0 - k = 0 by omega]
    exact parT_zero hp
  · rw [if_pos (by omega), show k + i - k = i by omega]
end
end Go.Gam
