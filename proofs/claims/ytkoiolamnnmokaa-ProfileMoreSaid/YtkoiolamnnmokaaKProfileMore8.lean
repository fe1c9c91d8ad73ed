/- Texts of the claim ProfileMore (part 8), put together in the order of their imports. -/
import Derived.Test.YtkoiolamnnmokaaKProfileMore7
import Derived.Deep.WholeRow
import Derived.MapKept
/- The walks of package invert: Inverse, Rank, Solve. -/
set_option linter.unusedVariables false
set_option linter.unusedSimpArgs false
namespace Go.Proofs.Ytkoiolamnnmokaa
open Go Go.Gam


namespace FxFInvD
theorem en57 : Ent Try.prog 57 := ent Try.func57 (by kernel_rfl) (by kernel_rfl)
theorem en58 : Ent Try.prog 58 := ent Try.func58 (by kernel_rfl) (by kernel_rfl)
theorem en59 : Ent Try.prog 59 := ent Try.func59 (by kernel_rfl) (by kernel_rfl)
theorem en60 : Ent Try.prog 60 := ent Try.func60 (by kernel_rfl) (by kernel_rfl)
theorem en61 : Ent Try.prog 61 := ent Try.func61 (by kernel_rfl) (by kernel_rfl)
theorem en62 : Ent Try.prog 62 := ent Try.func62 (by kernel_rfl) (by kernel_rfl)
theorem sc23 : Scalar Try.prog 23 := ⟨_, Try.underlying23, by simp, by simp⟩
theorem sl23 : Sl Try.prog 23 3 (.int .i64 0) 8 := sl_of Try.underlying23 rfl (by kernel_rfl)
theorem sl26 : Sl Try.prog 26 23 (.slice none 0 0) 24 := sl_of Try.underlying26 rfl (by kernel_rfl)
theorem sl27 : Sl Try.prog 27 23 (.slice none 0 0) 24 := sl_of Try.underlying27 rfl (by kernel_rfl)
end FxFInvD
open FxFInvD

set_option maxRecDepth 100000 in
set_option maxHeartbeats 1000000 in
theorem square_ok (B M : Nat) (o : Fq) (fv : Value) (pmt : Option Addr) (cmt : Nat) (mt : Mtx) (w : World) (hI : Inv FDx B w) (hf : Fo FDx B w fv o) (hAmt : Mat FDx B M w pmt cmt mt) (hlmt : mt.length ≤ maxLen) (hbmt : ∀ r ∈ mt, r.length ≤ maxLen) : Ret Try.prog 57 [fv, .slice pmt mt.length cmt] w fun v w' => v = .bool (sqM o mt) ∧ St FDx B w w' := by
 refine enter 17 [(0, fv), (1, .slice pmt mt.length cmt)] 4 Try.func57 rfl rfl rfl rfl rfl ?_; intro a hF
 have hS := St.refl hI
 refine W_sr rfl (fun K hK => ?_)
 refine sv hF (v_assign rfl) rfl ?_; clear hF a; intro a hF
 refine WL_nil (hK _ _ ?_)
 clear hK K
 refine W_sr rfl (fun K hK => ?_)
 refine sv2 hF (v_move rfl) (v_move rfl) rfl rfl ?_; clear hF a; intro a hF
 refine sc hF rfl rfl rfl en62 rfl (May_ok B M o fv pmt cmt mt _ hS.inv hf hAmt hlmt hbmt) ?_; clear hF a; intro v w' a hv hF
 obtain ⟨rfl, hS'⟩ := hv
 replace hAmt := hAmt.st hS'
 replace hS := hS.trans hS'
 clear hS'
 obtain hc1 | hc1 : (mayM o mt) = true ∨ (mayM o mt) = false := by cases (mayM o mt) <;> simp
 ·
  rw [hc1] at hF
  have hmay : mayM o mt = true := hc1
  have hmp := mayM_pos hmay
  obtain ⟨r0, h0⟩ : ∃ r, mt[0]? = some r := ⟨_, List.getElem?_eq_getElem (by omega)⟩
  obtain ⟨g0, o0, pr0, cr0, hg0, hk0, hrow0, -⟩ := hAmt.row h0
  have hw0 := wid_at h0
  subst hg0
  refine sv hF (v_move rfl) rfl ?_; clear hF a; intro a hF
  refine svg hF rfl ?_
  refine sv hF (v_move rfl) rfl ?_; clear hF a; intro a hF
  refine svg hF rfl ?_
  refine sv hF (v_lenS rfl sl27 rfl) rfl ?_; clear hF a; intro a hF
  refine svg hF rfl ?_
  refine sv hF (v_move rfl) rfl ?_; clear hF a; intro a hF
  refine svg hF rfl ?_
  refine sv hF (v_ixS sl27 rfl rfl (by decide) (by omega)) rfl ?_; clear hF a; intro a hF
  refine svg hF rfl ?_
  refine sv hF (v_load sc23 rfl hk0.c) rfl ?_; clear hF a; intro a hF
  refine svg hF rfl ?_
  refine sv hF (v_lenS rfl sl23 rfl) rfl ?_; clear hF a; intro a hF
  refine svg hF rfl ?_
  refine sv hF (v_eql rfl rfl) rfl ?_; clear hF a; intro a hF
  refine sv2 hF (v_pickT rfl rfl) (v_assign rfl) rfl rfl ?_; clear hF a; intro a hF
  refine WL_nil (hK _ _ ?_)
  clear hK K
  replace hF := hF.sub _ (c_ 4 rfl (n_))
  refine W_ret ?_
  refine ⟨_, _, hF, rfl, ?_⟩
  exact ⟨by congr 1; unfold sqM; rw [hmay, hw0]; simp only [Bool.true_and]; rw [decide_eq_decide]; omega, hS⟩
 ·
  rw [hc1] at hF
  refine sv hF (v_move rfl) rfl ?_; clear hF a; intro a hF
  refine svn hF rfl rfl rfl ?_; clear hF a; intro a hF
  refine svn hF rfl rfl rfl ?_; clear hF a; intro a hF
  refine svn hF rfl rfl rfl ?_; clear hF a; intro a hF
  refine svn hF rfl rfl rfl ?_; clear hF a; intro a hF
  refine svn hF rfl rfl rfl ?_; clear hF a; intro a hF
  refine svn hF rfl rfl rfl ?_; clear hF a; intro a hF
  refine svn hF rfl rfl rfl ?_; clear hF a; intro a hF
  refine sv2 hF (v_pickF rfl rfl) (v_assign rfl) rfl rfl ?_; clear hF a; intro a hF
  refine WL_nil (hK _ _ ?_)
  clear hK K
  replace hF := hF.sub _ (c_ 4 rfl (n_))
  refine W_ret ?_
  refine ⟨_, _, hF, rfl, ?_⟩
  exact ⟨by congr 1; unfold sqM; rw [show mayM o mt = false by simpa using hc1]; rfl, hS⟩

set_option maxRecDepth 100000 in
set_option maxHeartbeats 1000000 in
theorem Inverse_ok (B M wb p : Nat) (hp : Prm wb p) (fv : Value) (pmt : Option Addr) (cmt : Nat) (mt : Mtx) (w : World) (hI : Inv FDx B w) (hM : M ≤ w.heap.size) (hf : Fo FDx B w fv (some (wb, p))) (hAmt : Mat FDx B M w pmt cmt mt) (hlmt : mt.length ≤ maxLen) (hbmt : ∀ r ∈ mt, r.length ≤ maxLen) : Ret Try.prog 45 [fv, .slice pmt mt.length cmt] w fun v w' => ∃ ob u, v = .tuple #[u, .int .i64 (invR hp mt).1] ∧ MOwn FDx B w.heap.size 0 w'.heap.size w' 23 u ob (invR hp mt).2 ∧ St FDx B w w' := by
 refine enter2 42 [(0, fv), (1, .slice pmt mt.length cmt)] 4 5 Try.func45 rfl rfl rfl rfl rfl ?_; intro a hF
 have hS := St.refl hI
 refine W_sr rfl (fun K hK => ?_)
 refine sv2 hF (v_assign rfl) (v_assign rfl) rfl rfl ?_; clear hF a; intro a hF
 refine WL_nil (hK _ _ ?_)
 clear hK K
 refine W_seq ?_
 refine W_sr rfl (fun K hK => ?_)
 refine sv2 hF (v_move rfl) (v_move rfl) rfl rfl ?_; clear hF a; intro a hF
 refine sc hF rfl rfl rfl en57 rfl (square_ok B M (some (wb, p)) fv pmt cmt mt _ hS.inv hf hAmt hlmt hbmt) ?_; clear hF a; intro v w' a hv hF
 obtain ⟨rfl, hS'⟩ := hv
 replace hf := hf.st hS'
 replace hAmt := hAmt.st hS'
 replace hS := hS.trans hS'
 clear hS'
 refine sv hF (v_not rfl) rfl ?_; clear hF a; intro a hF
 refine WL_nil (hK _ _ ?_)
 clear hK K
 replace hF := hF.sub _ (c_ 14 rfl (c_ 5 rfl (c_ 4 rfl (c_ 0 rfl (c_ 1 rfl (n_))))))
 refine W_if hF rfl (fun hc1 => ?_) (fun hc1 => ?_)
 ·
  skip
  try simp only [dcl] at hc1
  refine W_sr rfl (fun K hK => ?_)
  refine sv2 hF (v_assign rfl) (v_assign rfl) rfl rfl ?_; clear hF a; intro a hF
  refine WL_nil (hK _ _ ?_)
  clear hK K
  replace hF := hF.sub _ (c_ 5 rfl (c_ 4 rfl (c_ 0 rfl (c_ 1 rfl (n_)))))
  refine W_ret ?_
  refine ⟨_, _, _, hF, rfl, rfl, ?_⟩
  rw [invR_bad hp (by simpa using hc1)]
  exact ⟨none, _, rfl, MOwn.nil _ _ _ _ _ _ _ (Nat.zero_le _), hS⟩
 ·
  skip
  try simp only [dcl] at hc1
  refine W_skip ?_
  have hsq : sqM (some (wb, p)) mt = true := by simpa using hc1
  obtain ⟨hmx, hn1, hn20, -⟩ := sqM_Mx hsq
  obtain ⟨n, hn⟩ : ∃ n, n = mt.length := ⟨_, rfl⟩
  rw [← hn] at hmx hn1 hn20 hF
  have hbd := hmx.bd hp
  have htab := hmx.eq_tab
  have hid : identM (n : Int) = tab n n I1 := by rw [identM_of ⟨hn1, hn20⟩, idM_tab]; rfl
  refine W_sr rfl (fun K hK => ?_)
  refine sv hF (v_move rfl) rfl ?_; clear hF a; intro a hF
  refine sv hF (v_lenS rfl sl27 rfl) rfl ?_; clear hF a; intro a hF
  refine sv hF (v_assign rfl) rfl ?_; clear hF a; intro a hF
  refine WL_nil (hK _ _ ?_)
  clear hK K
  replace hF := hF.sub _ (c_ 6 rfl (c_ 5 rfl (c_ 4 rfl (c_ 0 rfl (c_ 1 rfl (n_))))))
  refine W_sr rfl (fun K hK => ?_)
  refine sv2 hF (v_move rfl) (v_move rfl) rfl rfl ?_; clear hF a; intro a hF
  refine sc hF rfl rfl rfl en59 rfl (Identity_ok B (n : Int) _ hS.inv (by omega)) ?_; clear hF a; intro v w' a hv hF
  obtain ⟨ob, ho, hS'⟩ := hv
  rw [hid] at ho
  obtain ⟨sI, cI, rfl, hId⟩ := ho.mat (by decide) (Nat.zero_le _)
  rw [tab_length] at hF
  clear ho
  replace hf := hf.st hS'
  replace hAmt := hAmt.st hS'
  replace hS := hS.trans hS'
  clear hS'
  refine sc hF rfl rfl rfl en58 rfl (beside_ok B _ n n n pmt sI cmt cI (en mt) I1 _ hS.inv (Nat.le_refl _) (htab ▸ hAmt.mono (Nat.le_trans hM hS.ext.size)) hId ⟨hn1, hn20⟩ ⟨hn1, hn20⟩ hn20) ?_; clear hF a; intro v w' a hv hF
  obtain ⟨gv, cap, bs, rc, rfl, hO, hW, hS'⟩ := hv
  replace hO := hO.le hS.ext.size
  replace hW := hW.le hS.ext.size
  clear hId hAmt
  replace hf := hf.st hS'
  replace hS := hS.trans hS'
  clear hS'
  refine sv hF (v_assign rfl) rfl ?_; clear hF a; intro a hF
  refine WL_nil (hK _ _ ?_)
  clear hK K
  replace hF := hF.sub _ (c_ 7 rfl (c_ 6 rfl (c_ 5 rfl (c_ 4 rfl (c_ 0 rfl (n_))))))
  refine W_seq ?_
  refine W_sr rfl (fun K hK => ?_)
  refine sv3 hF (v_move rfl) (v_move rfl) (v_move rfl) rfl rfl rfl ?_; clear hF a; intro a hF
  refine sc hF rfl rfl rfl en60 rfl (reduce_ok B w.heap.size wb p hp fv gv cap n (n + n) n bs rc _ _ hS.inv hf hO hW hS.ext.size (Fld.bes_bd hp.fld hbd hp.fld.I1_bd) (by omega) ⟨by omega, by omega⟩) ?_; clear hF a; intro v w' a hv hF
  clear hO hW bs rc
  obtain ⟨rfl, ⟨bs, rc, hO, hW⟩, hz⟩ := hv
  replace hW := hW
  replace hS := hS.thenZ hz (fun k hk => Nat.not_le.2 hk)
  clear hz hf
  refine sv hF (v_move rfl) rfl ?_; clear hF a; intro a hF
  refine sv hF (v_lss rfl rfl) rfl ?_; clear hF a; intro a hF
  refine WL_nil (hK _ _ ?_)
  clear hK K
  replace hF := hF.sub _ (c_ 26 rfl (c_ 7 rfl (c_ 6 rfl (c_ 5 rfl (c_ 4 rfl (n_))))))
  refine W_if hF rfl (fun hc2 => ?_) (fun hc2 => ?_)
  ·
   skip
   try simp only [dcl] at hc2
   refine W_sr rfl (fun K hK => ?_)
   refine sv2 hF (v_assign rfl) (v_assign rfl) rfl rfl ?_; clear hF a; intro a hF
   refine WL_nil (hK _ _ ?_)
   clear hK K
   replace hF := hF.sub _ (c_ 5 rfl (c_ 4 rfl (c_ 7 rfl (c_ 6 rfl (n_)))))
   refine W_ret ?_
   refine ⟨_, _, _, hF, rfl, rfl, ?_⟩
   rw [invR_none hp hsq (by rw [← hn]; exact iv_lt hp (by omega))]
   exact ⟨none, _, rfl, MOwn.nil _ _ _ _ _ _ _ (Nat.zero_le _), hS⟩
  ·
   skip
   try simp only [dcl] at hc2
   refine W_skip ?_
   have hiv := iv_ge hp (n := n) (f := en mt) (by omega)
   have hinv := invR_some hp hsq (by rw [← hn]; exact hiv)
   rw [← hn] at hinv
   obtain ⟨K0, hK0⟩ : ∃ k, k = w'.heap.size := ⟨_, rfl⟩
   have hWd := hW.mat (gb := gv) hO (by decide)
   rw [← hK0] at hWd
   have hwK : w.heap.size ≤ K0 := by have := hS.ext.size; omega
   clear hO hW
   refine W_sr rfl (fun K hK => ?_)
   refine sv hF (v_assign rfl) rfl ?_; clear hF a; intro a hF
   refine WL_nil (hK _ _ ?_)
   clear hK K
   replace hF := hF.sub _ (c_ 8 rfl (c_ 7 rfl (c_ 6 rfl (c_ 5 rfl (c_ 4 rfl (n_))))))
   refine W_seq ?_
   refine W_sr rfl (fun K hK => ?_)
   refine sv hF (v_move rfl) rfl ?_; clear hF a; intro a hF
   refine sv hF (v_lenS rfl sl27 rfl) rfl ?_; clear hF a; intro a hF
   refine sv hF (v_move rfl) rfl ?_; clear hF a; intro a hF
   refine WL_nil (hK _ _ ?_)
   clear hK K
   replace hF := hF.sub _ (c_ 29 rfl (c_ 28 rfl (c_ 27 rfl (c_ 8 rfl (c_ 6 rfl (c_ 5 rfl (c_ 4 rfl (n_))))))))
   refine W_block ?_
   refine W_loop (fun m a w1 => ∃ (i : Nat) (v8 : Value) (b8 : Option Nat), Fr 42 [(6, .int .i64 (n : Int)), (8, v8), (27, .slice (some ⟨gv, 0, none⟩) n cap), (28, .int .i64 (n : Int)), (29, .int .i64 (i : Int))] a ∧ (St FDx B w w1) ∧ (Mat FDx B K0 w1 (some ⟨gv, 0, none⟩) cap (tab n (n + n) (hp.fld.red n (Fld.bes n (en mt) I1) n).1)) ∧ (MOwn FDx B K0 0 w1.heap.size w1 23 v8 b8 ((List.range i).map (trow n (half hp n (en mt))))) ∧ (K0 ≤ w1.heap.size) ∧ (i ≤ n) ∧ (m + i = n)) (n) ?_ ?_
   ·
    skip
    exact ⟨0, _, none, hF.sub _ (c_ 6 rfl (c_ 8 rfl (c_ 27 rfl (c_ 28 rfl (c_ 29 rfl (n_)))))), hS, hWd, MOwn.nil _ _ _ _ _ _ _ (Nat.zero_le _), by omega, by omega, by omega⟩
   ·
    skip
    clear hF
    clear hS hWd
    rintro m a w1 ⟨i, v8, b8, hF, hS, hWd, hMO, hKz, hi, hm⟩
    obtain ⟨KM, hKe⟩ : ∃ K, K = w1.heap.size := ⟨_, rfl⟩
    rw [← hKe] at hMO
    have hKs : KM ≤ w1.heap.size := by omega
    clear hKe
    refine W_sr rfl (fun K hK => ?_)
    refine sv hF (v_lss rfl rfl) rfl ?_; clear hF a; intro a hF
    refine WL_nil (hK _ _ ?_)
    clear hK K
    refine W_seq ?_
    refine W_if hF rfl (fun hc3 => ?_) (fun hc3 => ?_)
    ·
     skip
     try simp only [dcl] at hc3
     have hlt : i < n := by omega
     obtain ⟨gw, ow, pr, cr, hgw, hkw, hrw, -⟩ := hWd.row (tab_at (f := (hp.fld.red n (Fld.bes n (en mt) I1) n).1) (m := n + n) hlt)
     cases hgw
     have hrl : ((List.range (n + n)).map fun j => (((hp.fld.red n (Fld.bes n (en mt) I1) n).1 i j : Nat) : Int)).length = n + n := by simp
     rw [hrl] at hrw hkw
     have hcr := hrw.capd
     have hpart := hrw.part (lo := n) (hi := n + n) (by omega) (by simp)
     have hhr := half_row hp n (en mt) i
     have hxs : (List.take (n + n) (zints ((List.range (n + n)).map fun j => (((hp.fld.red n (Fld.bes n (en mt) I1) n).1 i j : Nat) : Int)))).drop n = zints (trow n (half hp n (en mt)) i) := by
      rw [List.take_of_length_le (by simp), ← hhr]; simp [zints, trow]
     rw [hxs] at hpart
     rw [show n + n - n = (trow n (half hp n (en mt)) i).length by simp] at hpart
     clear hxs hhr
     refine W_skip ?_
     refine W_seq ?_
     refine W_block ?_
     refine W_sr rfl (fun K hK => ?_)
     refine sv hF (v_ixS sl27 rfl rfl (by omega) (by omega)) rfl ?_; clear hF a; intro a hF
     refine sv hF (v_load sc23 rfl (by rw [toNat_c]; exact hkw.c)) rfl ?_; clear hF a; intro a hF
     refine sv hF (v_assign rfl) rfl ?_; clear hF a; intro a hF
     refine WL_nil (hK _ _ ?_)
     clear hK K
     replace hF := hF.sub _ (c_ 10 rfl (c_ 6 rfl (c_ 8 rfl (c_ 27 rfl (c_ 28 rfl (c_ 29 rfl (n_)))))))
     refine W_reg rfl (fun K hK => ?_)
     refine sv3 hF (v_move rfl) (v_move rfl) (v_move rfl) rfl rfl rfl ?_; clear hF a; intro a hF
     refine sv hF (v_slLo sl23 rfl rfl (by omega) (by omega)) rfl ?_; clear hF a; intro a hF
     rw [show n + n - n = (trow n (half hp n (en mt)) i).length by simp] at hF
     refine sc hF rfl rfl rfl en61 rfl (Clone_ok B _ _ _ _ _ hS.inv hpart hKz (by simp; omega)) ?_; clear hF a; intro v w' a hv hF
     obtain ⟨ob, hC, hS'⟩ := hv
     replace hC := hC.le hKz
     replace hWd := hWd.st hS'
     replace hMO := hMO.st (by decide) hS'
     replace hKz := Nat.le_trans hKz hS'.ext.size
     replace hKs := Nat.le_trans hKs hS'.ext.size
     replace hS := hS.trans hS'
     clear hS'
     obtain ⟨a_, c_r, rfl⟩ := hC.shape
     refine s_bs (D := FDx) (B := B) hF sl27 rfl rfl (by decide) (by simp [Value.cells]) (by decide) hS.inv rfl ?_; clear hF a; intro w' a hm hI' hL hF
     replace hWd := hWd.mb hm (fun _ h => by cases h)
     replace hMO := hMO.mb0 hm
     replace hKz := Nat.le_trans hKz hm.size
     replace hKs := Nat.le_trans hKs hm.size
     replace hC := hC.mb hm (fun _ _ => by simp)
     replace hS := hS.mb0 hm
     clear hm hI'
     replace hMO := hMO.up hKs
     clear hKs
     refine s_appM (D := FDx) (B := B) hF rfl sl27 rfl rfl hMO hL (.of hC (Nat.zero_le _)) rfl rfl (by simp; omega) (hKz) (by decide) (by decide) hS.inv rfl ?_; clear hF a; intro v' b' w' a ho' hm hI' hF
     replace hWd := hWd.mb hm (fun k h => Nat.le_trans ((Nat.le_refl _)) (hMO.lt k h).1)
     replace hKz := Nat.le_trans hKz hm.size
     replace hS := hS.mb hm (fun k h => Nat.le_trans hwK (hMO.lt k h).1)
     have hKm := hm.size
     replace hMO := ho'
     clear hm hI' ho' hL
     refine sv hF (v_assign rfl) rfl ?_; clear hF a; intro a hF
     refine WL_nil (hK _ _ ?_)
     clear hK K
     replace hF := hF.sub _ (c_ 8 rfl (c_ 6 rfl (c_ 27 rfl (c_ 28 rfl (c_ 29 rfl (n_))))))
     refine W_reg rfl (fun K hK => ?_)
     refine sv hF (v_addI rfl rfl (by omega)) rfl ?_; clear hF a; intro a hF
     refine sv hF (v_move rfl) rfl ?_; clear hF a; intro a hF
     refine WL_nil (hK _ _ ?_)
     clear hK K
     exact ⟨m - 1, by omega, i + 1, _, _, hF.sub _ (c_ 6 rfl (c_ 8 rfl (c_ 27 rfl (c_ 28 rfl (c_ 29 rfl (n_)))))), hS, hWd, (hMO.up hKm).cast (by rw [List.range_succ, List.map_append]; rfl), hKz, by omega, by omega⟩
    ·
     skip
     try simp only [dcl] at hc3
     refine W_exit rfl ?_
     refine W_sr rfl (fun K hK => ?_)
     refine sv3 hF (v_move rfl) (v_assign rfl) (v_assign rfl) rfl rfl rfl ?_; clear hF a; intro a hF
     refine WL_nil (hK _ _ ?_)
     clear hK K
     replace hF := hF.sub _ (c_ 5 rfl (c_ 4 rfl (c_ 41 rfl (c_ 6 rfl (c_ 8 rfl (c_ 27 rfl (c_ 28 rfl (c_ 29 rfl (n_)))))))))
     refine W_ret ?_
     refine ⟨_, _, _, hF, rfl, rfl, ?_⟩
     obtain rfl : i = n := by omega
     rw [hinv]
     exact ⟨_, _, rfl, (hMO.up hKs).le hwK (Nat.zero_le _), hS⟩

end Go.Proofs.Ytkoiolamnnmokaa

/- What the statements of layer 5 ask of inverses, ranks, what is solved. No program in sight. -/
set_option linter.unusedVariables false
set_option linter.unusedSimpArgs false
namespace Go.Gam
open Px

namespace Fld
variable (F : Fld)
theorem piv_congr {n c : Nat} {f g : Tb} (h : ∀ i, i < n → f i c = g i c) : ∀ {d t : Nat}, t + d ≤ n → piv f n c t d = piv g n c t d
  | 0, _, _ => rfl
  | d + 1, t, hd => by
    unfold piv
    rw [h t (by omega), piv_congr h (by omega)]
/-- The reduction looks at the first columns alone. -/
theorem red_cols {n C : Nat} {f g : Tb} (h : ∀ i, i < n → ∀ j, j < C → f i j = g i j) : ∀ c, c ≤ C → (F.red n f c).2 = (F.red n g c).2 ∧ (∀ i, i < n → ∀ j, j < C → (F.red n f c).1 i j = (F.red n g c).1 i j) ∧ (F.red n f c).2 ≤ n
  | 0, _ => ⟨rfl, h, Nat.zero_le _⟩
  | c + 1, hc => by
    obtain ⟨h1, h2, h3⟩ := red_cols h c (by omega)
    rw [red, red, ← h1]
    clear h1
    generalize (F.red n f c).1 = f1 at *
    generalize (F.red n g c).1 = g1 at *
    generalize (F.red n f c).2 = t at *
    have hp : piv f1 n c t (n - t) = piv g1 n c t (n - t) := piv_congr (fun i hi => h2 i hi c (by omega)) (by omega)
    unfold stp
    rw [← hp]
    cases hk : piv f1 n c t (n - t) with
    | none => exact ⟨rfl, h2, h3⟩
    | some k =>
      obtain ⟨k1, k2, -, -⟩ := piv_some hk
      refine ⟨rfl, fun i hi j hj => ?_, by show t + 1 ≤ n; omega⟩
      dsimp only
      unfold op
      rw [h2 k (by omega) j hj, h2 k (by omega) c (by omega), h2 _ (sw_lt (by omega) (by omega) hi) j hj]
      dsimp only
      rw [h2 _ (sw_lt (by omega) (by omega) hi) c (by omega)]
theorem rk_congr {n c : Nat} {f g : Tb} (h : ∀ i, i < n → ∀ j, j < c → f i j = g i j) : F.rk n f c = F.rk n g c := (F.red_cols h c (Nat.le_refl _)).1
theorem Iv.congr {n : Nat} {E E' G : Tb} (h : F.Iv n E E') (hb : F.Bd G) (he : ∀ i j, i < n → j < n → G i j = E i j) : F.Iv n G E' :=
  ⟨hb, h.bd', fun i j hi hj => by rw [← h.r i j hi hj]; exact F.mm_congr (fun l hl => he i l hi hl) (fun _ _ => rfl), fun i j hi hj => by rw [← h.l i j hi hj]; exact F.mm_congr (fun _ _ => rfl) (fun l hl => he l j hl hj)⟩
theorem rk_iv {n : Nat} {f : Tb} (h : (F.iv n f).isSome = true) : F.rk n f n = n := by
  have e : F.rk n f n = F.rk n (bes n f I1) n := F.rk_congr fun i _ j hj => by unfold bes; rw [if_pos hj]
  unfold iv at h
  split at h
  · cases h
  · rename_i hn
    have h2 : ¬ F.rk n (bes n f I1) n < n := hn
    have h3 := (F.red_cols (n := n) (C := n) (f := f) (g := f) (fun _ _ _ _ => rfl) n (Nat.le_refl _)).2.2
    have h4 : F.rk n f n ≤ n := h3
    omega
theorem rk_sing {n : Nat} {f : Tb} (h : F.iv n f = none) : F.rk n f n < n := by
  have e : F.rk n f n = F.rk n (bes n f I1) n := F.rk_congr fun i _ j hj => by unfold bes; rw [if_pos hj]
  unfold iv at h
  split at h
  · rename_i hn
    have h2 : F.rk n (bes n f I1) n < n := hn
    omega
  · cases h
/-- The rows twice. -/
theorem rk_twice {n c : Nat} {f g : Tb} (hf : F.Bd f) (hg : F.Bd g) (h1 : ∀ i, i < n → ∀ j, j < c → g i j = f i j) (h2 : ∀ i, i < n → ∀ j, j < c → g (n + i) j = f i j) : F.rk (n + n) g c = F.rk n f c := by
  refine Nat.le_antisymm (F.rk_mono hg hf (Sp.sub F hf (fun i => if i < n then i else i - n) fun i hi => ?_)) (F.rk_mono hf hg (Sp.sub F hg (fun i => i) fun i hi => ⟨by omega, fun j hj => (h1 i hi j hj).symm⟩))
  by_cases e : i < n
  · rw [if_pos e]; exact ⟨e, fun j hj => h1 i e j hj⟩
  · rw [if_neg e]
    refine ⟨by omega, fun j hj => ?_⟩
    have := h2 (i - n) (by omega) j hj
    rw [show n + (i - n) = i by omega] at this
    exact this
theorem rk_pos {n c i j : Nat} {f : Tb} (hf : F.Bd f) (hi : i < n) (hj : j < c) (h : f i j ≠ 0) : 0 < F.rk n f c := by
  obtain ⟨g, -, -, ⟨C, -, hC⟩, -⟩ := F.rk_rows (n := n) (c := c) hf
  refine Nat.pos_of_ne_zero fun e => h ?_
  rw [hC i j hi hj, e]; rfl
end Fld

section
variable {wb p : Nat} (hp : Prm wb p)
theorem fld_bd16 {f : Tb} (h : hp.fld.Bd f) : ∀ i j, f i j < 2 ^ wb := fun i j => by have := h i j; rw [hp.fld_w] at this; exact this
theorem inv_reg {a : Mtx} (hsq : sqM (some (wb, p)) a = true) (h : (invR hp a).1 = 0) : ∃ g, hp.fld.iv a.length (en a) = some g ∧ hp.fld.Iv a.length (en a) g ∧ invR hp a = (0, tab a.length a.length g) := by
  obtain ⟨hm, -⟩ := sqM_Mx hsq
  cases hi : hp.fld.iv a.length (en a) with
  | none => rw [invR_none hp hsq hi] at h; cases h
  | some g => exact ⟨g, rfl, hp.fld.iv_some (hm.bd hp) hi, invR_some hp hsq hi⟩
theorem inv_no {a : Mtx} (hsq : sqM (some (wb, p)) a = true) (h : (invR hp a).1 ≠ 0) : hp.fld.iv a.length (en a) = none ∧ invR hp a = (2, []) := by
  cases hi : hp.fld.iv a.length (en a) with
  | none => exact ⟨rfl, invR_none hp hsq hi⟩
  | some g => rw [invR_some hp hsq hi] at h; exact absurd rfl h
theorem rankR_sq {a : Mtx} (hsq : sqM (some (wb, p)) a = true) : rankR hp a = (((hp.fld.rk a.length (en a) a.length : Nat) : Int), 0) := by
  have h := hsq
  simp only [sqM, Bool.and_eq_true, decide_eq_true_eq] at h
  unfold rankR
  rw [if_pos h.1, ← h.2]
theorem inv_sing {a : Mtx} (hsq : sqM (some (wb, p)) a = true) (h : (invR hp a).1 ≠ 0) : invR hp a = (2, []) ∧ (rankR hp a).2 = 0 ∧ (rankR hp a).1 < (a.length : Int) := by
  obtain ⟨h1, h2⟩ := inv_no hp hsq h
  have := hp.fld.rk_sing h1
  rw [rankR_sq hp hsq]
  exact ⟨h2, rfl, by show ((hp.fld.rk a.length (en a) a.length : Nat) : Int) < _; omega⟩
theorem tab_en {n m : Nat} {g : Tb} {i j : Nat} (hi : i < n) (hj : j < m) : en (tab n m g) i j = g i j := en_tab hi hj
theorem mx_tab {n m : Nat} {g : Tb} (h : hp.fld.Bd g) : Mx wb n m (tab n m g) := Mx.tab fun i j _ _ => fld_bd16 hp h i j
theorem mulM_Iv {n : Nat} {a b : Mtx} (ha : Mx wb n n a) (hb : Mx wb n n b) (hn : 1 ≤ n ∧ n ≤ 20) (h : ∀ i j, i < n → j < n → hp.fld.mm n (en a) (en b) i j = I1 i j) : mulM (some (wb, p)) a b = some (idM n) := by
  rw [mulM_tab hp ha hb hn hn hn, idM_tab]
  congr 1
  exact tab_congr fun i j hi hj => h i j hi hj
theorem inv_back {a : Mtx} (hsq : sqM (some (wb, p)) a = true) (h : (invR hp a).1 = 0) :
    ∃ x, invR hp a = (0, x) ∧ mulM (some (wb, p)) a x = some (idM a.length) ∧ mulM (some (wb, p)) x a = some (idM a.length) ∧ invR hp x = (0, a) ∧ rankR hp a = ((a.length : Int), 0) := by
  obtain ⟨hm, h1, h2, -⟩ := sqM_Mx hsq
  obtain ⟨g, hg, hI, he⟩ := inv_reg hp hsq h
  have hx := mx_tab hp (n := a.length) (m := a.length) hI.bd'
  have hI2 : hp.fld.Iv a.length (en (tab a.length a.length g)) (en a) := (hI.symm).congr hp.fld (hx.bd hp) fun i j hi hj => en_tab hi hj
  refine ⟨_, he, mulM_Iv hp hm hx ⟨h1, h2⟩ fun i j hi hj => hI2.l i j hi hj, mulM_Iv hp hx hm ⟨h1, h2⟩ fun i j hi hj => hI2.r i j hi hj, ?_, ?_⟩
  · have hsx := hx.sq (p := p) h1 h2
    obtain ⟨k, hk⟩ := hp.fld.iv_of_Iv hI2
    have hl : (tab a.length a.length g).length = a.length := tab_length _ _ _
    have hk' : hp.fld.iv (tab a.length a.length g).length (en (tab a.length a.length g)) = some k := by rw [hl]; exact hk
    rw [invR_some hp hsx hk', hl]
    congr 1
    have hu := (hp.fld.iv_some (hx.bd hp) hk).uniq hp.fld (hm.bd hp) fun i j hi hj => hI2.r i j hi hj
    conv => rhs; rw [hm.eq_tab]
    exact tab_congr fun i j hi hj => (hu i j hi hj).symm
  · rw [rankR_sq hp hsq, hp.fld.rk_iv (by rw [hg]; rfl)]
theorem prod_inv {a b c : Mtx} (ha : sqM (some (wb, p)) a = true) (hb : sqM (some (wb, p)) b = true) (hc : mulM (some (wb, p)) a b = some c) :
    sqM (some (wb, p)) c = true ∧ (((invR hp a).1 ≠ 0 ∨ (invR hp b).1 ≠ 0) → (invR hp c).1 = 2) ∧ ((invR hp a).1 = 0 → (invR hp b).1 = 0 → ∃ z, invR hp c = (0, z) ∧ mulM (some (wb, p)) (invR hp b).2 (invR hp a).2 = some z) := by
  obtain ⟨hma, a1, a2, a3⟩ := sqM_Mx ha
  obtain ⟨hmb, b1, b2, b3⟩ := sqM_Mx hb
  obtain ⟨-, -, hw, -⟩ := mulM_inv hc
  have hl : b.length = a.length := by omega
  rw [hl] at hmb b1 b2
  rw [mulM_tab hp hma hmb ⟨a1, a2⟩ ⟨a1, a2⟩ ⟨a1, a2⟩] at hc
  obtain rfl := Option.some.inj hc
  have hbd := hp.fld.mm_bd a.length (en a) (en b)
  have hmc := mx_tab hp (n := a.length) (m := a.length) hbd
  have hlc : (tab a.length a.length (hp.fld.mm a.length (en a) (en b))).length = a.length := tab_length _ _ _
  have hsc := hmc.sq (p := p) a1 a2
  have hen : ∀ i j, i < a.length → j < a.length → en (tab a.length a.length (hp.fld.mm a.length (en a) (en b))) i j = hp.fld.mm a.length (en a) (en b) i j := fun i j hi hj => en_tab hi hj
  refine ⟨hsc, fun hno => ?_, fun h0 h0' => ?_⟩
  · refine Classical.byContradiction fun hc2 => ?_
    have hc0 : (invR hp (tab a.length a.length (hp.fld.mm a.length (en a) (en b)))).1 = 0 := Classical.byContradiction fun h => hc2 (by have := (inv_no hp hsc h).2; rw [show (tab a.length a.length fun i j => xsum a.length fun l => hp.fld.mul (en a i l) (en b l j)) = tab a.length a.length (hp.fld.mm a.length (en a) (en b)) from rfl, this])
    obtain ⟨g, -, hI, -⟩ := inv_reg hp hsc hc0
    rw [hlc] at hI
    obtain ⟨⟨x, hx⟩, ⟨y, hy⟩⟩ := Fld.Iv.of_mul hp.fld (hma.bd hp) (hmb.bd hp) (hI.congr hp.fld hbd fun i j hi hj => (hen i j hi hj).symm)
    rcases hno with h | h
    · rw [(inv_no hp ha h).1] at hx; cases hx
    · have := (inv_no hp hb h).1
      rw [hl, hy] at this; cases this
  · obtain ⟨x, -, hx, ex⟩ := inv_reg hp ha h0
    obtain ⟨y, -, hy, ey⟩ := inv_reg hp hb h0'
    rw [hl] at hy ey
    have hI := (hx.mul hp.fld hy).congr hp.fld (hmc.bd hp) hen
    obtain ⟨k, hk⟩ := hp.fld.iv_of_Iv hI
    have hu := (hp.fld.iv_some (hmc.bd hp) hk).uniq hp.fld hI.bd' fun i j hi hj => hI.r i j hi hj
    have hk' : hp.fld.iv (tab a.length a.length (hp.fld.mm a.length (en a) (en b))).length (en (tab a.length a.length (hp.fld.mm a.length (en a) (en b)))) = some k := by rw [hlc]; exact hk
    refine ⟨_, invR_some hp hsc hk', ?_⟩
    rw [ex, ey, tab_length]
    show mulM _ (tab a.length a.length y) (tab a.length a.length x) = _
    rw [mulM_tab hp (mx_tab hp hy.bd') (mx_tab hp hx.bd') ⟨a1, a2⟩ ⟨a1, a2⟩ ⟨a1, a2⟩]
    congr 1
    refine tab_congr fun i j hi hj => ?_
    rw [← hu i j hi hj]
    exact xsum_congr fun l hl => by rw [en_tab hi hl, en_tab hl hj]
theorem sol_back {a : Mtx} {x y : List Int} (ha : sqM (some (wb, p)) a = true) (hy : applyM (some (wb, p)) a x = some y) :
    ((invR hp a).1 ≠ 0 → solR hp a y = (2, []) ∧ invR hp a = (2, [])) ∧ ((invR hp a).1 = 0 → solR hp a y = (0, x) ∧ x.length = a.length) := by
  obtain ⟨hma, a1, a2, a3⟩ := sqM_Mx ha
  have hmul := applyM_mul.1 hy
  obtain ⟨n, m, k, h1, h2, hn, hm, hk, hM⟩ := mulM_some hp hmul
  have e1 : n = a.length := h1.1.symm
  subst e1
  have e2 : m = a.length := by rw [← h1.wid (by omega), a3]
  subst e2
  have hkx : x.length = a.length := by rw [← h2.1, colM_length]
  have hk1 : k = 1 := by
    rw [← h2.wid (by omega)]
    cases x with
    | nil => have := h2.1; simp [colM] at this; omega
    | cons z x => rfl
  subst hk1
  have hcy : Mx wb a.length 1 (colM y) := by rw [hM]; exact Mx.mul hp _ _
  have hyl : y.length = a.length := by rw [← hcy.1, colM_length]
  have hok : sqM (some (wb, p)) a = true ∧ y.length = a.length ∧ (∀ z ∈ y, inF (some (wb, p)) z = true) := ⟨ha, hyl, fun z hz => inF_some.2 ((hyl ▸ hcy).col_inv z hz)⟩
  refine ⟨fun h => ?_, fun h => ?_⟩
  · obtain ⟨-, he⟩ := inv_no hp ha h
    rw [solR_none hp hok h, he]; exact ⟨rfl, rfl⟩
  · refine ⟨?_, hkx⟩
    obtain ⟨u, e, -, hua, -, -⟩ := inv_back hp ha h
    rw [solR_some hp hok h, e]
    show (0, (applyM (some (wb, p)) u y).getD []) = _
    obtain ⟨z, z1, z2⟩ := apply_apply hp hua hy
    rw [z1]
    have hid : applyM (some (wb, p)) (idM a.length) x = some x := applyM_mul.2 (mulM_idl hp h2 ⟨a1, a2⟩ ⟨by omega, by omega⟩)
    rw [hid] at z2
    obtain rfl := Option.some.inj z2
    rfl
theorem en_take {a : Mtx} {k i j : Nat} (h : i < k) : en (a.take k) i j = en a i j := by
  unfold en
  simp [List.getD_eq_getElem?_getD, List.getElem?_take, h]
theorem en_app {a b : Mtx} {i j : Nat} (h : i < a.length) : en (a ++ b) i j = en a i j := by
  unfold en
  simp [List.getD_eq_getElem?_getD, List.getElem?_append_left h]
theorem en_app2 {a b : Mtx} {i j : Nat} : en (a ++ b) (a.length + i) j = en b i j := by
  unfold en
  simp [List.getD_eq_getElem?_getD, List.getElem?_append_right]
theorem rank_bd {a : Mtx} (h : mayM (some (wb, p)) a = true) : ∃ r : Nat, rankR hp a = ((r : Int), 0) ∧ r ≤ a.length ∧ r ≤ wid a := by
  obtain ⟨hm, -⟩ := mayM_Mx h
  have := hp.fld.rk_le (n := a.length) (c := wid a) (hm.bd hp)
  exact ⟨_, if_pos h, this.1, this.2⟩
theorem rank_twice {a : Mtx} (h : mayM (some (wb, p)) a = true) (h10 : a.length ≤ 10) : joinM (some (wb, p)) a a = some (a ++ a) ∧ rankR hp (a ++ a) = rankR hp a := by
  obtain ⟨hm, h1, h2, h3, h4⟩ := mayM_Mx h
  obtain ⟨b1, b2, b3, b4, b5⟩ := mayM_pos h
  have hw : wid (a ++ a) = wid a := by
    obtain ⟨r, hr⟩ : ∃ r, a[0]? = some r := ⟨_, List.getElem?_eq_getElem (by omega)⟩
    rw [wid_at hr, wid_at (r := r) (by rw [List.getElem?_append_left (by omega), hr])]
  have hmm : mayM (some (wb, p)) (a ++ a) = true := mayM_of (by simp; omega) (by simp; omega) (by omega) (by omega) fun r hr => by
    rw [hw]; exact b5 r (by simpa using hr)
  refine ⟨joinM_t h h rfl (by omega), ?_⟩
  unfold rankR
  rw [if_pos h, if_pos hmm, hw, List.length_append]
  have hm2 := (mayM_Mx hmm).1
  rw [hp.fld.rk_twice (f := en a) (hm.bd hp) (hm2.bd hp) (fun i hi j _ => en_app hi) (fun i hi j _ => en_app2)]
theorem rank_less {a : Mtx} (h : mayM (some (wb, p)) a = true) (h2 : 2 ≤ a.length) : ∃ r l : Nat, rankR hp a = ((r : Int), 0) ∧ rankR hp (a.take (a.length - 1)) = ((l : Int), 0) ∧ l ≤ r ∧ r ≤ l + 1 := by
  obtain ⟨hm, h1, h20, h3, h4⟩ := mayM_Mx h
  obtain ⟨b1, b2, b3, b4, b5⟩ := mayM_pos h
  have hl : (a.take (a.length - 1)).length = a.length - 1 := by simp
  have hw : wid (a.take (a.length - 1)) = wid a := by
    obtain ⟨r, hr⟩ : ∃ r, a[0]? = some r := ⟨_, List.getElem?_eq_getElem (by omega)⟩
    rw [wid_at hr, wid_at (r := r) (by rw [List.getElem?_take, if_pos (by omega), hr])]
  have hmm : mayM (some (wb, p)) (a.take (a.length - 1)) = true := mayM_of (by omega) (by omega) (by omega) (by omega) fun r hr => by
    rw [hw]; exact b5 r (List.mem_of_mem_take hr)
  have hr := hp.fld.rk_more (c := wid a) (n := a.length - 1) (hm.bd hp)
  rw [show a.length - 1 + 1 = a.length by omega] at hr
  refine ⟨_, _, if_pos h, ?_, hr⟩
  unfold rankR
  rw [if_pos hmm, hw, hl, hp.fld.rk_congr (g := en a) (fun i hi j _ => en_take hi)]
theorem sqM_of {a : Mtx} (h : mayM (some (wb, p)) a = true) (h2 : a.length = wid a) : sqM (some (wb, p)) a = true := by unfold sqM; rw [h, decide_eq_true h2]; rfl
end
/-- Are numbers all different, and below a bound? -/
def unl (l : List Int) (b : Int) : Bool := decide (l.Nodup ∧ ∀ x ∈ l, 0 ≤ x ∧ x < b)
theorem unl_no {l : List Int} {b : Int} (h : ¬ (l.Nodup ∧ ∀ x ∈ l, 0 ≤ x ∧ x < b)) : unl l b = false := decide_eq_false h
theorem nodup_no {l : List Int} {i k : Nat} {x : Int} (h : k < i) (hi : l[i]? = some x) (hk : l[k]? = some x) : ¬ l.Nodup := fun hn => by
  obtain ⟨h1, h2⟩ := List.getElem?_eq_some_iff.1 hi
  obtain ⟨h3, h4⟩ := List.getElem?_eq_some_iff.1 hk
  exact List.pairwise_iff_getElem.1 hn k i h3 h1 h (h4.trans h2.symm)
theorem nodup_snoc {l : List Int} {i : Nat} {x : Int} (h : (l.take i).Nodup) (hi : l[i]? = some x) (hx : ∀ y ∈ l.take i, y ≠ x) : (l.take (i + 1)).Nodup := by
  rw [take_snoc hi]
  refine List.pairwise_append.2 ⟨h, List.pairwise_singleton _ _, fun a ha b hb => ?_⟩
  obtain rfl : b = x := by simpa using hb
  exact hx a ha
theorem gpow_fld {wb p x n : Nat} (hp : Prm wb p) (hx : x < 2 ^ wb) : gpow (some (wb, p)) (x : Int) (n : Int) = (hp.fld.pow x n : Int) := by
  rw [gpow_in hx]; exact congrArg _ (fld_pow p hp.irrP x n).symm
/-- The rows of powers of some numbers. -/
def vtab {wb p : Nat} (hp : Prm wb p) (l : List Nat) : Tb := fun i k => hp.fld.pow (l.getD i 0) k
def vrows {wb p : Nat} (hp : Prm wb p) (l : List Nat) : Mtx := tab l.length l.length (vtab hp l)
theorem vrows_inv {wb p : Nat} (hp : Prm wb p) {l : List Nat} (h1 : 1 ≤ l.length) (h2 : l.length ≤ 20) (hl : ∀ x ∈ l, x < 256) : ((invR hp (vrows hp l)).1 = 0 ↔ unl (l.map fun (x : Nat) => (x : Int)) 256 = true) ∧ ((invR hp (vrows hp l)).1 = 0 ∨ (invR hp (vrows hp l)).1 = 2) := by
  have h16 := hp.size.1
  have hx : ∀ i, l.getD i 0 < 2 ^ hp.fld.w := fun i => by
    rw [hp.fld_w, List.getD_eq_getElem?_getD]
    cases hi : l[i]? with
    | none => simp; omega
    | some x => have := hl x (List.mem_of_getElem? hi); simp; omega
  have et : vrows hp l = tab l.length l.length fun i k => hp.fld.pow (l.getD i 0) k := rfl
  have hb : hp.fld.Bd fun i k => hp.fld.pow (l.getD i 0) k := fun i k => hp.fld.pow_lt _ _
  have hm : Mx wb l.length l.length (vrows hp l) := by rw [et]; exact mx_tab hp hb
  have hsq := hm.sq (p := p) h1 h2
  have hlen := hm.1
  have hen : ∀ i j, i < l.length → j < l.length → en (vrows hp l) i j = hp.fld.pow (l.getD i 0) j := fun i j hi hj => by rw [et]; exact en_tab hi hj
  have hiff := hp.fld.iv_congr (n := l.length) (hm.bd hp) hb hen
  have hcase : (invR hp (vrows hp l)).1 = 0 ∨ (invR hp (vrows hp l)).1 = 2 := by
    by_cases h : (invR hp (vrows hp l)).1 = 0
    · exact .inl h
    · rw [(inv_no hp hsq h).2]; exact .inr rfl
  refine ⟨⟨fun h => ?_, fun h => ?_⟩, hcase⟩
  · obtain ⟨g, hg, -⟩ := inv_reg hp hsq h
    rw [hlen] at hg
    rw [hg] at hiff
    refine decide_eq_true ⟨?_, fun x hx => ?_⟩
    · refine List.pairwise_iff_getElem.2 fun i j hi hj hij e => ?_
      have hjl : j < l.length := by simpa using hj
      simp only [List.getElem_map] at e
      have hn := hp.fld.iv_twice (n := l.length) hb (a := i) (b := j) (by omega) hjl (by omega) fun k _ => by
        rw [getD_of (show i < l.length by omega), getD_of hjl, show l[i] = l[j] by omega]
      rw [hn] at hiff
      cases hiff
    · obtain ⟨y, hy, rfl⟩ := List.mem_map.1 hx
      have := hl y hy
      exact ⟨by omega, by omega⟩
  · obtain ⟨hnd, -⟩ := of_decide_eq_true h
    obtain ⟨g, hg⟩ := hp.fld.vander (n := l.length) hx fun i j hi hj e => by
      refine Classical.byContradiction fun hne => ?_
      have key : ∀ a b, a < b → b < l.length → l.getD a 0 = l.getD b 0 → False := fun a b hab hb e => by
        refine List.pairwise_iff_getElem.1 hnd a b (by simp; omega) (by simpa using hb) hab ?_
        rw [getD_of (show a < l.length by omega), getD_of hb] at e
        simp [e]
      rcases Nat.lt_or_gt_of_ne hne with h' | h'
      · exact key i j h' hj e
      · exact key j i h' hi e.symm
    rw [hg] at hiff
    refine Classical.byContradiction fun h0 => ?_
    rw [← hlen, (inv_no hp hsq h0).1] at hiff
    cases hiff
/-! ### the smallest ones -/
theorem aw5_len (a b c d : Int) : ([[a, b], [c, d]] : Mtx).length ≤ maxLen ∧ ∀ r ∈ ([[a, b], [c, d]] : Mtx), r.length ≤ maxLen := by
  refine ⟨(by decide : (2 : Nat) ≤ maxLen), fun r hr => ?_⟩
  simp only [List.mem_cons, List.mem_nil_iff, or_false] at hr
  rcases hr with rfl | rfl <;> exact (by decide : (2 : Nat) ≤ maxLen)
theorem aw5_sq {a b c d : Int} (h : ∀ x ∈ [a, b, c, d], inF (some (8, 285)) x = true) : sqM (some (8, 285)) [[a, b], [c, d]] = true := by
  have hm : Mx 8 2 2 [[a, b], [c, d]] := ⟨rfl, fun r hr => by
    simp only [List.mem_cons, List.mem_nil_iff, or_false] at hr
    have h2 := fun x hx => inF_some.1 (h x hx)
    rcases hr with rfl | rfl
    · exact ⟨rfl, fun x hx => h2 x (by simp at hx ⊢; rcases hx with rfl | rfl <;> simp)⟩
    · exact ⟨rfl, fun x hx => h2 x (by simp at hx ⊢; rcases hx with rfl | rfl <;> simp)⟩⟩
  exact hm.sq (by decide) (by decide)
theorem aw5_no : invR prm_285 [[1, 1], [1, 1]] = (2, []) := by
  have hsq := aw5_sq (a := 1) (b := 1) (c := 1) (d := 1) (by decide)
  obtain ⟨hm, -⟩ := sqM_Mx hsq
  exact invR_none prm_285 hsq (prm_285.fld.iv_twice (n := 2) (hm.bd prm_285) (a := 0) (b := 1) (by decide) (by decide) (by decide) fun j hj => by
    match j, hj with
    | 0, _ => rfl
    | 1, _ => rfl)
theorem aw5_rank : rankR prm_285 [[1, 1], [1, 1]] = (1, 0) := by
  have hsq := aw5_sq (a := 1) (b := 1) (c := 1) (d := 1) (by decide)
  obtain ⟨hm, -⟩ := sqM_Mx hsq
  rw [rankR_sq prm_285 hsq]
  show (((prm_285.fld.rk 2 (en [[1, 1], [1, 1]]) 2 : Nat) : Int), (0 : Int)) = _
  have h1 : prm_285.fld.rk 2 (en [[1, 1], [1, 1]]) 2 < 2 := prm_285.fld.rk_sing (prm_285.fld.iv_twice (n := 2) (hm.bd prm_285) (a := 0) (b := 1) (by decide) (by decide) (by decide) fun j hj => by
    match j, hj with
    | 0, _ => rfl
    | 1, _ => rfl)
  have h2 := prm_285.fld.rk_pos (n := 2) (c := 2) (hm.bd prm_285) (i := 0) (j := 0) (by decide) (by decide) (show (1 : Nat) ≠ 0 by decide)
  rw [show prm_285.fld.rk 2 (en [[1, 1], [1, 1]]) 2 = 1 by omega]
  rfl
theorem aw5_inv : ∃ x, invR prm_285 [[1, 1], [1, 2]] = (0, x) ∧ x.length = 2 := by
  have hsq := aw5_sq (a := 1) (b := 1) (c := 1) (d := 2) (by decide)
  obtain ⟨hm, -⟩ := sqM_Mx hsq
  have e : ([[1, 1], [1, 2]] : Mtx) = vrows prm_285 [1, 2] := by
    have hv : ∀ i k : Nat, vtab prm_285 [1, 2] i k = prm_285.fld.pow ([1, 2].getD i 0) k := fun _ _ => rfl
    show _ = tab 2 2 (vtab prm_285 [1, 2])
    have h0 : ∀ x, prm_285.fld.pow x 0 = 1 := fun _ => rfl
    have h1 : prm_285.fld.pow 1 1 = 1 := prm_285.fld.pow_one 1 (by rw [prm_285.fld_w]; decide)
    have h2 : prm_285.fld.pow 2 1 = 2 := prm_285.fld.pow_one 2 (by rw [prm_285.fld_w]; decide)
    show _ = [[((prm_285.fld.pow 1 0 : Nat) : Int), ((prm_285.fld.pow 1 1 : Nat) : Int)], [((prm_285.fld.pow 2 0 : Nat) : Int), ((prm_285.fld.pow 2 1 : Nat) : Int)]]
    rw [h0, h1, h0, h2]
    rfl
  have h0 : (invR prm_285 [[1, 1], [1, 2]]).1 = 0 := by
    rw [e]
    exact (vrows_inv prm_285 (l := [1, 2]) (by decide) (by decide) (by decide)).1.2 (by decide)
  obtain ⟨g, -, -, h⟩ := inv_reg prm_285 hsq h0
  exact ⟨_, h, tab_length _ _ _⟩
end Go.Gam

/- Matrices of powers: what package vander tells; rows that are chosen. No program in sight. -/
set_option linter.unusedVariables false
set_option linter.unusedSimpArgs false
namespace Go.Gam
open Px

theorem gpow_nn {wb p : Nat} (hp : Prm wb p) (x n : Int) : 0 ≤ gpow (some (wb, p)) x n ∧ gpow (some (wb, p)) x n < ((2 ^ wb : Nat) : Int) := by
  have h0 := hp.size.1
  unfold gpow
  split
  · have := hp.pow_lt x.toNat n.toNat
    exact ⟨Int.natCast_nonneg _, by show ((Px.pow x.toNat p n.toNat : Nat) : Int) < _; omega⟩
  · exact ⟨by omega, by omega⟩
/-- Powers of the rows' numbers; of powers of 2. -/
def pwT (o : Fq) : Tb := fun i j => (gpow o (i : Int) (j : Int)).toNat
def isT (o : Fq) : Tb := fun i j => (gpow o (gpow o 2 (i : Int)) (j : Int)).toNat
def fitB (o : Fq) (k m : Int) : Bool := o.isSome && decide (1 ≤ k ∧ 1 ≤ m ∧ k < 20 ∧ m < 20 ∧ k + m ≤ 20)
def rawB (o : Fq) (k m : Int) : Bool := o.isSome && decide (1 ≤ k ∧ k ≤ 20 ∧ 1 ≤ m ∧ m ≤ 20)
def rawM (o : Fq) (k m : Int) : Option Mtx := if rawB o k m = true then some (tab k.toNat m.toNat (pwT o)) else none
def isalM (o : Fq) (k m : Int) : Option Mtx := if fitB o k m = true then some (tab m.toNat k.toNat (isT o)) else none
section
variable {wb p : Nat} (hp : Prm wb p)
def vinv (k : Nat) : Tb := (hp.fld.iv k fun i j => hp.fld.pow i j).getD I1
def sysT (k : Nat) : Tb := hp.fld.mm k (fun i j => hp.fld.pow i j) (vinv hp k)
def sysM (k m : Int) : Option Mtx := if fitB (some (wb, p)) k m = true then some (tab (k + m).toNat k.toNat (sysT hp k.toNat)) else none
theorem pwT_pow {i j : Nat} (hi : i < 256) : pwT (some (wb, p)) i j = hp.fld.pow i j := by
  unfold pwT
  have := hp.size.1
  rw [gpow_fld hp (by omega), Int.toNat_natCast]
theorem isT_pow {i j : Nat} : isT (some (wb, p)) i j = hp.fld.pow (hp.fld.pow 2 i) j := by
  unfold isT
  have := hp.size.1
  have h2 : hp.fld.pow 2 i < 2 ^ wb := by have := hp.fld.pow_lt 2 i; rwa [hp.fld_w] at this
  rw [show (2 : Int) = ((2 : Nat) : Int) from rfl, gpow_fld hp (by omega), gpow_fld hp h2, Int.toNat_natCast]
theorem vinv_ok {k : Nat} (hk : k ≤ 256) : hp.fld.iv k (fun i j => hp.fld.pow i j) = some (vinv hp k) ∧ hp.fld.Iv k (fun i j => hp.fld.pow i j) (vinv hp k) := by
  have h16 := hp.size.1
  have hb : hp.fld.Bd fun i j => hp.fld.pow i j := fun i j => hp.fld.pow_lt _ _
  obtain ⟨g, hg⟩ := hp.fld.vander (n := k) (x := fun i => if i < 256 then i else 0) (fun i => by rw [hp.fld_w]; split <;> omega) (fun i j hi hj e => by
    rw [if_pos (by omega), if_pos (by omega)] at e
    exact e)
  have hc := hp.fld.iv_congr (n := k) (f := fun i j => hp.fld.pow i j) (g := fun i k => hp.fld.pow (if i < 256 then i else 0) k) hb (fun i j => hp.fld.pow_lt _ _) fun i j hi _ => by rw [if_pos (by omega)]
  rw [hg] at hc
  obtain ⟨g', hg'⟩ := Option.isSome_iff_exists.1 hc
  have e : vinv hp k = g' := by unfold vinv; rw [hg']; rfl
  rw [e]
  exact ⟨hg', hp.fld.iv_some hb hg'⟩
theorem tab_take {n k m : Nat} {f : Tb} (h : k ≤ n) : (tab n m f).take k = tab k m f := by
  unfold tab
  rw [← List.map_take, List.take_range, Nat.min_eq_left h]
theorem tab_drop {n k m : Nat} {f : Tb} (h : k ≤ n) : (tab n m f).drop k = tab (n - k) m fun i j => f (k + i) j := by
  unfold tab
  apply List.ext_getElem?
  intro i
  rw [List.getElem?_drop, List.getElem?_map, List.getElem?_map]
  by_cases hi : i < n - k
  · rw [List.getElem?_range hi, List.getElem?_range (show k + i < n by omega)]; rfl
  · rw [List.getElem?_eq_none (by simp; omega), List.getElem?_eq_none (by simp; omega)]; rfl
/-- The first rows' inverse, as it is told. -/
theorem raw_inv {k : Nat} (h1 : 1 ≤ k) (h2 : k ≤ 20) : invR hp (tab k k (pwT (some (wb, p)))) = (0, tab k k (vinv hp k)) := by
  have e : tab k k (pwT (some (wb, p))) = tab k k fun i j => hp.fld.pow i j := tab_congr fun i j hi _ => pwT_pow hp (by omega)
  rw [e]
  have hb : hp.fld.Bd fun i j => hp.fld.pow i j := fun i j => hp.fld.pow_lt _ _
  have hm := mx_tab hp (n := k) (m := k) hb
  have hl : (tab k k fun i j => hp.fld.pow i j).length = k := tab_length _ _ _
  obtain ⟨hi, hI⟩ := vinv_ok hp (k := k) (by omega)
  have hI2 := hI.congr hp.fld (hm.bd hp) fun i j hi hj => (en_tab hi hj : en (tab k k fun i j => hp.fld.pow i j) i j = _)
  obtain ⟨g, hg⟩ := hp.fld.iv_of_Iv hI2
  have hu := (hp.fld.iv_some (hm.bd hp) hg).uniq hp.fld hI.bd' fun i j hi hj => hI2.r i j hi hj
  rw [invR_some hp (hm.sq h1 h2) (g := g) (by rw [hl]; exact hg), hl]
  congr 1
  exact tab_congr fun i j hi hj => (hu i j hi hj).symm
theorem sys_mul {k m : Nat} (h1 : 1 ≤ k) (h2 : 1 ≤ m) (h3 : k + m ≤ 20) : mulM (some (wb, p)) (tab (k + m) k (pwT (some (wb, p)))) (tab k k (vinv hp k)) = some (tab (k + m) k (sysT hp k)) := by
  have hb : hp.fld.Bd fun i j => hp.fld.pow i j := fun i j => hp.fld.pow_lt _ _
  have e : tab (k + m) k (pwT (some (wb, p))) = tab (k + m) k fun i j => hp.fld.pow i j := tab_congr fun i j hi _ => pwT_pow hp (by omega)
  rw [e, mulM_tab hp (mx_tab hp hb) (mx_tab hp (vinv_ok hp (show k ≤ 256 by omega)).2.bd') ⟨by omega, by omega⟩ ⟨h1, by omega⟩ ⟨h1, by omega⟩]
  congr 1
  exact tab_congr fun i j hi hj => xsum_congr fun l hl => by rw [en_tab hi hl, en_tab hl hj]
end

/-! ### rows chosen -/
/-- What is chosen so far; which ones that are, bit by bit; where. -/
def stC (rows step : Nat) (s : List Nat × Nat × Nat) : List Nat × Nat × Nat :=
  let o := if s.2.1.testBit s.2.2 then s.1 else s.1 ++ [s.2.2]
  let b := if s.2.1.testBit s.2.2 then s.2.1 else s.2.1 ||| 1 <<< s.2.2
  let a := (s.2.2 + step) % rows
  (o, b, if b.testBit a then (a + 1) % rows else a)
def chS (rows step at0 : Nat) : Nat → List Nat × Nat × Nat
  | 0 => ([], 0, at0)
  | i + 1 => stC rows step (chS rows step at0 i)
def chI (rows step : Nat) : Nat → List Nat × Nat × Nat → List Nat × Nat × Nat
  | 0, s => s
  | i + 1, s => chI rows step i (stC rows step s)
theorem chI_st (rows step : Nat) : ∀ i s, chI rows step (i + 1) s = stC rows step (chI rows step i s)
  | 0, _ => rfl
  | i + 1, s => by rw [chI, chI_st rows step i, chI]
theorem chS_I (rows step at0 : Nat) : ∀ i, chS rows step at0 i = chI rows step i ([], 0, at0)
  | 0 => rfl
  | i + 1 => by rw [chS, chS_I rows step at0 i, ← chI_st]
/-- How many are chosen. -/
def chN (rows step : Nat) : Nat → Nat → Nat → Nat → Nat
  | 0, n, _, _ => n
  | i + 1, n, b, t =>
    bif Nat.beq ((b >>> t) % 2) 1 then
      (bif Nat.beq ((b >>> ((t + step) % rows)) % 2) 1 then chN rows step i n b (((t + step) % rows + 1) % rows) else chN rows step i n b ((t + step) % rows))
    else
      (bif Nat.beq (((b ||| 1 <<< t) >>> ((t + step) % rows)) % 2) 1 then chN rows step i (n + 1) (b ||| 1 <<< t) (((t + step) % rows + 1) % rows) else chN rows step i (n + 1) (b ||| 1 <<< t) ((t + step) % rows))
theorem beq_bit (b t : Nat) : Nat.beq ((b >>> t) % 2) 1 = b.testBit t := by
  rw [Nat.testBit_eq_decide_div_mod_eq, Nat.shiftRight_eq_div_pow]
  rw [Bool.eq_iff_iff, decide_eq_true_iff, Nat.beq_eq]
theorem chN_I (rows step : Nat) : ∀ i s, chN rows step i s.1.length s.2.1 s.2.2 = (chI rows step i s).1.length
  | 0, _ => rfl
  | i + 1, s => by
    rw [chI, ← chN_I rows step i, chN, beq_bit, beq_bit, beq_bit]
    unfold stC
    cases h : s.2.1.testBit s.2.2 with
    | true =>
      simp only [cond_true, if_true]
      cases h2 : s.2.1.testBit ((s.2.2 + step) % rows) <;> simp only [cond_true, cond_false, if_true, if_false, Bool.false_eq_true]
    | false =>
      simp only [cond_false, Bool.false_eq_true, if_false, List.length_append, List.length_singleton]
      cases h2 : (s.2.1 ||| 1 <<< s.2.2).testBit ((s.2.2 + step) % rows) <;> simp only [cond_true, cond_false, if_true, if_false, Bool.false_eq_true]
def chOk : Bool := (List.range 21).all fun rows => (List.range rows).all fun t => (List.range rows).all fun step => Nat.ble (rows - 1) (chN rows step (2 * rows) 0 0 t)
theorem chOk_t : chOk = true := by decide +kernel
/-- As many as are asked for are chosen. -/
theorem chS_many {rows step t : Nat} (h : rows ≤ 20) (ht : t < rows) : rows - 1 ≤ (chS rows (step % rows) t (2 * rows)).1.length := by
  have h1 := chOk_t
  unfold chOk at h1
  rw [List.all_eq_true] at h1
  have h2 := h1 rows (List.mem_range.2 (by omega))
  rw [List.all_eq_true] at h2
  have h3 := h2 t (List.mem_range.2 ht)
  rw [List.all_eq_true] at h3
  have h4 := h3 (step % rows) (List.mem_range.2 (Nat.mod_lt _ (by omega)))
  rw [chS_I, ← chN_I]
  exact Nat.le_of_ble_eq_true h4
theorem chS_at {rows step t : Nat} (h : 0 < rows) (ht : t < rows) : ∀ i, (chS rows step t i).2.2 < rows
  | 0 => ht
  | i + 1 => by
    show (stC _ _ _).2.2 < rows
    unfold stC
    dsimp only
    split <;> (try split) <;> exact Nat.mod_lt _ h
/-- What is known of the rows that are chosen. -/
theorem chS_ok {rows step t : Nat} (h : 0 < rows) (ht : t < rows) : ∀ i, (chS rows step t i).1.Nodup ∧ ∀ x, (x ∈ (chS rows step t i).1 ↔ (chS rows step t i).2.1.testBit x = true) ∧ (x ∈ (chS rows step t i).1 → x < rows)
  | 0 => ⟨List.nodup_nil, fun x => by simp [chS]⟩
  | i + 1 => by
    obtain ⟨h1, h2⟩ := chS_ok (step := step) h ht i
    have h3 := chS_at (step := step) h ht i
    show (stC _ _ _).1.Nodup ∧ ∀ x, (x ∈ (stC _ _ _).1 ↔ (stC _ _ _).2.1.testBit x = true) ∧ (x ∈ (stC _ _ _).1 → x < rows)
    generalize chS rows step t i = s at *
    unfold stC
    dsimp only
    cases hb : s.2.1.testBit s.2.2 with
    | true => simp only [if_true]; exact ⟨h1, h2⟩
    | false =>
      simp only [Bool.false_eq_true, if_false]
      have hni : s.2.2 ∉ s.1 := fun hm => by rw [(h2 _).1.1 hm] at hb; cases hb
      refine ⟨List.pairwise_append.2 ⟨h1, List.pairwise_singleton _ _, fun a ha b hb' => ?_⟩, fun x => ⟨?_, fun hx => ?_⟩⟩
      · obtain rfl : b = s.2.2 := by simpa using hb'
        exact fun e => hni (e ▸ ha)
      · rw [List.mem_append, Nat.testBit_or, Bool.or_eq_true, (h2 x).1, Nat.one_shiftLeft, Nat.testBit_two_pow]
        simp only [List.mem_singleton, decide_eq_true_iff]
        exact ⟨fun h => h.imp id Eq.symm, fun h => h.imp id Eq.symm⟩
      · rcases List.mem_append.1 hx with hx | hx
        · exact (h2 x).2 hx
        · obtain rfl : x = s.2.2 := by simpa using hx
          exact h3
def bls (b : Nat) : List Value := (List.range 20).map fun x => .bool (b.testBit x)
@[simp] theorem bls_length (b : Nat) : (bls b).length = 20 := by simp [bls]
theorem bls_zero : List.replicate 20 (Value.bool false) = bls 0 := by simp [bls]; rfl
theorem bls_at {b x : Nat} (h : x < 20) : (bls b)[x]? = some (.bool (b.testBit x)) := by simp [bls, h]
theorem bls_set {b x : Nat} (h : x < 20) : (bls b).set x (.bool true) = bls (b ||| 1 <<< x) := by
  apply List.ext_getElem?
  intro l
  by_cases hl : l < 20
  · rw [bls_at hl, List.getElem?_set]
    by_cases e : x = l
    · subst e
      rw [if_pos rfl, if_pos (by simpa using h), Nat.testBit_or, Nat.one_shiftLeft, Nat.testBit_two_pow]
      simp
    · rw [if_neg e, bls_at hl, Nat.testBit_or, Nat.one_shiftLeft, Nat.testBit_two_pow]
      simp [e]
  · rw [List.getElem?_eq_none (by simp; omega), List.getElem?_eq_none (by simp; omega)]
theorem Fo.ptr {D : FD} {B : Nat} {w : World} {v : Value} {o : Fq} (h : Fo D B w v o) : ∃ a, v = .pointer a ∧ a.isSome = o.isSome := by
  cases o with
  | none => exact ⟨none, h, rfl⟩
  | some q => obtain ⟨-, k, rfl, -⟩ := h; exact ⟨_, rfl, rfl⟩
theorem rawM_no {o : Fq} {k m : Int} (h : rawB o k m = false) : rawM o k m = none := by unfold rawM; rw [h]; rfl
theorem isalM_no {o : Fq} {k m : Int} (h : fitB o k m = false) : isalM o k m = none := by unfold isalM; rw [h]; rfl
theorem fitB_iff {o : Fq} {k m : Int} : fitB o k m = true ↔ o.isSome = true ∧ 1 ≤ k ∧ 1 ≤ m ∧ k < 20 ∧ m < 20 ∧ k + m ≤ 20 := by unfold fitB; rw [Bool.and_eq_true, decide_eq_true_iff]
theorem fitB_none (k m : Int) : fitB none k m = false := rfl
theorem pwT_nn {o : Fq} (h : ∀ wb p, o = some (wb, p) → Prm wb p) (x n : Int) : ((gpow o x n).toNat : Int) = gpow o x n := by
  cases o with
  | none => unfold gpow; split <;> simp [fpow]
  | some q => obtain ⟨wb, p⟩ := q; have := gpow_nn (h wb p rfl) x n; omega
theorem Fo.prms {D : FD} {B : Nat} {w : World} {v : Value} {o : Fq} (h : Fo D B w v o) : ∀ wb p, o = some (wb, p) → Prm wb p := fun wb p e => by subst e; exact h.1
end Go.Gam

/- Rows of the identity with other rows behind it: which of them, as many as columns, have an inverse; minors. No program in sight. -/
set_option linter.unusedVariables false
set_option linter.unusedSimpArgs false
namespace Go.Gam
open Px

/-! ### sums over a list -/
def xsumL : List Nat → (Nat → Nat) → Nat
  | [], _ => 0
  | j :: r, f => f j ^^^ xsumL r f
theorem xsumL_app (f : Nat → Nat) : ∀ (a b : List Nat), xsumL (a ++ b) f = xsumL a f ^^^ xsumL b f
  | [], b => by simp [xsumL]
  | j :: r, b => by rw [List.cons_append, xsumL, xsumL_app f r b, xsumL, Nat.xor_assoc]
theorem xsumL_range (f : Nat → Nat) : ∀ n, xsumL (List.range n) f = xsum n f
  | 0 => rfl
  | n + 1 => by rw [List.range_succ, xsumL_app, xsumL_range f n, xsum]; simp [xsumL]
theorem xsumL_filter {f : Nat → Nat} {p : Nat → Bool} : ∀ {L : List Nat}, (∀ j ∈ L, p j = false → f j = 0) → xsumL L f = xsumL (L.filter p) f
  | [], _ => rfl
  | j :: r, h => by
    have ih := xsumL_filter (L := r) fun j hj => h j (List.mem_cons_of_mem _ hj)
    cases hp : p j with
    | true => rw [List.filter_cons_of_pos hp, xsumL, xsumL, ih]
    | false => rw [List.filter_cons_of_neg (by simp [hp]), xsumL, ih, h j (List.mem_cons_self ..) hp, Nat.zero_xor]
theorem xsumL_len (f : Nat → Nat) : ∀ J : List Nat, xsumL J f = xsum J.length fun b => f (J.getD b 0)
  | [] => rfl
  | j :: r => by
    rw [xsumL, xsumL_len f r, List.length_cons, Nat.add_comm r.length 1, xsum_add]
    congr 1
    · show f j = 0 ^^^ f j; rw [Nat.zero_xor]
    · exact xsum_congr fun i _ => by rw [Nat.add_comm 1 i]; rfl
theorem sub_len {a b : List Nat} (ha : a.Nodup) (h : ∀ x ∈ a, x ∈ b) : a.length ≤ b.length := by
  by_cases hl : b.length ≤ a.length
  · exact Nat.le_of_eq (Fld.perm_of_sub a b ha h hl).length_eq
  · omega
theorem filter_two {α : Type} (p : α → Bool) : ∀ l : List α, (l.filter p).length + (l.filter fun x => !p x).length = l.length
  | [] => rfl
  | x :: r => by
    have ih := filter_two p r
    cases h : p x <;> simp [h] <;> omega

/-! ### minors -/
/-- The rows behind the identity that are chosen; the columns that no chosen row of the identity has. -/
def parR (k : Nat) (l : List Nat) : List Nat := (l.filter fun x => decide (k ≤ x)).map (· - k)
def misJ (k : Nat) (l : List Nat) : List Nat := (List.range k).filter fun j => !decide (j ∈ l)
theorem par_mis {k : Nat} {l : List Nat} (hl : l.length = k) (hn : l.Nodup) : (parR k l).length = (misJ k l).length := by
  have h1 := filter_two (fun x => decide (k ≤ x)) l
  have h2 := filter_two (fun j => decide (j ∈ l)) (List.range k)
  have e : (l.filter fun x => !decide (k ≤ x)).length = ((List.range k).filter fun j => decide (j ∈ l)).length := by
    apply Nat.le_antisymm
    · exact sub_len (hn.filter _) fun x hx => by
        simp only [List.mem_filter, Bool.not_eq_true', decide_eq_false_iff_not] at hx
        simp only [List.mem_filter, List.mem_range, decide_eq_true_iff]
        exact ⟨by omega, hx.1⟩
    · exact sub_len (List.nodup_range.filter _) fun x hx => by
        simp only [List.mem_filter, List.mem_range, decide_eq_true_iff] at hx
        simp only [List.mem_filter, Bool.not_eq_true', decide_eq_false_iff_not]
        exact ⟨hx.2, by omega⟩
  unfold parR misJ
  rw [List.length_map]
  rw [List.length_range] at h2
  omega
theorem parR_nodup {k : Nat} {l : List Nat} (hn : l.Nodup) : (parR k l).Nodup := by
  refine List.Pairwise.map _ (R := fun a b => k ≤ a ∧ k ≤ b ∧ a ≠ b) (fun a b h e => h.2.2 (by omega)) ?_
  refine List.Pairwise.imp_of_mem (fun ha hb hne => ?_) (hn.filter _)
  simp only [List.mem_filter, decide_eq_true_iff] at ha hb
  exact ⟨ha.2, hb.2, hne⟩
theorem misJ_nodup (k : Nat) (l : List Nat) : (misJ k l).Nodup := List.nodup_range.filter _
theorem parR_lt {k m : Nat} {l : List Nat} (h : ∀ x ∈ l, x < k + m) : ∀ r ∈ parR k l, r < m := fun r hr => by
  obtain ⟨x, hx, rfl⟩ := List.mem_map.1 hr
  simp only [List.mem_filter, decide_eq_true_iff] at hx
  have := h x hx.1
  omega
theorem misJ_lt {k : Nat} {l : List Nat} : ∀ j ∈ misJ k l, j < k := fun j hj => List.mem_range.1 (List.mem_filter.1 hj).1
def mnr (C : Tb) (R J : List Nat) : Tb := fun a b => C (R.getD a 0) (J.getD b 0)
/-- The identity's k rows, with others behind it. -/
def beh (k : Nat) (C : Tb) : Tb := fun i j => if i < k then I1 i j else C (i - k) j
namespace Fld
variable (F : Fld)
theorem mnr_bd {C : Tb} (h : F.Bd C) (R J : List Nat) : F.Bd (mnr C R J) := fun a b => h _ _
theorem beh_bd {k : Nat} {C : Tb} (h : F.Bd C) : F.Bd (beh k C) := fun i j => by unfold beh; split; exact F.I1_bd _ _; exact h _ _
theorem getD_mem {L : List Nat} {i : Nat} (h : i < L.length) : L.getD i 0 ∈ L := by rw [getD_of h]; exact List.getElem_mem h
theorem row_par {k : Nat} {C : Tb} {l : List Nat} {y : Nat → Nat} (hy : ∀ j, j < k → j ∈ l → y j = 0) (r : Nat) :
    (xsum k fun j => F.mul (C r j) (y j)) = xsum (misJ k l).length fun b => F.mul (C r ((misJ k l).getD b 0)) (y ((misJ k l).getD b 0)) := by
  rw [← xsumL_range, xsumL_filter (p := fun j => !decide (j ∈ l)) (fun j hj hp => by
    rw [hy j (List.mem_range.1 hj) (by simpa using hp), F.mul_zero])]
  exact xsumL_len _ _
/-- Chosen rows have an inverse, if the minor that they leave has. -/
theorem mds_of {k m : Nat} {C : Tb} {l : List Nat} (hC : F.Bd C) (hl : l.length = k) (hn : l.Nodup) (h : (F.iv (parR k l).length (mnr C (parR k l) (misJ k l))).isSome = true) :
    ∃ g, F.iv k (fun i j => beh k C (l.getD i 0) j) = some g := by
  obtain ⟨g, hg⟩ := Option.isSome_iff_exists.1 h
  have hI := F.iv_some (F.mnr_bd hC _ _) hg
  have hlen := par_mis hl hn
  refine F.iv_ofR (fun i j => F.beh_bd hC _ _) fun y h1 h2 => ?_
  have hin : ∀ x ∈ l, (xsum k fun j => F.mul (beh k C x j) (y j)) = 0 := fun x hx => by
    obtain ⟨i, hi⟩ := List.getElem?_of_mem hx
    have hil := (List.getElem?_eq_some_iff.1 hi).1
    have := h2 i (by omega)
    rw [List.getD_eq_getElem?_getD, hi] at this
    exact this
  have hid : ∀ j, j < k → j ∈ l → y j = 0 := fun j hj hjl => by
    have := hin j hjl
    rw [xsum_congr (g := fun s => F.mul (I1 j s) (y s)) fun s _ => by unfold beh; rw [if_pos hj]] at this
    have e := F.mm_idl (n := k) (f := fun s _ => y s) (i := j) (j := 0) hj (h1 j)
    unfold mm at e
    rw [← e]; exact this
  have hz : ∀ b, b < (parR k l).length → y ((misJ k l).getD b 0) = 0 := by
    refine hI.right F (y := fun b => y ((misJ k l).getD b 0)) (fun b => h1 _) fun a ha => ?_
    have hr := getD_mem ha
    obtain ⟨x, hx, hxe⟩ := List.mem_map.1 hr
    simp only [List.mem_filter, decide_eq_true_iff] at hx
    have := hin x hx.1
    rw [xsum_congr (g := fun s => F.mul (C (x - k) s) (y s)) fun s _ => by unfold beh; rw [if_neg (by omega)], F.row_par hid, ← hlen] at this
    unfold mnr
    rw [← hxe]
    exact this
  intro j hj
  by_cases hjl : j ∈ l
  · exact hid j hj hjl
  · have hm : j ∈ misJ k l := List.mem_filter.2 ⟨List.mem_range.2 hj, by simpa using hjl⟩
    obtain ⟨b, hb⟩ := List.getElem?_of_mem hm
    have hbl := (List.getElem?_eq_some_iff.1 hb).1
    have := hz b (by omega)
    rw [List.getD_eq_getElem?_getD, hb] at this
    exact this
/-- And the other way. -/
theorem mds_to {k m : Nat} {C : Tb} {l : List Nat} (hC : F.Bd C) (hl : l.length = k) (hn : l.Nodup) (h : (F.iv k (fun i j => beh k C (l.getD i 0) j)).isSome = true) :
    ∃ g, F.iv (parR k l).length (mnr C (parR k l) (misJ k l)) = some g := by
  obtain ⟨g, hg⟩ := Option.isSome_iff_exists.1 h
  have hI := F.iv_some (fun i j => F.beh_bd hC _ _) hg
  have hlen := par_mis hl hn
  refine F.iv_ofR (F.mnr_bd hC _ _) fun z h1 h2 => ?_
  let y : Nat → Nat := fun j => if j ∈ misJ k l then z ((misJ k l).idxOf j) else 0
  have hyb : ∀ j, y j < 2 ^ F.w := fun j => by
    show (if _ then _ else _) < _
    split
    · exact h1 _
    · exact F.zero_lt
  have hid : ∀ j, j < k → j ∈ l → y j = 0 := fun j hj hjl => if_neg fun hm => by
    have := (List.mem_filter.1 hm).2
    simp [hjl] at this
  have hyz : ∀ b, b < (misJ k l).length → y ((misJ k l).getD b 0) = z b := fun b hb => by
    show (if _ then _ else _) = _
    rw [if_pos (getD_mem hb), getD_of hb, List.Nodup.idxOf_getElem (misJ_nodup k l) b hb]
  have hy0 := hI.right F hyb fun i hi => by
    have hx := getD_mem (L := l) (i := i) (by omega)
    generalize l.getD i 0 = x at hx
    by_cases hxk : x < k
    · rw [xsum_congr (g := fun s => F.mul (I1 x s) (y s)) fun s _ => by unfold beh; rw [if_pos hxk]]
      have e := F.mm_idl (n := k) (f := fun s _ => y s) (i := x) (j := 0) hxk (hyb x)
      unfold mm at e
      rw [e]; exact hid x hxk hx
    · rw [xsum_congr (g := fun s => F.mul (C (x - k) s) (y s)) fun s _ => by unfold beh; rw [if_neg hxk], F.row_par hid]
      have hxp : x - k ∈ parR k l := List.mem_map.2 ⟨x, List.mem_filter.2 ⟨hx, by simpa using hxk⟩, rfl⟩
      obtain ⟨a, ha⟩ := List.getElem?_of_mem hxp
      have hal := (List.getElem?_eq_some_iff.1 ha).1
      have := h2 a hal
      unfold mnr at this
      rw [List.getD_eq_getElem?_getD, ha, hlen] at this
      exact Eq.trans (xsum_congr fun b hb => by rw [hyz b hb]; rfl) this
  intro b hb
  rw [← hyz b (by omega)]
  exact hy0 _ (misJ_lt _ (getD_mem (by omega)))

/-! ### rows of powers, columns for rows -/
theorem pow_tr {r : Nat} {x z : Nat → Nat} (hx : ∀ b, x b < 2 ^ F.w) (hu : ∀ a b, a < r → b < r → x a = x b → a = b) (hz : ∀ b, z b < 2 ^ F.w) (h : ∀ e, e < r → (xsum r fun b => F.mul (F.pow (x b) e) (z b)) = 0) : ∀ b, b < r → z b = 0 := by
  obtain ⟨g, hg⟩ := F.vander hx hu
  have hI := F.iv_some (fun i j => F.pow_lt _ _) hg
  exact hI.left F hz fun e he => by rw [← h e he]; exact xsum_congr fun b _ => F.comm _ _
theorem sq_inj {a b : Nat} (ha : a < 2 ^ F.w) (hb : b < 2 ^ F.w) (h : F.mul a a = F.mul b b) : a = b := by
  have h1 := F.sq_xor a b
  rw [h, Nat.xor_self] at h1
  rcases F.nzd _ _ (Px.xor_lt ha hb) (Px.xor_lt ha hb) h1 with h2 | h2 <;> exact Px.xor_eq_zero h2
theorem pow_two (a : Nat) (h : a < 2 ^ F.w) : F.pow a 2 = F.mul a a := by rw [show 2 = 1 + 1 from rfl, F.pow_add, F.pow_one a h]
/-- Three rows at most of powers of unlike numbers, the first three: any of them, of as many columns. -/
theorem three {R J : List Nat} {x : Nat → Nat} (hx : ∀ j, x j < 2 ^ F.w) (hx0 : ∀ j ∈ J, x j ≠ 0) (hu : ∀ i ∈ J, ∀ j ∈ J, x i = x j → i = j) (hR : R.Nodup) (hR3 : ∀ e ∈ R, e < 3) (hJ : J.Nodup) (hl : R.length = J.length) :
    ∃ g, F.iv R.length (mnr (fun i j => F.pow (x j) i) R J) = some g := by
  refine F.iv_ofR (fun a b => F.pow_lt _ _) fun z hz h => ?_
  have hrow : ∀ e ∈ R, (xsum R.length fun b => F.mul (F.pow (x (J.getD b 0)) e) (z b)) = 0 := fun e he => by
    obtain ⟨a, ha⟩ := List.getElem?_of_mem he
    have := h a (List.getElem?_eq_some_iff.1 ha).1
    unfold mnr at this
    rw [List.getD_eq_getElem?_getD, ha] at this
    exact this
  have hJu : ∀ a b, a < R.length → b < R.length → x (J.getD a 0) = x (J.getD b 0) → a = b := fun a b ha hb e => by
    have h1 := hu _ (getD_mem (L := J) (by omega)) _ (getD_mem (L := J) (by omega)) e
    rw [getD_of (show a < J.length by omega), getD_of (show b < J.length by omega)] at h1
    refine Classical.byContradiction fun hne => ?_
    rcases Nat.lt_or_gt_of_ne hne with h' | h'
    · exact List.pairwise_iff_getElem.1 hJ a b _ _ h' h1
    · exact List.pairwise_iff_getElem.1 hJ b a _ _ h' h1.symm
  have hJ0 : ∀ b, b < R.length → x (J.getD b 0) ≠ 0 := fun b hb => hx0 _ (getD_mem (by omega))
  generalize hX : (fun b => x (J.getD b 0)) = X
  have hXe : ∀ b, x (J.getD b 0) = X b := fun b => by rw [← hX]
  have hXb : ∀ b, X b < 2 ^ F.w := fun b => by rw [← hXe]; exact hx _
  simp only [hXe] at hrow hJu hJ0
  clear hX hXe hl h
  -- all rows from 0 on
  have full : (∀ e, e < R.length → e ∈ R) → ∀ b, b < R.length → z b = 0 := fun hf => F.pow_tr hXb hJu hz fun e he => hrow e (hf e he)
  match R, hR, hR3, hrow, hJu, hJ0, full with
  | [], _, _, _, _, _, _ => intro b hb; simp at hb
  | [e], _, _, hrow, _, hJ0, _ =>
    intro b hb
    have hb0 : b = 0 := by simpa using hb
    subst hb0
    have h1 := hrow e (by simp)
    simp only [List.length_singleton, xsum, Nat.zero_xor] at h1
    rcases F.nzd _ _ (F.pow_lt _ _) (hz 0) h1 with h2 | h2
    · exact absurd h2 (F.pow_ne (hXb 0) (hJ0 0 (by simp)) e)
    · exact h2
  | [e, f], hR, hR3, hrow, hJu, hJ0, full =>
    have hef : e ≠ f := by simpa using hR
    have he := hR3 e (by simp)
    have hf := hR3 f (by simp)
    have cases3 : (0 ∈ [e, f] ∧ 1 ∈ [e, f]) ∨ (0 ∈ [e, f] ∧ 2 ∈ [e, f]) ∨ (1 ∈ [e, f] ∧ 2 ∈ [e, f]) := by
      simp only [List.mem_cons, List.mem_nil_iff, or_false]; omega
    rcases cases3 with ⟨h0, h1⟩ | ⟨h0, h1⟩ | ⟨h0, h1⟩
    · exact full fun s hs => by
        have : s = 0 ∨ s = 1 := by simp at hs; omega
        rcases this with rfl | rfl
        · exact h0
        · exact h1
    · refine F.pow_tr (x := fun b => F.mul (X b) (X b)) (fun b => F.lt _ _) (fun a b ha hb h => hJu a b ha hb (F.sq_inj (hXb a) (hXb b) h)) hz fun s hs => ?_
      have : s = 0 ∨ s = 1 := by simp at hs; omega
      rcases this with rfl | rfl
      · exact hrow 0 h0
      · exact Eq.trans (xsum_congr fun b _ => by rw [F.pow_one _ (F.lt _ _), F.pow_two _ (hXb b)]) (hrow 2 h1)
    · have := F.pow_tr (x := X) (z := fun b => F.mul (X b) (z b)) hXb hJu (fun b => F.lt _ _) fun s hs => by
        have : s = 0 ∨ s = 1 := by simp at hs; omega
        rcases this with rfl | rfl
        · exact Eq.trans (xsum_congr fun b _ => by rw [F.pow_one _ (hXb b)]; exact F.one _ (F.lt _ _)) (hrow 1 h0)
        · exact Eq.trans (xsum_congr fun b _ => by rw [F.pow_one _ (hXb b), F.pow_two _ (hXb b), F.assoc]) (hrow 2 h1)
      intro b hb
      rcases F.nzd _ _ (hXb b) (hz b) (this b hb) with h2 | h2
      · exact absurd h2 (hJ0 b hb)
      · exact h2
  | [e, f, g], hR, hR3, _, _, _, full =>
    have he := hR3 e (by simp)
    have hf := hR3 f (by simp)
    have hg := hR3 g (by simp)
    simp at hR
    exact full fun s hs => by
      have : s = 0 ∨ s = 1 ∨ s = 2 := by simp at hs; omega
      simp only [List.mem_cons, List.mem_nil_iff, or_false]
      omega
  | e :: f :: g :: i :: r, hR, hR3, _, _, _, _ =>
    have he := hR3 e (by simp)
    have hf := hR3 f (by simp)
    have hg := hR3 g (by simp)
    have hi := hR3 i (by simp)
    simp at hR
    omega
end Fld
end Go.Gam

/- What the statements of layer 6 ask of matrices of powers. No program in sight. -/
set_option linter.unusedVariables false
set_option linter.unusedSimpArgs false
namespace Go.Gam
open Px

def casts (l : List Nat) : List Int := l.map fun (x : Nat) => (x : Int)
theorem casts_length (l : List Nat) : (casts l).length = l.length := by simp [casts]
section
variable {wb p : Nat} (hp : Prm wb p)
theorem tab_lens {n m : Nat} {f : Tb} (hn : n ≤ 20) (hm : m ≤ 20) : (tab n m f).length ≤ 20 ∧ ∀ r ∈ tab n m f, r.length ≤ 20 :=
  ⟨by rw [tab_length]; exact hn, fun r hr => by obtain ⟨i, _, rfl⟩ := List.mem_map.1 hr; simpa using hm⟩
theorem inv0 {k : Nat} {f : Tb} (hb : hp.fld.Bd f) (h1 : 1 ≤ k) (h2 : k ≤ 20) (h : ∃ g, hp.fld.iv k f = some g) : (invR hp (tab k k f)).1 = 0 := by
  have hm := mx_tab hp (n := k) (m := k) hb
  have hl : (tab k k f).length = k := tab_length _ _ _
  obtain ⟨g, hg⟩ := h
  have hc := hp.fld.iv_congr (n := k) (hm.bd hp) hb fun i j hi hj => (en_tab hi hj : en (tab k k f) i j = f i j)
  rw [hg] at hc
  obtain ⟨g', hg'⟩ := Option.isSome_iff_exists.1 hc
  rw [invR_some hp (hm.sq h1 h2) (g := g') (by rw [hl]; exact hg')]
theorem pick_tab {n k : Nat} {f : Tb} {l : List Nat} (hb : hp.fld.Bd f) (hn : 1 ≤ n ∧ n ≤ 20) (hk : 1 ≤ k ∧ k ≤ 20) (hl : 1 ≤ l.length ∧ l.length ≤ 20) (h : ∀ x ∈ l, x < n) :
    pickM (some (wb, p)) (tab n k f) (casts l) = some (tab l.length k fun i j => f (l.getD i 0) j) := by
  have hm := mx_tab hp (n := n) (m := k) hb
  rw [pickM_t (hm.may hn.1 hn.2 hk.1 hk.2) (by rw [casts_length]; exact hl) (List.all_eq_true.2 fun z hz => by
    obtain ⟨x, hx, rfl⟩ := List.mem_map.1 hz
    have := h x hx
    rw [tab_length]
    exact decide_eq_true ⟨by omega, by omega⟩)]
  congr 1
  unfold casts
  rw [List.map_map]
  apply List.ext_getElem?
  intro i
  by_cases hi : i < l.length
  · rw [List.getElem?_map, List.getElem?_eq_getElem hi, tab_at hi]
    show some (rowM _ _) = _
    congr 1
    have hx := h l[i] (List.getElem_mem hi)
    rw [show ((fun (x : Nat) => (x : Int)) l[i]) = ((l[i] : Nat) : Int) from rfl, rowM_of (tab_at hx), getD_of hi]
  · rw [List.getElem?_eq_none (by simp; omega), List.getElem?_eq_none (by rw [tab_length]; omega)]
theorem join_tab {n m k : Nat} {f g : Tb} (hf : hp.fld.Bd f) (hg : hp.fld.Bd g) (hn : 1 ≤ n) (hm : 1 ≤ m) (hnm : n + m ≤ 20) (hk : 1 ≤ k ∧ k ≤ 20) :
    joinM (some (wb, p)) (tab n k f) (tab m k g) = some (tab (n + m) k fun i j => if i < n then f i j else g (i - n) j) := by
  rw [joinM_t ((mx_tab hp hf).may hn (by omega) hk.1 hk.2) ((mx_tab hp hg).may hm (by omega) hk.1 hk.2) (by rw [wid_tab (by omega), wid_tab (by omega)]) (by rw [tab_length, tab_length]; omega)]
  congr 1
  unfold tab
  rw [List.range_add, List.map_append, List.map_map]
  congr 1
  · exact List.map_congr_left fun i hi => by simp only [List.mem_range.1 hi, if_true]
  · refine List.map_congr_left fun i _ => ?_
    show _ = List.map _ _
    refine List.map_congr_left fun j _ => ?_
    show _ = ((if n + i < n then f (n + i) j else g (n + i - n) j : Nat) : Int)
    rw [if_neg (by omega), Nat.add_sub_cancel_left]
/-! ### with the identity ahead -/
theorem sysM_is {k m : Nat} (h1 : 1 ≤ k) (h2 : 1 ≤ m) (h3 : k + m ≤ 20) : sysM hp (k : Int) (m : Int) = some (tab (k + m) k (sysT hp k)) := by
  unfold sysM fitB
  rw [if_pos (by rw [decide_eq_true (by omega)]; rfl)]
  rfl
theorem isalM_is {o : Fq} (ho : o.isSome = true) {k m : Nat} (h1 : 1 ≤ k) (h2 : 1 ≤ m) (h3 : k + m ≤ 20) : isalM o (k : Int) (m : Int) = some (tab m k (isT o)) := by
  unfold isalM fitB
  rw [if_pos (by rw [ho, decide_eq_true (by omega)]; rfl)]
  rfl
theorem rawM_is {o : Fq} (ho : o.isSome = true) {k m : Nat} (h1 : 1 ≤ k) (h2 : k ≤ 20) (h3 : 1 ≤ m) (h4 : m ≤ 20) : rawM o (k : Int) (m : Int) = some (tab k m (pwT o)) := by
  unfold rawM rawB
  rw [if_pos (by rw [ho, decide_eq_true (by omega)]; rfl)]
  rfl
theorem sysT_bd (k : Nat) : hp.fld.Bd (sysT hp k) := hp.fld.mm_bd _ _ _
theorem pts_inv {k : Nat} {l : List Nat} (hl : l.length = k) (hn : l.Nodup) (h : ∀ x ∈ l, x < 256) : ∃ g, hp.fld.iv k (fun i j => hp.fld.pow (l.getD i 0) j) = some g := by
  have h16 := hp.size.1
  refine hp.fld.vander (x := fun i => l.getD i 0) (fun i => ?_) fun i j hi hj e => ?_
  · rw [hp.fld_w, List.getD_eq_getElem?_getD]
    cases hi : l[i]? with
    | none => simp; omega
    | some x => have := h x (List.mem_of_getElem? hi); simp; omega
  · rw [getD_of (show i < l.length by omega), getD_of (show j < l.length by omega)] at e
    refine Classical.byContradiction fun hne => ?_
    rcases Nat.lt_or_gt_of_ne hne with h' | h'
    · exact List.pairwise_iff_getElem.1 hn i j _ _ h' e
    · exact List.pairwise_iff_getElem.1 hn j i _ _ h' e.symm
theorem van_iv {k : Nat} {l : List Nat} (hk : k ≤ 20) (hl : l.length = k) (hn : l.Nodup) (h : ∀ x ∈ l, x < 256) : ∃ g, hp.fld.iv k (fun i j => sysT hp k (l.getD i 0) j) = some g := by
  obtain ⟨g, hg⟩ := pts_inv hp hl hn h
  have h1 := hp.fld.iv_some (fun i j => hp.fld.pow_lt _ _) hg
  have h2 := (vinv_ok hp (k := k) (by omega)).2.symm
  exact hp.fld.iv_of_Iv (h1.mul hp.fld h2)
theorem van_any {k m : Nat} {l : List Nat} (h1 : 1 ≤ k) (h2 : 1 ≤ m) (h3 : k + m ≤ 20) (hl : l.length = k) (hn : l.Nodup) (h : ∀ x ∈ l, x < k + m) :
    ∃ P, pickM (some (wb, p)) (tab (k + m) k (sysT hp k)) (casts l) = some P ∧ (invR hp P).1 = 0 := by
  refine ⟨_, pick_tab hp (sysT_bd hp k) ⟨by omega, h3⟩ ⟨h1, by omega⟩ ⟨by omega, by omega⟩ h, ?_⟩
  rw [hl]
  exact inv0 hp (fun i j => sysT_bd hp k _ _) h1 (by omega) (van_iv hp (by omega) hl hn fun x hx => by have := h x hx; omega)
theorem sys_id {k m : Nat} (h : k ≤ 20) : (tab (k + m) k (sysT hp k)).take k = idM k := by
  rw [tab_take (by omega), idM_tab]
  exact tab_congr fun i j hi hj => (vinv_ok hp (k := k) (by omega)).2.r i j hi hj
theorem sysT_one (i : Nat) : sysT hp 1 i 0 = 1 := by
  have h1 := (vinv_ok hp (k := 1) (by decide)).2
  have e := h1.r 0 0 (by decide) (by decide)
  have hb := h1.bd' 0 0
  have h : ∀ i : Nat, hp.fld.mm 1 (fun i j => hp.fld.pow i j) (vinv hp 1) i 0 = vinv hp 1 0 0 := fun i => by
    show (0 ^^^ hp.fld.mul 1 (vinv hp 1 0 0)) = _
    rw [Nat.zero_xor, hp.fld.one _ hb]
  rw [h] at e
  show hp.fld.mm 1 _ _ i 0 = 1
  rw [h, e]; rfl
/-! ### ISA-L's -/
include hp in
theorem isT_zero_r (i : Nat) : isT (some (wb, p)) i 0 = 1 := by rw [isT_pow hp]; rfl
include hp in
theorem isT_zero_l (j : Nat) : isT (some (wb, p)) 0 j = 1 := by rw [isT_pow hp]; exact hp.fld.one_pow j
include hp in
theorem isT_bd : hp.fld.Bd (isT (some (wb, p))) := fun i j => by rw [isT_pow hp]; exact hp.fld.pow_lt _ _
theorem two_inj {i j : Nat} (hi : i < 255) (hj : j < 255) (h : hp.fld.pow 2 i = hp.fld.pow 2 j) : i = j := by
  have ho := hp.order
  rw [← hp.pw_pow, ← hp.pw_pow] at h
  exact hp.pw_inj (by omega) (by omega) h
theorem join_id {k m : Nat} {f : Tb} (hf : hp.fld.Bd f) (h1 : 1 ≤ k) (h2 : 1 ≤ m) (h3 : k + m ≤ 20) : joinM (some (wb, p)) (idM k) (tab m k f) = some (tab (k + m) k (beh k f)) := by
  rw [idM_tab]; exact join_tab hp hp.fld.I1_bd hf h1 h2 h3 ⟨h1, by omega⟩
theorem isal_any {k m : Nat} {l : List Nat} (h1 : 1 ≤ k) (h2 : 1 ≤ m) (h3 : k + m ≤ 20) (hm3 : m ≤ 3) (hl : l.length = k) (hn : l.Nodup) (h : ∀ x ∈ l, x < k + m) :
    ∃ J P, joinM (some (wb, p)) (idM k) (tab m k (isT (some (wb, p)))) = some J ∧ pickM (some (wb, p)) J (casts l) = some P ∧ (invR hp P).1 = 0 := by
  have hb := hp.fld.beh_bd (k := k) (isT_bd hp)
  refine ⟨tab (k + m) k (beh k (isT (some (wb, p)))), _, ?_, pick_tab hp hb ⟨by omega, h3⟩ ⟨h1, by omega⟩ ⟨by omega, by omega⟩ h, ?_⟩
  · rw [idM_tab]; exact join_tab hp hp.fld.I1_bd (isT_bd hp) h1 h2 h3 ⟨h1, by omega⟩
  · rw [hl]
    refine inv0 hp (fun i j => hb _ _) h1 (by omega) (hp.fld.mds_of (m := m) (isT_bd hp) hl hn ?_)
    have hlen := par_mis hl hn
    have hR := parR_lt h
    obtain ⟨g, hg⟩ := hp.fld.three (R := parR k l) (J := misJ k l) (x := fun j => hp.fld.pow 2 j) (fun j => hp.fld.pow_lt _ _) (fun j _ => hp.fld.pow_ne hp.two_lt (by decide) j) (fun i hi j hj e => by
      have := misJ_lt i hi
      have := misJ_lt j hj
      exact two_inj hp (by omega) (by omega) e) (parR_nodup hn) (fun e he => by have := hR e he; omega) (misJ_nodup k l) hlen
    have e : mnr (isT (some (wb, p))) (parR k l) (misJ k l) = mnr (fun i j => hp.fld.pow (hp.fld.pow 2 j) i) (parR k l) (misJ k l) := by
      funext a b
      show isT _ _ _ = hp.fld.pow (hp.fld.pow 2 _) _
      rw [isT_pow hp, hp.fld.pow_mul, hp.fld.pow_mul, Nat.mul_comm]
    rw [e, hg]; rfl
end
theorem sysM_no {wb p : Nat} (hp : Prm wb p) {k m : Int} (h : fitB (some (wb, p)) k m = false) : sysM hp k m = none := if_neg (by rw [h]; decide)
theorem aw6_isal : isalM (some (8, 285)) 2 2 = some [[1, 1], [1, 2]] := by
  rw [show isalM (some (8, 285)) 2 2 = some (tab 2 2 (isT (some (8, 285)))) from isalM_is rfl (k := 2) (m := 2) (by decide) (by decide) (by decide)]
  show some [[((isT (some (8, 285)) 0 0 : Nat) : Int), ((isT (some (8, 285)) 0 1 : Nat) : Int)], [((isT (some (8, 285)) 1 0 : Nat) : Int), ((isT (some (8, 285)) 1 1 : Nat) : Int)]] = _
  rw [isT_zero_r prm_285, isT_zero_l prm_285, isT_zero_r prm_285, isT_pow prm_285, prm_285.fld.pow_one _ (prm_285.fld.pow_lt _ _), prm_285.fld.pow_one 2 (by rw [prm_285.fld_w]; decide)]
  rfl
theorem aw6_raw : rawM (some (8, 285)) 3 2 = some [[1, 0], [1, 1], [1, 2]] := by
  rw [show rawM (some (8, 285)) 3 2 = some (tab 3 2 (pwT (some (8, 285)))) from rawM_is rfl (k := 3) (m := 2) (by decide) (by decide) (by decide) (by decide)]
  show some [[((pwT (some (8, 285)) 0 0 : Nat) : Int), ((pwT (some (8, 285)) 0 1 : Nat) : Int)], [((pwT (some (8, 285)) 1 0 : Nat) : Int), ((pwT (some (8, 285)) 1 1 : Nat) : Int)], [((pwT (some (8, 285)) 2 0 : Nat) : Int), ((pwT (some (8, 285)) 2 1 : Nat) : Int)]] = _
  rw [pwT_pow prm_285 (by decide), pwT_pow prm_285 (by decide), pwT_pow prm_285 (by decide), pwT_pow prm_285 (by decide), pwT_pow prm_285 (by decide), pwT_pow prm_285 (by decide)]
  rw [prm_285.fld.pow_one 0 (by rw [prm_285.fld_w]; decide), prm_285.fld.pow_one 1 (by rw [prm_285.fld_w]; decide), prm_285.fld.pow_one 2 (by rw [prm_285.fld_w]; decide)]
  rfl
theorem Mat.three {D : FD} {B N cap : Nat} {w : World} {E2 : TypeId} {sa : Option Addr} {b : Option Nat} {u v x : Value} {r s t : List Int} (h : Own D B N w E2 (.slice sa 3 cap) b [u, v, x]) (hE : E2 ≠ D.T) (hr : Row D B w.heap.size w u (zints r)) (hs : Row D B w.heap.size w v (zints s)) (ht : Row D B w.heap.size w x (zints t)) : Mat D B w.heap.size w sa cap [r, s, t] :=
  ⟨[u, v, x], rfl, h.row hE, fun j v' r' hv hr' => by
    match j with
    | 0 => simp at hv hr'; subst hv; subst hr'; exact hr
    | 1 => simp at hv hr'; subst hv; subst hr'; exact hs
    | 2 => simp at hv hr'; subst hv; subst hr'; exact ht
    | j + 3 => simp at hv⟩
theorem aw6_len (a b c d : Int) : ([[a, b], [c, d]] : Mtx).length ≤ 1000 ∧ ∀ r ∈ ([[a, b], [c, d]] : Mtx), r.length ≤ 1000 := by
  refine ⟨by simp, fun r hr => ?_⟩
  simp only [List.mem_cons, List.mem_nil_iff, or_false] at hr
  rcases hr with rfl | rfl <;> simp
theorem aw6_len3 (a b c d e f : Int) : ([[a, b], [c, d], [e, f]] : Mtx).length ≤ 1000 ∧ ∀ r ∈ ([[a, b], [c, d], [e, f]] : Mtx), r.length ≤ 1000 := by
  refine ⟨by simp, fun r hr => ?_⟩
  simp only [List.mem_cons, List.mem_nil_iff, or_false] at hr
  rcases hr with rfl | rfl | rfl <;> simp
end Go.Gam

/- Jerasure's rows of powers, their columns reduced, what is left behind the identity. No program in sight. -/
set_option linter.unusedVariables false
set_option linter.unusedSimpArgs false
set_option linter.unusedSectionVars false
namespace Go.Gam
open Px

/-- Columns. -/
def colS (i q x : Nat) (f : Tb) : Tb := fun r j => if r < x then f r (Fld.sw i q j) else f r j
namespace Fld
variable (F : Fld)
def scC (fr j c x : Nat) (f : Tb) : Tb := fun r l => if fr ≤ r ∧ r < x ∧ l = j then F.mul (f r l) c else f r l
def clC (i j x : Nat) (f : Tb) : Tb := fun r l => if l ≠ i ∧ (l < j ∨ l = j ∧ r < x) then f r l ^^^ F.mul (f r i) (f i l) else f r l
theorem colS_bd {i q x : Nat} {f : Tb} (h : F.Bd f) : F.Bd (colS i q x f) := fun r j => by unfold colS; split <;> exact h _ _
theorem scC_bd {fr j c x : Nat} {f : Tb} (h : F.Bd f) : F.Bd (F.scC fr j c x f) := fun r l => by unfold scC; split; exact F.lt _ _; exact h _ _
theorem clC_bd {i j x : Nat} {f : Tb} (h : F.Bd f) : F.Bd (F.clC i j x f) := fun r l => by unfold clC; split; exact Px.xor_lt (h _ _) (F.lt _ _); exact h _ _
/-- One step's table. -/
def stC (n k i : Nat) (f : Tb) : Tb := tr (F.stp (tr f) k i i).1
theorem stC_is {n k i q : Nat} {f : Tb} (hq : piv (tr f) k i i (k - i) = some q) (hi : i < n) : ∀ r, r < n → ∀ l, l < k → F.clC i k 0 (F.scC 0 i (F.inv (f i q)) n (colS i q n f)) r l = F.stC n k i f r l := by
  intro r hr l hl
  unfold stC stp
  rw [hq]
  show _ = F.op i q (F.inv (f i q)) (fun a => f i (sw i q a)) (tr f) l r
  have e1 : ∀ a j, a < n → colS i q n f a j = f a (sw i q j) := fun a j ha => if_pos ha
  have e2 : ∀ a j, a < n → F.scC 0 i (F.inv (f i q)) n (colS i q n f) a j = if j = i then F.mul (f a (sw i q j)) (F.inv (f i q)) else f a (sw i q j) := fun a j ha => by
    unfold scC; rw [e1 a j ha]
    by_cases h : j = i
    · rw [if_pos ⟨Nat.zero_le _, ha, h⟩, if_pos h]
    · rw [if_neg (fun c => h c.2.2), if_neg h]
  have e3 : sw i q i = q := if_pos rfl
  unfold clC Fld.op tr
  rw [e2 r l hr, e2 r i hr, e2 i l hi, e3, if_pos rfl]
  by_cases h : l = i
  · rw [if_neg (fun c => c.1 h), if_pos h, if_pos h, h, e3]
  · rw [if_pos ⟨h, .inl hl⟩, if_neg h, if_neg h, if_neg h, F.comm (F.mul (f r q) _)]
/-- Full rank at the end: full rank all the way. -/
theorem red_all {n k : Nat} {f : Tb} (hf : F.Bd f) (h : (F.red n f k).2 = k) : ∀ d c, c + d = k → (F.red n f c).2 = c
  | 0, c, e => by obtain rfl : c = k := e; exact h
  | d + 1, c, e => by
    have ih := red_all hf h d (c + 1) (by omega)
    have h1 := (F.red_ok (n := n) hf c).tc
    have h2 : (F.red n f (c + 1)).2 = (F.stp (F.red n f c).1 n c (F.red n f c).2).2 := rfl
    rw [ih] at h2
    unfold stp at h2
    split at h2
    · dsimp only at h2; omega
    · dsimp only at h2; omega
/-- Rows and columns times numbers that aren't 0. -/
theorem iv_scaled {n : Nat} {f g : Tb} {a b : Nat → Nat} (hf : F.Bd f) (hg : F.Bd g) (ha : ∀ j, a j < 2 ^ F.w) (hb : ∀ i, b i < 2 ^ F.w) (ha0 : ∀ j, j < n → a j ≠ 0) (hb0 : ∀ i, i < n → b i ≠ 0)
    (h : ∀ i j, i < n → j < n → g i j = F.mul (F.mul (f i j) (a j)) (b i)) (hi : (F.iv n f).isSome = true) : ∃ x, F.iv n g = some x := by
  obtain ⟨x, hx⟩ := Option.isSome_iff_exists.1 hi
  have hI := F.iv_some hf hx
  refine F.iv_of hg fun y h1 h2 i hin => ?_
  have h3 := hI.left F (y := fun l => F.mul (y l) (b l)) (fun l => F.lt _ _) (fun j hj => by
    have e := h2 j hj
    rw [xsum_congr (g := fun l => F.mul (F.mul (F.mul (y l) (b l)) (f l j)) (a j)) fun l hl => by
      rw [h l j hl hj, F.comm (F.mul (f l j) (a j)), F.assoc (F.mul (y l) (b l)), F.assoc (y l)], ← xsum_mul] at e
    rcases F.nzd _ _ (xsum_lt fun l _ => F.lt _ _) (ha j) e with e | e
    · exact e
    · exact absurd e (ha0 j hj)) i hin
  rcases F.nzd _ _ (h1 i) (hb i) h3 with e | e
  · exact e
  · exact absurd e (hb0 i hin)
end Fld

def extT (o : Fq) (k m : Nat) : Tb := fun i j => if i = k + m - 1 then (if j = k - 1 then 1 else 0) else pwT o i j
def extM (o : Fq) (k m : Int) : Option Mtx := if fitB o k m = true then some (tab (k + m).toNat k.toNat (extT o k.toNat m.toNat)) else none
theorem extM_no {o : Fq} {k m : Int} (h : fitB o k m = false) : extM o k m = none := by unfold extM; rw [h]; rfl
section
variable {wb p : Nat} (hp : Prm wb p)
include hp in
theorem pwT_bd : hp.fld.Bd (pwT (some (wb, p))) := fun i j => by
  have := gpow_nn hp (i : Int) (j : Int)
  unfold pwT
  rw [hp.fld_w]; omega
include hp in
theorem extT_bd (k m : Nat) : hp.fld.Bd (extT (some (wb, p)) k m) := fun i j => by
  have := hp.fld.one_lt; have := hp.fld.zero_lt
  unfold extT
  split
  · split <;> omega
  · exact pwT_bd hp i j
/-- Any k of the rows have an inverse. -/
theorem ext_iv {k m : Nat} {l : List Nat} (hk : 1 ≤ k) (h20 : k + m ≤ 20) (hl : l.length = k) (hn : l.Nodup) (h : ∀ x ∈ l, x < k + m) : ∃ g, hp.fld.iv k (fun i j => extT (some (wb, p)) k m (l.getD i 0) j) = some g := by
  have hbd : hp.fld.Bd (fun i j => extT (some (wb, p)) k m (l.getD i 0) j) := fun i j => extT_bd hp k m _ _
  have hot : ∀ x, x < k + m → x ≠ k + m - 1 → ∀ j, extT (some (wb, p)) k m x j = hp.fld.pow x j := fun x hx hne j => by
    unfold extT; rw [if_neg hne]; exact pwT_pow hp (by omega)
  by_cases hlast : k + m - 1 ∈ l
  · refine hp.fld.iv_ofR hbd fun y h1 h2 => ?_
    have hrow : ∀ x ∈ l, (xsum k fun s => hp.fld.mul (extT (some (wb, p)) k m x s) (y s)) = 0 := fun x hx => by
      obtain ⟨i, hi⟩ := List.getElem?_of_mem hx
      have hil := (List.getElem?_eq_some_iff.1 hi).1
      have := h2 i (by omega)
      rw [List.getD_eq_getElem?_getD, hi] at this
      exact this
    have hy : y (k - 1) = 0 := by
      have e := hrow _ hlast
      rw [xsum_single (i := k - 1) (by omega) (fun j _ hj => by unfold extT; rw [if_pos rfl, if_neg hj, hp.fld.zero_mul])] at e
      unfold extT at e
      rw [if_pos rfl, if_pos rfl, hp.fld.one _ (h1 _)] at e
      exact e
    obtain ⟨g, hg⟩ := pts_inv hp (k := k - 1) (l := l.erase (k + m - 1)) (by rw [List.length_erase_of_mem hlast, hl]) (hn.erase _) (fun x hx => by have := h x (List.mem_of_mem_erase hx); omega)
    have hI := hp.fld.iv_some (fun i j => hp.fld.pow_lt _ _) hg
    have hz := hI.right hp.fld h1 (fun j hj => by
      have hjl : j < (l.erase (k + m - 1)).length := by rw [List.length_erase_of_mem hlast, hl]; exact hj
      have hx := Fld.getD_mem hjl
      generalize (l.erase (k + m - 1)).getD j 0 = x at hx
      have hxl := List.mem_of_mem_erase hx
      have hne : x ≠ k + m - 1 := ((hn.mem_erase_iff).1 hx).1
      have e := hrow x hxl
      obtain ⟨k', rfl⟩ : ∃ k', k = k' + 1 := ⟨k - 1, by omega⟩
      rw [xsum_congr (g := fun s => hp.fld.mul (hp.fld.pow x s) (y s)) fun s _ => by rw [hot x (h x hxl) hne]] at e
      have e2 : xsum (k' + 1) (fun s => hp.fld.mul (hp.fld.pow x s) (y s)) = xsum k' (fun s => hp.fld.mul (hp.fld.pow x s) (y s)) ^^^ hp.fld.mul (hp.fld.pow x k') (y k') := rfl
      rw [e2, show y k' = 0 from hy, hp.fld.mul_zero, Nat.xor_zero] at e
      exact e)
    intro i hi
    by_cases e : i = k - 1
    · rw [e]; exact hy
    · exact hz i (by omega)
  · obtain ⟨g, hg⟩ := pts_inv hp hl hn (fun x hx => by have := h x hx; omega)
    have := hp.fld.iv_congr (f := fun i j => hp.fld.pow (l.getD i 0) j) (g := fun i j => extT (some (wb, p)) k m (l.getD i 0) j) (n := k) (fun i j => hp.fld.pow_lt _ _) hbd (fun i j hi _ => by
      have hx := Fld.getD_mem (L := l) (i := i) (by omega)
      exact (hot _ (h _ hx) (fun e => hlast (e ▸ hx)) j).symm)
    rw [hg] at this
    exact Option.isSome_iff_exists.1 this.symm
theorem ext_top {k m : Nat} (hk : 1 ≤ k) (hm : 1 ≤ m) (h20 : k + m ≤ 20) : ∃ g, hp.fld.iv k (extT (some (wb, p)) k m) = some g := by
  obtain ⟨g, hg⟩ := ext_iv hp (l := List.range k) hk h20 (by simp) List.nodup_range (fun x hx => by have := List.mem_range.1 hx; omega)
  have := hp.fld.iv_congr (f := fun i j => extT (some (wb, p)) k m ((List.range k).getD i 0) j) (g := extT (some (wb, p)) k m) (n := k) (fun i j => extT_bd hp k m _ _) (extT_bd hp k m) (fun i j hi _ => by
    rw [getD_of (show i < (List.range k).length by simpa using hi), List.getElem_range])
  rw [hg] at this
  exact Option.isSome_iff_exists.1 this.symm
/-- The table once i columns are reduced. -/
def redC (k m i : Nat) : Tb := Fld.tr (hp.fld.red k (Fld.tr (extT (some (wb, p)) k m)) i).1
theorem tr_bd {f : Tb} (h : hp.fld.Bd f) : hp.fld.Bd (Fld.tr f) := fun i j => h j i
theorem redC_bd (k m i : Nat) : hp.fld.Bd (redC hp k m i) := tr_bd hp (hp.fld.red_ok (tr_bd hp (extT_bd hp k m)) i).bd
theorem redC_zero (k m : Nat) : redC hp k m 0 = extT (some (wb, p)) k m := rfl
theorem redC_full {k m : Nat} (hk : 1 ≤ k) (hm : 1 ≤ m) (h20 : k + m ≤ 20) : ∀ c, c ≤ k → (hp.fld.red k (Fld.tr (extT (some (wb, p)) k m)) c).2 = c := fun c hc => by
  obtain ⟨g, hg⟩ := ext_top hp hk hm h20
  have h1 := (hp.fld.iv_some (extT_bd hp k m) hg).tr hp.fld
  obtain ⟨g', hg'⟩ := hp.fld.iv_of_Iv h1
  have h2 := hp.fld.rk_iv (n := k) (f := Fld.tr (extT (some (wb, p)) k m)) (by rw [hg']; rfl)
  exact hp.fld.red_all (tr_bd hp (extT_bd hp k m)) h2 (k - c) c (by omega)
/-- There is a column to begin with. -/
theorem redC_piv {k m i : Nat} (hk : 1 ≤ k) (hm : 1 ≤ m) (h20 : k + m ≤ 20) (hi : i < k) : ∃ q, Fld.piv (Fld.tr (redC hp k m i)) k i i (k - i) = some q ∧ redC hp k m (i + 1) = hp.fld.stC (k + m) k i (redC hp k m i) := by
  have h1 := redC_full hp hk hm h20 i (by omega)
  have h2 := redC_full hp hk hm h20 (i + 1) hi
  have e : hp.fld.red k (Fld.tr (extT (some (wb, p)) k m)) (i + 1) = hp.fld.stp (hp.fld.red k (Fld.tr (extT (some (wb, p)) k m)) i).1 k i i := by
    show hp.fld.stp _ k i _ = _
    rw [h1]
  rw [e] at h2
  unfold redC Fld.stC
  rw [e]
  unfold Fld.stp at h2
  show ∃ q, Fld.piv (hp.fld.red k (Fld.tr (extT (some (wb, p)) k m)) i).1 k i i (k - i) = some q ∧ _
  cases hq : Fld.piv (hp.fld.red k (Fld.tr (extT (some (wb, p)) k m)) i).1 k i i (k - i) with
  | none => rw [hq] at h2; dsimp only at h2; omega
  | some q => exact ⟨q, rfl, rfl⟩
/-- What is behind the identity. -/
def jG (k m : Nat) : Tb := fun r j => redC hp k m k (k + r) j
theorem jG_bd (k m : Nat) : hp.fld.Bd (jG hp k m) := fun r j => redC_bd hp k m k _ _
theorem jG_ex {k m : Nat} (hk : 1 ≤ k) (hm : 1 ≤ m) (h20 : k + m ≤ 20) : ∃ C C', hp.fld.Iv k C C' ∧ ∀ i j, j < k → beh k (jG hp k m) i j = hp.fld.mm k (extT (some (wb, p)) k m) C i j := by
  have hr := hp.fld.red_ok (n := k) (tr_bd hp (extT_bd hp k m)) k
  have ht := redC_full hp hk hm h20 k (Nat.le_refl _)
  obtain ⟨E, E', hE, he⟩ := hr.ex
  obtain ⟨q, hq, hqe⟩ := hr.pv
  refine ⟨Fld.tr E, Fld.tr E', hE.tr hp.fld, fun i j hj => ?_⟩
  have hx : redC hp k m k i j = hp.fld.mm k (extT (some (wb, p)) k m) (Fld.tr E) i j := 
    (he j i hj).trans (hp.fld.mm_tr k (Fld.tr (extT (some (wb, p)) k m)) E i j).symm
  rw [← hx]
  unfold beh
  split
  · rename_i hi
    have := (hq i (by rw [ht]; exact hi)).2 j hj
    rw [hqe ht i (by rw [ht]; exact hi)] at this
    show _ = (hp.fld.red k (Fld.tr (extT (some (wb, p)) k m)) k).1 j i
    rw [this]
    unfold I1
    by_cases e : i = j
    · rw [if_pos e, if_pos e.symm]
    · rw [if_neg e, if_neg (Ne.symm e)]
  · show redC hp k m k (k + (i - k)) j = _
    rw [show k + (i - k) = i by omega]
theorem jG_any {k m : Nat} {l : List Nat} (hk : 1 ≤ k) (hm : 1 ≤ m) (h20 : k + m ≤ 20) (hl : l.length = k) (hn : l.Nodup) (h : ∀ x ∈ l, x < k + m) : ∃ g, hp.fld.iv k (fun i j => beh k (jG hp k m) (l.getD i 0) j) = some g := by
  obtain ⟨C, C', hC, he⟩ := jG_ex hp hk hm h20
  obtain ⟨g, hg⟩ := ext_iv hp hk h20 hl hn h
  have h1 := (hp.fld.iv_some (fun i j => extT_bd hp k m _ _) hg).mul hp.fld hC
  exact hp.fld.iv_of_Iv (h1.congr hp.fld (fun i j => hp.fld.beh_bd (jG_bd hp k m) _ _) fun i j _ hj => he _ j hj)
theorem jG_ne {k m r j : Nat} (hk : 1 ≤ k) (hm : 1 ≤ m) (h20 : k + m ≤ 20) (hr : r < m) (hj : j < k) : jG hp k m r j ≠ 0 := fun h0 => by
  obtain ⟨g, hg⟩ := jG_any hp (l := (List.range k).set j (k + r)) hk hm h20 (by simp) (by
    refine List.pairwise_iff_getElem.2 fun a b ha hb hab => ?_
    simp only [List.length_set, List.length_range] at ha hb
    rw [List.getElem_set, List.getElem_set]
    simp only [List.getElem_range]
    split <;> split <;> omega) (fun x hx => by
      rcases List.mem_or_eq_of_mem_set hx with h | h
      · have := List.mem_range.1 h; omega
      · omega)
  have hI := hp.fld.iv_some (fun i j => hp.fld.beh_bd (jG_bd hp k m) _ _) hg
  have := hI.right hp.fld (y := fun s => if s = j then 1 else 0) (fun s => by have := hp.fld.one_lt; have := hp.fld.zero_lt; show (if s = j then 1 else 0) < _; split <;> omega) (fun i hi => by
    rw [xsum_single (i := j) hj (fun s _ hs => by rw [if_neg hs, hp.fld.mul_zero])]
    by_cases e : i = j
    · rw [e, getD_of (show j < ((List.range k).set j (k + r)).length by simpa using hj), List.getElem_set_self]
      unfold beh; rw [if_neg (by omega), show k + r - k = r by omega, h0, hp.fld.zero_mul]
    · rw [getD_of (show i < ((List.range k).set j (k + r)).length by simpa using hi), List.getElem_set_ne (Ne.symm e), List.getElem_range]
      unfold beh I1; rw [if_pos hi, if_neg e, hp.fld.zero_mul]) j hj
  simp at this
/-- The parity rows. -/
def jA (k m : Nat) : Nat → Nat := fun j => hp.fld.inv (jG hp k m 0 j)
def jC (k m : Nat) : Tb := fun r j => hp.fld.mul (jG hp k m r j) (jA hp k m j)
def jB (k m : Nat) : Nat → Nat := fun r => if r = 0 then 1 else hp.fld.inv (jC hp k m r 0)
def parT (k m : Nat) : Tb := fun r j => hp.fld.mul (jC hp k m r j) (jB hp k m r)
def parM (k m : Int) : Option Mtx := if fitB (some (wb, p)) k m = true then some (tab m.toNat k.toNat (parT hp k.toNat m.toNat)) else none
theorem jA_lt (k m j : Nat) : jA hp k m j < 2 ^ hp.fld.w := hp.fld.inv_lt _
theorem jC_bd (k m : Nat) : hp.fld.Bd (jC hp k m) := fun r j => hp.fld.lt _ _
theorem jB_lt (k m r : Nat) : jB hp k m r < 2 ^ hp.fld.w := by unfold jB; split; exact hp.fld.one_lt; exact hp.fld.inv_lt _
theorem parT_bd (k m : Nat) : hp.fld.Bd (parT hp k m) := fun r j => hp.fld.lt _ _
theorem parT_zero {k m j : Nat} : parT hp k m 0 j = jC hp k m 0 j := by unfold parT jB; rw [if_pos rfl, hp.fld.mul_one _ (jC_bd hp k m _ _)]
theorem parT_pos {k m r j : Nat} (h : r ≠ 0) : parT hp k m r j = hp.fld.mul (jC hp k m r j) (hp.fld.inv (jC hp k m r 0)) := by unfold parT jB; rw [if_neg h]
variable {k m : Nat} (hk : 1 ≤ k) (hm : 1 ≤ m) (h20 : k + m ≤ 20)
include hk hm h20
theorem jA_ne {j : Nat} (hj : j < k) : jA hp k m j ≠ 0 := hp.fld.inv_ne (jG_bd hp k m _ _) (jG_ne hp hk hm h20 (by omega) hj)
theorem jC_ne {r j : Nat} (hr : r < m) (hj : j < k) : jC hp k m r j ≠ 0 := fun h => by
  rcases hp.fld.nzd _ _ (jG_bd hp k m _ _) (jA_lt hp k m j) h with e | e
  · exact jG_ne hp hk hm h20 hr hj e
  · exact jA_ne hp hk hm h20 hj e
theorem jB_ne {r : Nat} (hr : r < m) : jB hp k m r ≠ 0 := by
  unfold jB; split
  · decide
  · exact hp.fld.inv_ne (jC_bd hp k m _ _) (jC_ne hp hk hm h20 hr (by omega))
theorem parT_ne {r j : Nat} (hr : r < m) (hj : j < k) : parT hp k m r j ≠ 0 := fun h => by
  rcases hp.fld.nzd _ _ (jC_bd hp k m _ _) (jB_lt hp k m r) h with e | e
  · exact jC_ne hp hk hm h20 hr hj e
  · exact jB_ne hp hk hm h20 hr e
theorem parT_top {j : Nat} (hj : j < k) : parT hp k m 0 j = 1 := by
  rw [parT_zero]; exact hp.fld.mul_inv (jG_bd hp k m _ _) (jG_ne hp hk hm h20 (by omega) hj)
theorem parT_left {r : Nat} (hr : r < m) : parT hp k m r 0 = 1 := by
  by_cases e : r = 0
  · subst e; exact parT_top hp hk hm h20 (by omega)
  · rw [parT_pos hp e]; exact hp.fld.mul_inv (jC_bd hp k m _ _) (jC_ne hp hk hm h20 hr (by omega))
theorem par_any {l : List Nat} (hl : l.length = k) (hn : l.Nodup) (h : ∀ x ∈ l, x < k + m) : ∃ g, hp.fld.iv k (fun i j => beh k (parT hp k m) (l.getD i 0) j) = some g := by
  obtain ⟨g, hg⟩ := jG_any hp hk hm h20 hl hn h
  obtain ⟨x, hx⟩ := hp.fld.mds_to (m := m) (jG_bd hp k m) hl hn (by rw [hg]; rfl)
  refine hp.fld.mds_of (m := m) (parT_bd hp k m) hl hn ?_
  have hR := parR_lt h
  have hlen := par_mis hl hn
  obtain ⟨y, hy⟩ := hp.fld.iv_scaled (n := (parR k l).length) (f := mnr (jG hp k m) (parR k l) (misJ k l)) (g := mnr (parT hp k m) (parR k l) (misJ k l)) (a := fun j => jA hp k m ((misJ k l).getD j 0)) (b := fun i => jB hp k m ((parR k l).getD i 0)) (hp.fld.mnr_bd (jG_bd hp k m) _ _) (hp.fld.mnr_bd (parT_bd hp k m) _ _) (fun j => jA_lt hp k m _) (fun i => jB_lt hp k m _)
    (fun j hj => jA_ne hp hk hm h20 (misJ_lt _ (Fld.getD_mem (by omega)))) (fun i hi => jB_ne hp hk hm h20 (hR _ (Fld.getD_mem hi))) (fun i j _ _ => rfl) (by rw [hx]; rfl)
  rw [hy]; rfl
end
end Go.Gam

/- Records of two fields of one cell each; rows that are a walk's own, as they are gathered. No program in sight. -/
set_option linter.unusedVariables false
set_option linter.unusedSimpArgs false
set_option linter.unusedSectionVars false
namespace Go.Gam
open Px

theorem agg_cells (cs : Array Value) : (Value.agg cs).cells = cs := rfl
/-- A record type of two fields of one cell each, z1 and z2 at first. -/
def Rec2 (P : Program) (t : TypeId) (z1 z2 : Value) : Prop :=
  ∃ f0 f1 i0 i1 i, P.underlying t = some (.struct #[f0, f1]) ∧ P.info? f0.type = some i0 ∧ i0.size = 1 ∧ f0.offset = 0 ∧ P.info? f1.type = some i1 ∧ i1.size = 1 ∧ f1.offset = 1 ∧ P.info? t = some i ∧ i.size = 2 ∧ i.zero = some (.agg #[z1, z2])
theorem rec2_of {P : Program} {t : TypeId} {z1 z2 : Value} {f0 f1 : Field} (h : P.underlying t = some (.struct #[f0, f1])) (h0 : (P.info? f0.type).map (fun i => (i.size, f0.offset)) = some (1, 0)) (h1 : (P.info? f1.type).map (fun i => (i.size, f1.offset)) = some (1, 1))
    (hz : (P.info? t).map (fun i => (i.size, i.zero)) = some (2, some (.agg #[z1, z2]))) : Rec2 P t z1 z2 := by
  cases e0 : P.info? f0.type with
  | none => rw [e0] at h0; cases h0
  | some i0 =>
    cases e1 : P.info? f1.type with
    | none => rw [e1] at h1; cases h1
    | some i1 =>
      cases e : P.info? t with
      | none => rw [e] at hz; cases hz
      | some i =>
        rw [e0] at h0; rw [e1] at h1; rw [e] at hz
        simp only [Option.map_some, Option.some.injEq, Prod.mk.injEq] at h0 h1 hz
        exact ⟨f0, f1, i0, i1, i, h, e0, h0.1, h0.2, e1, h1.1, h1.2, e, hz.1, hz.2⟩
section
variable {P : Program} {ops : Array Oper} {K : Kont} {rest : List Oper} {n : NN} {F : Fs} {T : TypeId} {pp : String} {af : Array Edge} {v : Value} {d : Nat} {a : Act} {w : World} {x y : Operand} {D : FD} {B : Nat} {z1 z2 : Value}
theorem v_loadR {t E g : Nat} {u v : Value} (ht : Rec2 P t z1 z2) (hx : ev F x = some (.pointer (some ⟨g, 0, none⟩))) (hb : Blk w g E [u, v]) : Val P (.load t x) T F w (.agg #[u, v]) :=
  fun ρ h d p af g' => by
    obtain ⟨f0, f1, i0, i1, i, h1, h2, h3, h4, h5, h6, h7, h8, h9, h10⟩ := ht
    have := run_loadVar_row (P := P) w g E t #[u, v] (0, 0) _ hb h1 rfl (by rw [h8]; simp [h9])
    simp only [execOp, h x _ hx, Instr.loadAt, Instr.sureAddr]
    simp [this]
theorem v_buildR {t : Nat} {u v : Value} (ht : Rec2 P t z1 z2) (hx : ev F x = some u) (hy : ev F y = some v) (hu : u.cells = #[u]) (hv : v.cells = #[v]) : Val P (.build t #[(0, x), (1, y)]) T F w (.agg #[u, v]) :=
  fun ρ h d p af g' => by
    obtain ⟨f0, f1, i0, i1, i, h1, h2, h3, h4, h5, h6, h7, h8, h9, h10⟩ := ht
    simp [execOp, h x _ hx, h y _ hy, Instr.build, zeroValue, typeInfo, h8, h10, underlying, h1, sizeOf, h2, h3, h4, h5, h6, h7, program, Sem.run, Instr.fill, hu, hv, agg_cells]
theorem v_mkfF {fn : Fn} {cs : List Operand} {vs : List Value} (hc : evs F cs = some vs) : Val P (.makeFunc fn cs.toArray #[]) T F w (.func fn vs.toArray ([] : List Value).toArray) :=
  fun ρ h d p af g => by
    have := h.list cs vs hc
    simp [execOp, Instr.makeFunc, this]
/-- A new variable that a record is stored into at once. -/
theorem s_newR {t : Nat} {u v : Value} {T' : TypeId} {pp' : String} {af' : Array Edge} (hF : Fr n F a) (ht : Rec2 P t z1 z2) (he : t ≠ D.T) (hy : ∀ q, ev ((d, q) :: F) y = some (.agg #[u, v])) (hu : u.oneCell' = true) (hv : v.oneCell' = true) (hd : Nat.blt d n.n = true)
    (k : ∀ w' a, Mb D B none w w' → Blk w' w.heap.size t [u, v] → w'.heap.size = w.heap.size + 1 → Fr n ((d, .pointer (some ⟨w.heap.size, 0, none⟩)) :: F) a → WL P ops K rest a w') :
    WL P ops K (⟨some d, .alloc t, T, pp, af, none⟩ :: ⟨none, .store t (.tmp d) y, T', pp', af', none⟩ :: rest) a w := by
  obtain ⟨f0, f1, i0, i1, i, h1, h2, h3, h4, h5, h6, h7, h8, h9, h10⟩ := ht
  refine s_run (v := .pointer (some ⟨w.heap.size, 0, none⟩)) (w' := w.alloc (.cells #[z1, z2] t)) hF (fun ρ h => ?_) hd fun a hF => ?_
  · simp [execOp, Instr.alloc, zeroValue, typeInfo, h8, h10, newVar, newRow, newObj, Sem.run, Value.cells]
  · have hst := run_storeCells_new (P := P) w t #[z1, z2] #[u, v] (by rw [h8]; simp [h9]) rfl (by simp [hu, hv])
    have hrun : (execOp a.eval ⟨none, .store t (.tmp d) y, T', pp', af', none⟩).run P (w.alloc (.cells #[z1, z2] t)) = .ok .skip (w.alloc (.cells #[u, v] t)) := by
      have hd' : ev ((d, Value.pointer (some ⟨w.heap.size, 0, none⟩)) :: F) (.tmp d) = some (.pointer (some ⟨w.heap.size, 0, none⟩)) := by simp [ev, look_cons]
      simp only [execOp, hF.reads y _ (hy _), hF.reads (.tmp d) _ hd', Instr.storeAt, Instr.sureAddr, storeVar]
      simp [sizeOf, typeInfo, h8, h9, agg_cells, hst]
    unfold WL wpList
    rw [if_pos (by simp [Region.wanted])]
    refine .inl ?_
    unfold Oper.wp
    rw [hrun]
    exact k _ a (Mb.alloc D B w _ t (0, 0) he) (alloc_new w _) (by simp) hF
end
theorem Wr.mown {D : FD} {B N K n m : Nat} {w : World} {bs rc : Nat → Nat} {f : Tb} {E2 : TypeId} {b : Option Nat} {v : Value} (h : Wr D B N K w n m bs rc f) (ho : Own D B N w E2 v b (vls n m bs rc)) : MOwn D B N 0 w.heap.size w E2 v b (tab n m f) := by
  refine ⟨⟨vls n m bs rc, by rw [vls_length, tab_length], ho, fun j u r hu hr => ?_⟩, Nat.zero_le _⟩
  have hj : j < n := by simpa using (List.getElem?_eq_some_iff.1 hu).1
  rw [vls_at hj] at hu
  rw [tab_at hj] at hr
  obtain rfl := Option.some.inj hu
  obtain rfl := Option.some.inj hr
  exact .of (h.row j hj) (Nat.zero_le _)
theorem slA_of {g lo cap : Nat} (h : lo < cap) : slA (some ⟨g, 0, none⟩) lo cap = some ⟨g, 0 + lo, none⟩ := by unfold slA; rw [if_neg (by omega)]; simp [Addr.add_eq]

section
variable {P : Program} {D : FD} {B : Nat} {a : Act} {w : World} {ops : Array Oper} {K : Kont} {fuel : Nat} {L : Array Bool}
theorem of_WLe {R : Act → World → Prop} {i : Nat} {o : Oper} (hi : nth ops.toList i = some o) (h : WL P ops (fun a' w' => Ext D B w w' ∧ R a' w') [o] a w) :
    wpOp P ops (Qof K [] (fun _ _ => False)) i (fun a' w' => Ext D B w w' ∧ R a' w') a w := by
  rw [nth_eq, Array.getElem?_toList] at hi
  unfold wpOp
  simp only [hi]
  have hno : ∀ K' : Kont, ¬ LetsOut (Qof K' [] (fun _ _ => False)) := fun K' ⟨a, w, h⟩ => h
  unfold WL wpList at h
  split
  · rename_i hw
    rw [if_pos hw] at h
    rcases h with h | ⟨_, h⟩
    · refine .inl ?_
      exact Oper.wp_mono (K := wpList P ops (Qof (fun a' w' => Ext D B w w' ∧ R a' w') [] (fun _ _ => False)) []) (fun a' w' hk => hk) (upon_congr (fun _ _ _ h => h) (fun h => absurd h (hno _)) h)
    · exact absurd h (hno _)
  · rename_i hw
    rw [if_neg hw] at h
    exact h
/-- Two may come. -/
theorem a_e2 {i i' : Nat} {o o' : Oper} (hi : nth ops.toList i = some o) (hi' : nth ops.toList i' = some o') (hr : Region.ready .any ops L = [i, i']) (h : WL P ops (fun a' w' => Ext D B w w' ∧ WA P D B ops K fuel (L.setIfInBounds i true) a' w') [o] a w)
    (h' : WL P ops (fun a' w' => Ext D B w w' ∧ WA P D B ops K fuel (L.setIfInBounds i' true) a' w') [o'] a w) : WA P D B ops K (fuel + 1) L a w := by
  have strong : ∀ w1, Ext D B w w1 → ∀ (m : Nat) (L : Array Bool) (a : Act) (w2 : World), wpAnyH P .any ops (Qof K [] (fun _ _ => False)) (fun w' => Ext D B w1 w') m L a w2 →
      wpAnyH P .any ops (Qof K [] (fun _ _ => False)) (fun w' => Ext D B w w') m L a w2 := by
    intro w1 h1 m
    induction m with
    | zero => intro L a w2 h; exact h
    | succ m ih => intro L a w2 h; exact ⟨h.1, fun i hi => wpOp_mono (fun a' w' h' => ⟨h1.trans h'.1, ih _ _ _ h'.2⟩) (h.2 i hi)⟩
  refine wpAnyH_all hr (by simp) fun j hj => ?_
  have hj2 : j = i ∨ j = i' := by simpa using hj
  rcases hj2 with rfl | rfl
  · exact wpOp_mono (fun a' w' h => ⟨h.1, strong w' h.1 fuel _ a' w' h.2⟩) (of_WLe hi h)
  · exact wpOp_mono (fun a' w' h => ⟨h.1, strong w' h.1 fuel _ a' w' h.2⟩) (of_WLe hi' h')
end
theorem Blk.ne_own {D : FD} {B N' : Nat} {w : World} {g : Nat} {E E' : TypeId} {cs : List Value} {u : Value} {b : Option Nat} {xs : List Value} (h : Blk w g E cs) (ho : Own D B N' w E' u b xs) (hE : E ≠ E') : b ≠ some g := by
  intro e
  rcases ho with ⟨_, h', _⟩ | ⟨g', cap', cur, rfl, hb, h1, hB, h2, h3⟩
  · rw [h'] at e; cases e
  · rw [hb] at e; obtain rfl := Option.some.inj e
    have hk : w.heap[g']? = _ := h
    rw [h2] at hk
    exact hE (Obj.cells.inj (Option.some.inj hk)).2.1.symm
theorem StZ.cut {D : FD} {B : Nat} {Z : Nat → Prop} {w w' : World} (h : StZ D B (fun k => Z k ∨ w.heap.size ≤ k) w w') : StZ D B Z w w' :=
  ⟨⟨h.ext.os, h.ext.tape, h.ext.output, h.ext.size, fun k hk hz hc => h.ext.keep k hk (fun e => e.elim hz (by omega)) hc, h.ext.oth, h.ext.fld, h.ext.priv, h.ext.made⟩, h.inv⟩
/-- A step that changes a block that is newer. -/
theorem StZ.mbn {D : FD} {B : Nat} {Z : Nat → Prop} {b : Option Nat} {w0 w w' : World} (hs : StZ D B Z w0 w) (h : Mb D B b w w') (hb : ∀ k, b = some k → w0.heap.size ≤ k ∧ ∃ c e fr, w.heap[k]? = some (.cells c e fr)) : StZ D B Z w0 w' :=
  ((hs.weak (Z' := fun k => Z k ∨ w0.heap.size ≤ k) fun k z => .inl z).mb h (fun k e => ⟨.inr (hb k e).1, (hb k e).2⟩)).cut
/-! ### steps of the tables -/
theorem ext_cell {o : Fq} (hprm : ∀ wb p, o = some (wb, p) → Prm wb p) {k m i j : Nat} (h : i < k + m - 1) : ((extT o k m i j : Nat) : Int) = gpow o (i : Int) (j : Int) := by
  unfold extT; rw [if_neg (by omega)]; exact pwT_nn hprm _ _
theorem ext_last {o : Fq} {k m : Nat} (hk : 1 ≤ k) : (List.replicate k (Value.int .i64 0)).set (k - 1) (.int .i64 1) = zints (trow k (extT o k m) (k + m - 1)) := by
  apply List.ext_getElem?
  intro j
  by_cases hj : j < k
  · rw [zints_at (trow_at hj)]
    unfold extT
    rw [if_pos rfl]
    by_cases e : k - 1 = j
    · rw [← e, List.getElem?_set_self (by simpa using by omega), if_pos rfl]; rfl
    · rw [List.getElem?_set_ne e, if_neg (Ne.symm e)]; simp [hj]
  · rw [List.getElem?_eq_none (by simp; omega), List.getElem?_eq_none (by simp [zints]; omega)]
namespace Fld
variable (F : Fld)
theorem scC_at {fr j c x l : Nat} {f : Tb} (h : fr ≤ x) : F.scC fr j c (x + 1) f x l = if l = j then F.mul (F.scC fr j c x f x j) c else F.scC fr j c x f x l := by
  unfold scC
  rw [if_neg (show ¬ (fr ≤ x ∧ x < x ∧ j = j) by omega), if_neg (show ¬ (fr ≤ x ∧ x < x ∧ l = j) by omega)]
  by_cases e : l = j
  · rw [if_pos e, if_pos ⟨h, by omega, e⟩, e]
  · rw [if_neg e, if_neg (fun c => e c.2.2)]
theorem scC_ne {fr j c x a l : Nat} {f : Tb} (h : a ≠ x) : F.scC fr j c (x + 1) f a l = F.scC fr j c x f a l := by
  unfold scC
  by_cases e : fr ≤ a ∧ a < x ∧ l = j
  · rw [if_pos e, if_pos ⟨e.1, by omega, e.2.2⟩]
  · rw [if_neg e, if_neg (fun c => e ⟨c.1, by omega, c.2.2⟩)]
theorem scC_zero {fr j c a l : Nat} {f : Tb} : F.scC fr j c fr f a l = f a l := by unfold scC; rw [if_neg (by omega)]
theorem clC_at {i j x l : Nat} {f : Tb} (h : j ≠ i) : F.clC i j (x + 1) f x l = if l = j then F.clC i j x f x j ^^^ F.mul (F.clC i j x f x i) (f i j) else F.clC i j x f x l := by
  unfold clC
  rw [if_neg (show ¬ (j ≠ i ∧ (j < j ∨ j = j ∧ x < x)) by omega), if_neg (show ¬ (i ≠ i ∧ (i < j ∨ i = j ∧ x < x)) by omega)]
  by_cases e : l = j
  · rw [if_pos e, if_pos ⟨by omega, .inr ⟨e, by omega⟩⟩, e]
  · rw [if_neg e]
    by_cases e2 : l ≠ i ∧ l < j
    · rw [if_pos ⟨e2.1, .inl e2.2⟩, if_pos ⟨e2.1, .inl e2.2⟩]
    · rw [if_neg (by omega), if_neg (by omega)]
theorem clC_ne {i j x a l : Nat} {f : Tb} (h : a ≠ x) : F.clC i j (x + 1) f a l = F.clC i j x f a l := by
  unfold clC
  by_cases e : l ≠ i ∧ (l < j ∨ l = j ∧ a < x)
  · rw [if_pos e, if_pos (by omega)]
  · rw [if_neg e, if_neg (by omega)]
theorem clC_skip {i x a l : Nat} {f : Tb} : F.clC i i (x + 1) f a l = F.clC i i x f a l := by
  unfold clC
  by_cases e : l ≠ i ∧ (l < i ∨ l = i ∧ a < x)
  · rw [if_pos e, if_pos (by omega)]
  · rw [if_neg e, if_neg (by omega)]
theorem clC_next {i j n a l : Nat} {f : Tb} (h : a < n) : F.clC i j n f a l = F.clC i (j + 1) 0 f a l := by
  unfold clC
  by_cases e : l ≠ i ∧ (l < j ∨ l = j ∧ a < n)
  · rw [if_pos e, if_pos (by omega)]
  · rw [if_neg e, if_neg (by omega)]
theorem clC_self {i j x a : Nat} {f : Tb} : F.clC i j x f a i = f a i := by unfold clC; rw [if_neg (by omega)]
theorem clC_zero {i a l : Nat} {f : Tb} : F.clC i 0 0 f a l = f a l := by unfold clC; rw [if_neg (by omega)]
end Fld
/-- The two stores of a swap. -/
def colH (i q x : Nat) (f : Tb) : Tb := fun r l => if r = x ∧ l = i then f x q else colS i q x f r l
theorem colH_at {i q x l : Nat} {f : Tb} : colH i q x f x l = if l = i then f x q else colS i q x f x l := by
  unfold colH
  by_cases e : l = i
  · rw [if_pos ⟨rfl, e⟩, if_pos e]
  · rw [if_neg (fun c => e c.2), if_neg e]
theorem colH_ne {i q x a l : Nat} {f : Tb} (h : a ≠ x) : colH i q x f a l = colS i q x f a l := by unfold colH; rw [if_neg (fun c => h c.1)]
theorem colS_at {i q x l : Nat} {f : Tb} : colS i q (x + 1) f x l = if l = q then f x i else colH i q x f x l := by
  rw [colH_at]
  unfold colS Fld.sw
  rw [if_pos (show x < x + 1 by omega), if_neg (show ¬ x < x by omega)]
  by_cases e : l = q
  · by_cases e2 : l = i
    · subst e; subst e2; simp
    · rw [if_neg e2, if_pos e, if_pos e]
  · by_cases e2 : l = i
    · rw [if_pos e2, if_neg e, if_pos e2]
    · rw [if_neg e2, if_neg e, if_neg e, if_neg e2]
theorem colS_ne {i q x a l : Nat} {f : Tb} (h : a ≠ x) : colS i q (x + 1) f a l = colH i q x f a l := by
  rw [colH_ne h]
  unfold colS
  by_cases e : a < x
  · rw [if_pos e, if_pos (by omega)]
  · rw [if_neg e, if_neg (by omega)]
theorem colS_old {i q x l : Nat} {f : Tb} : colS i q x f x l = f x l := by unfold colS; rw [if_neg (by omega)]
theorem colS_zero {i q a l : Nat} {f : Tb} : colS i q 0 f a l = f a l := by unfold colS; rw [if_neg (by omega)]
/-! ### parity rows, as they are made -/
section
variable {wb p : Nat} (hp : Prm wb p) {k m : Nat}
def colI (k m j : Nat) : Tb := fun r l => if k ≤ r ∧ l < j then jC hp k m (r - k) l else redC hp k m k r l
def rowI (k m x j : Nat) : Tb := fun r l => if k < r ∧ (r < k + 1 + x ∨ r = k + 1 + x ∧ l < j) then parT hp k m (r - k) l else colI hp k m k r l
theorem redC_jG {r l : Nat} (h : k ≤ r) : redC hp k m k r l = jG hp k m (r - k) l := by unfold jG; rw [show k + (r - k) = r by omega]
theorem colI_zero {a b : Nat} : colI hp k m 0 a b = redC hp k m k a b := by unfold colI; rw [if_neg (by omega)]
theorem colI_at {j : Nat} : colI hp k m j k j = jG hp k m 0 j := by unfold colI; rw [if_neg (by omega), redC_jG hp (Nat.le_refl _), Nat.sub_self]
theorem colI_bd {j : Nat} : hp.fld.Bd (colI hp k m j) := fun a b => by unfold colI; split; exact jC_bd hp k m _ _; exact redC_bd hp k m k _ _
theorem colI_step {j n a b : Nat} (ha : a < n) : hp.fld.scC k j (hp.fld.inv (jG hp k m 0 j)) n (colI hp k m j) a b = colI hp k m (j + 1) a b := by
  unfold Fld.scC
  by_cases e : k ≤ a ∧ a < n ∧ b = j
  · obtain ⟨e1, e2, rfl⟩ := e
    rw [if_pos ⟨e1, e2, rfl⟩]
    unfold colI
    rw [if_neg (by omega), if_pos ⟨e1, by omega⟩, redC_jG hp e1]
    rfl
  · rw [if_neg e]
    unfold colI
    by_cases e2 : k ≤ a ∧ b < j
    · rw [if_pos e2, if_pos (by omega)]
    · rw [if_neg e2, if_neg (by omega)]
theorem rowI_zero {a b : Nat} : rowI hp k m 0 0 a b = colI hp k m k a b := by unfold rowI; rw [if_neg (by omega)]
theorem rowI_at {x j l : Nat} (hl : ¬ l < j := by omega) (hk : l < k := by omega) : rowI hp k m x j (k + 1 + x) l = jC hp k m (x + 1) l := by
  unfold rowI colI
  rw [if_neg (by omega), if_pos ⟨by omega, hk⟩, show k + 1 + x - k = x + 1 by omega]
theorem rowI_ne {x j a l : Nat} (h : a ≠ k + 1 + x) : rowI hp k m x (j + 1) a l = rowI hp k m x j a l := by
  unfold rowI
  by_cases e : k < a ∧ (a < k + 1 + x ∨ a = k + 1 + x ∧ l < j)
  · rw [if_pos e, if_pos (by omega)]
  · rw [if_neg e, if_neg (by omega)]
theorem rowI_col {x j l : Nat} : rowI hp k m x (j + 1) (k + 1 + x) l = if l = j then hp.fld.mul (jC hp k m (x + 1) j) (hp.fld.inv (jC hp k m (x + 1) 0)) else rowI hp k m x j (k + 1 + x) l := by
  by_cases e : l = j
  · rw [if_pos e]
    unfold rowI
    rw [if_pos (by omega), show k + 1 + x - k = x + 1 by omega, parT_pos hp (by omega), e]
  · rw [if_neg e]
    unfold rowI
    by_cases e2 : l < j
    · rw [if_pos (by omega), if_pos (by omega)]
    · rw [if_neg (by omega), if_neg (by omega)]
theorem rowI_next {x a b : Nat} (hb : b < k) : rowI hp k m x k a b = rowI hp k m (x + 1) 0 a b := by
  unfold rowI
  by_cases e : k < a ∧ (a < k + 1 + x ∨ a = k + 1 + x ∧ b < k)
  · rw [if_pos e, if_pos (by omega)]
  · rw [if_neg e, if_neg (by omega)]
theorem rowI_end (hm : 1 ≤ m) : tab m k (parT hp k m) = (tab (k + m) k (rowI hp k m (m - 1) 0)).drop k := by
  rw [tab_drop (by omega), show k + m - k = m by omega]
  refine tab_congr fun i j hi hj => ?_
  unfold rowI
  by_cases e : i = 0
  · subst e
    rw [if_neg (by omega)]
    unfold colI
    rw [if_pos ⟨by omega, hj⟩, show k + 0 - k = 0 by omega]
    exact parT_zero hp
  · rw [if_pos (by omega), show k + i - k = i by omega]
end
end Go.Gam

/- A map of numbers to true, of a walk's own. No program in sight. -/
set_option linter.unusedVariables false
set_option linter.unusedSimpArgs false
set_option linter.unusedSectionVars false
namespace Go.Gam
open Px
open Go.MapKept (run_checkKey run_findKey IsKey)
open Go.RowKit (run_makeMap)

def mesF : List Int → Nat → List MapEntry
  | [], _ => []
  | x :: r, i => { key := .int .i64 x, val := .bool true, born := i } :: mesF r (i + 1)
def mes (l : List Int) : Array MapEntry := (mesF l 0).toArray
theorem mesF_snoc (x : Int) : ∀ (l : List Int) (i : Nat), mesF (l ++ [x]) i = mesF l i ++ [{ key := .int .i64 x, val := .bool true, born := i + l.length }]
  | [], _ => rfl
  | y :: r, i => by
    show _ :: mesF (r ++ [x]) (i + 1) = _
    rw [mesF_snoc x r (i + 1)]
    show _ = _ :: (_ ++ _)
    rw [List.length_cons, show i + 1 + r.length = i + (r.length + 1) by omega]
theorem mes_snoc (x : Int) (l : List Int) : mes (l ++ [x]) = (mes l).push { key := .int .i64 x, val := .bool true, born := l.length } := by
  unfold mes
  rw [mesF_snoc, Nat.zero_add, List.push_toArray]
theorem findNow_mes {kd : IntKind} (k : Int) : ∀ (l : List Int) (b i : Nat), (k ∈ l → ∃ j, Instr.findNow (.int kd) (.int .i64 k) (mesF l b) i = some (some (j, .bool true))) ∧ (k ∉ l → Instr.findNow (.int kd) (.int .i64 k) (mesF l b) i = some none)
  | [], _, _ => ⟨fun h => by simp at h, fun _ => rfl⟩
  | x :: r, b, i => by
    obtain ⟨h1, h2⟩ := findNow_mes (kd := kd) k r (b + 1) (i + 1)
    by_cases e : k = x
    · subst e
      exact ⟨fun _ => ⟨i, by simp [mesF, Instr.findNow, Instr.sameNow]⟩, fun h => by simp at h⟩
    · have eb : (k == x) = false := beq_eq_false_iff_ne.2 e
      refine ⟨fun h => ?_, fun h => ?_⟩
      · obtain ⟨j, hj⟩ := h1 (by simpa [e] using h)
        exact ⟨j, by simp [mesF, Instr.findNow, Instr.sameNow, eb, hj]⟩
      · have := h2 (fun c => h (by simp [c]))
        simp [mesF, Instr.findNow, Instr.sameNow, eb, this]
/-- A map at l of its own: these numbers, each with true. -/
structure MapB (D : FD) (B N : Nat) (w : World) (l : Nat) (ks : List Int) : Prop where
  obj : w.heap[l]? = some (.map (mes ks) ks.length)
  low : N ≤ l
  base : B ≤ l
  priv : Priv D B w l
section
variable {D : FD} {B N l : Nat} {w w' : World} {ks : List Int}
theorem MapB.notT (h : MapB D B N w l ks) : notT D w l := fun c fr e => by rw [h.obj] at e; cases e
theorem MapB.st (h : MapB D B N w l ks) (hs : St D B w w') : MapB D B N w' l ks := ⟨(hs.ext.keep l (heap_lt h.obj) (.inr h.notT)).trans h.obj, h.low, h.base, hs.ext.priv l (heap_lt h.obj) h.priv⟩
theorem MapB.mb {b : Option Nat} (h : MapB D B N w l ks) (hm : Mb D B b w w') (hb : b ≠ some l) : MapB D B N w' l ks := ⟨(hm.keep l (heap_lt h.obj) (Ne.symm hb)).trans h.obj, h.low, h.base, hm.priv h.priv⟩
theorem MapB.le {N' : Nat} (h : MapB D B N w l ks) (hN : N' ≤ N) : MapB D B N' w l ks := ⟨h.obj, Nat.le_trans hN h.low, h.base, h.priv⟩
theorem MapB.ne_own {N' : Nat} {E' : TypeId} {u : Value} {b : Option Nat} {xs : List Value} (h : MapB D B N w l ks) (ho : Own D B N' w E' u b xs) (_ : True) : b ≠ some l := by
  intro e
  obtain ⟨c, e', fr, hk⟩ := ho.isrow l e
  rw [h.obj] at hk; cases hk
theorem Mb.allocM (D : FD) (B : Nat) (w : World) (es : Array MapEntry) (c : Nat) : Mb D B none w (w.alloc (.map es c)) := by
  refine ⟨rfl, rfl, rfl, by simp, fun k hk _ => ?_, fun k hk c' fr' hc => ?_, fun k e => by cases e⟩
  · exact RowKit.Below.heap_alloc w _ k hk
  · have : (w.heap.push (.map es c))[k]? = some (.cells c' D.T fr') := hc
    rw [Array.getElem?_push] at this
    split at this
    · cases this
    · rw [Array.getElem?_eq_none (by omega)] at this; cases this
end
section
variable {P : Program} {ops : Array Oper} {K : Kont} {rest : List Oper} {n : NN} {F : Fs} {T : TypeId} {pp : String} {af : Array Edge} {v : Value} {d : Nat} {a : Act} {w : World} {x y z : Operand} {D : FD} {B : Nat}
/-- A map type from numbers to Bools. -/
def MapT (P : Program) (t : TypeId) : Prop := ∃ kt et i, P.underlying t = some (.map kt et) ∧ P.underlying kt = some (.int .i64) ∧ P.info? et = some i ∧ i.zero = some (.bool false)
theorem mapT_of {P : Program} {t kt et : TypeId} (h : P.underlying t = some (.map kt et)) (hk : P.underlying kt = some (.int .i64)) (hz : (P.info? et).map (fun i => i.zero) = some (some (.bool false))) : MapT P t := by
  cases hi : P.info? et with
  | none => rw [hi] at hz; cases hz
  | some i => rw [hi] at hz; exact ⟨kt, et, i, h, hk, hi, by simpa using hz⟩
theorem s_mkmap {t : TypeId} (hF : Fr n F a) (hI : Inv D B w) (hd : Nat.blt d n.n = true)
    (k : ∀ g w' a, Mb D B none w w' → Inv D B w' → MapB D B w.heap.size w' g [] → Fr n ((d, .map (some g)) :: F) a → WL P ops K rest a w') :
    WL P ops K (⟨some d, .makeMap t none, T, pp, af, none⟩ :: rest) a w := by
  have hm := Mb.allocM D B w #[] 0
  refine s_run (w' := w.alloc (.map #[] 0)) hF (fun ρ h => ?_) hd fun a hF => k _ _ a hm (hm.inv hI) ⟨alloc_new w _, Nat.le_refl _, hI.1, hm.priv (hI.priv_new (Nat.le_refl _))⟩ hF
  have := run_makeMap (P := P) t w
  simp only [execOp]
  simp [this]
theorem v_look {t : TypeId} {N l : Nat} {k : Int} {ks : List Int} (ht : MapT P t) (hx : ev F x = some (.map (some l))) (hy : ev F y = some (.int .i64 k)) (hb : MapB D B N w l ks) : Val P (.lookup t x y false) T F w (.bool (decide (k ∈ ks))) :=
  fun ρ h d p af g => by
    obtain ⟨kt, et, i, h1, h2, h3, h4⟩ := ht
    obtain ⟨f1, f2⟩ := findNow_mes (kd := .i64) k ks 0 0
    have hck : (Instr.checkKey (mes ks).isEmpty 10000 kt (.int .i64 k)).run P w = .ok () w := run_checkKey h2 (k := .int .i64 k) (by simp [IsKey]) _ _
    have hg : (getObj l).run P w = .ok (.map (mes ks) ks.length) w := by simp [getObj, Sem.run, hb.obj]
    by_cases e : k ∈ ks
    · obtain ⟨j, hj⟩ := f1 e
      have hf := run_findKey (P := P) (w := w) h2 (l := (mes ks).toList) (by simpa [mes] using hj)
      simp [execOp, h x _ hx, h y _ hy, Instr.lookup, underlying, h1, program, Sem.run, hg, hck, hf, e]
    · have hf := run_findKey (P := P) (w := w) h2 (l := (mes ks).toList) (by simpa [mes] using f2 e)
      simp [execOp, h x _ hx, h y _ hy, Instr.lookup, underlying, h1, program, Sem.run, hg, hck, hf, e, zeroValue, typeInfo, h3, h4]
theorem s_mapput {t : TypeId} {N l : Nat} {k : Int} {ks : List Int} (hF : Fr n F a) (ht : MapT P t) (hx : ev F x = some (.map (some l))) (hy : ev F y = some (.int .i64 k)) (hz : ev F z = some (.bool true)) (hb : MapB D B N w l ks) (hk : k ∉ ks) (hI : Inv D B w)
    (kk : ∀ w', Mb D B (some l) w w' → Inv D B w' → MapB D B N w' l (ks ++ [k]) → WL P ops K rest a w') :
    WL P ops K (⟨none, .mapUpdate t x y z, T, pp, af, none⟩ :: rest) a w := by
  obtain ⟨kt, et, i, h1, h2, h3, h4⟩ := ht
  have hck : (Instr.checkKey false 10000 kt (.int .i64 k)).run P w = .ok () w := run_checkKey h2 (k := .int .i64 k) (by simp [IsKey]) _ _
  have hg : (getObj l).run P w = .ok (.map (mes ks) ks.length) w := by simp [getObj, Sem.run, hb.obj]
  have hf := run_findKey (P := P) (w := w) h2 (l := (mes ks).toList) (by simpa [mes] using (findNow_mes (kd := .i64) k ks 0 0).2 hk)
  have hst : (setObj l (.map ((mes ks).push { key := .int .i64 k, val := .bool true, born := ks.length }) (ks.length + 1))).run P w = .ok () { w with heap := w.heap.setIfInBounds l (.map ((mes ks).push { key := .int .i64 k, val := .bool true, born := ks.length }) (ks.length + 1)) } := by simp [setObj, Sem.run, hb.obj]
  have hrun : (execOp a.eval ⟨none, .mapUpdate t x y z, T, pp, af, none⟩).run P w = .ok .skip { w with heap := w.heap.setIfInBounds l (.map ((mes ks).push { key := .int .i64 k, val := .bool true, born := ks.length }) (ks.length + 1)) } := by
    simp [execOp, hF.reads x _ hx, hF.reads y _ hy, hF.reads z _ hz, Instr.mapUpdate, underlying, h1, program, Sem.run, hg, hck, hf, hst]
  obtain ⟨hs1, hs2⟩ := Go.MapKept.heap_set (o' := .map ((mes ks).push { key := .int .i64 k, val := .bool true, born := ks.length }) (ks.length + 1)) hb.obj
  have hm : Mb D B (some l) w { w with heap := w.heap.setIfInBounds l (.map ((mes ks).push { key := .int .i64 k, val := .bool true, born := ks.length }) (ks.length + 1)) } := by
    refine ⟨rfl, rfl, rfl, by simp, fun k hk hne => hs2 k (fun e => hne (by rw [e])), fun k hk c fr e => ?_, fun k e => ?_⟩
    · have hk2 : (w.heap.setIfInBounds l (.map ((mes ks).push { key := .int .i64 k, val := .bool true, born := ks.length }) (ks.length + 1))).size ≤ k := by simpa using hk
      rw [show (w.heap.setIfInBounds l (.map ((mes ks).push _) (ks.length + 1)))[k]? = none from Array.getElem?_eq_none (by simpa using hk)] at e
      cases e
    · obtain rfl := Option.some.inj e
      refine ⟨heap_lt hb.obj, hb.base, hb.notT, ?_, hb.priv⟩
      intro c fr e
      have e2 := hs1.symm.trans e
      cases e2
  unfold WL wpList
  rw [if_pos (by simp [Region.wanted])]
  refine .inl ?_
  unfold Oper.wp
  rw [hrun]
  refine kk _ hm (hm.inv hI) ⟨?_, hb.low, hb.base, hm.priv hb.priv⟩
  rw [mes_snoc, List.length_append]
  exact hs1
end
end Go.Gam

/- The plain laws of layer 7. No program in sight. -/
set_option linter.unusedVariables false
set_option linter.unusedSimpArgs false
set_option linter.unusedSectionVars false
namespace Go.Gam
open Px

theorem fitB_ok {o : Fq} (ho : o.isSome = true) {k m : Nat} (h1 : 1 ≤ k) (h2 : 1 ≤ m) (h3 : k + m ≤ 20) : fitB o (k : Int) (m : Int) = true := fitB_iff.2 ⟨ho, by omega, by omega, by omega, by omega, by omega⟩
theorem extM_is {o : Fq} (ho : o.isSome = true) {k m : Nat} (h1 : 1 ≤ k) (h2 : 1 ≤ m) (h3 : k + m ≤ 20) : extM o (k : Int) (m : Int) = some (tab (k + m) k (extT o k m)) := by
  unfold extM
  rw [if_pos (fitB_ok ho h1 h2 h3)]
  rfl
theorem aw7_ext : extM (some (8, 285)) 2 1 = some [[1, 0], [1, 1], [0, 1]] := by
  rw [show extM (some (8, 285)) 2 1 = some (tab 3 2 (extT (some (8, 285)) 2 1)) from extM_is rfl (k := 2) (m := 1) (by decide) (by decide) (by decide)]
  show some [[((pwT (some (8, 285)) 0 0 : Nat) : Int), ((pwT (some (8, 285)) 0 1 : Nat) : Int)], [((pwT (some (8, 285)) 1 0 : Nat) : Int), ((pwT (some (8, 285)) 1 1 : Nat) : Int)], [0, 1]] = _
  rw [pwT_pow prm_285 (by decide), pwT_pow prm_285 (by decide), pwT_pow prm_285 (by decide), pwT_pow prm_285 (by decide)]
  rw [prm_285.fld.pow_one 0 (by rw [prm_285.fld_w]; decide), prm_285.fld.pow_one 1 (by rw [prm_285.fld_w]; decide)]
  rfl
theorem aw7_par : tab 1 2 (parT prm_285 2 1) = [[1, 1]] := by
  show [[((parT prm_285 2 1 0 0 : Nat) : Int), ((parT prm_285 2 1 0 1 : Nat) : Int)]] = _
  rw [parT_top prm_285 (by decide) (by decide) (by decide) (by decide), parT_top prm_285 (by decide) (by decide) (by decide) (by decide)]
  rfl
theorem aw7_len (a b : Int) : ([[a, b]] : Mtx).length ≤ 1000 ∧ ∀ r ∈ ([[a, b]] : Mtx), r.length ≤ 1000 := by
  refine ⟨by simp, fun r hr => ?_⟩
  simp only [List.mem_cons, List.mem_nil_iff, or_false] at hr
  subst hr; simp
section
variable {wb p : Nat} (hp : Prm wb p)
theorem inv_tab {k : Nat} {f g : Tb} (hb : hp.fld.Bd f) (h1 : 1 ≤ k) (h2 : k ≤ 20) (hI : hp.fld.Iv k f g) : invR hp (tab k k f) = (0, tab k k g) := by
  have hm := mx_tab hp (n := k) (m := k) hb
  have hl : (tab k k f).length = k := tab_length _ _ _
  have hI2 := hI.congr hp.fld (hm.bd hp) fun i j hi hj => (en_tab hi hj : en (tab k k f) i j = _)
  obtain ⟨g', hg⟩ := hp.fld.iv_of_Iv hI2
  have hu := (hp.fld.iv_some (hm.bd hp) hg).uniq hp.fld hI.bd' fun i j hi hj => hI2.r i j hi hj
  rw [invR_some hp (hm.sq h1 h2) (g := g') (by rw [hl]; exact hg), hl]
  congr 1
  exact tab_congr fun i j hi hj => (hu i j hi hj).symm
theorem mul_tab {n m k : Nat} {f g : Tb} (hf : hp.fld.Bd f) (hg : hp.fld.Bd g) (hn : 1 ≤ n ∧ n ≤ 20) (hm : 1 ≤ m ∧ m ≤ 20) (hk : 1 ≤ k ∧ k ≤ 20) : mulM (some (wb, p)) (tab n m f) (tab m k g) = some (tab n k (hp.fld.mm m f g)) := by
  rw [mulM_tab hp (mx_tab hp hf) (mx_tab hp hg) hn hm hk]
  congr 1
  exact tab_congr fun i j hi hj => xsum_congr fun l hl => by rw [en_tab hi hl, en_tab hl hj]
variable {k m : Nat} (hk : 1 ≤ k) (hm : 1 ≤ m) (h20 : k + m ≤ 20)
include hk hm h20
theorem ext_pick {l : List Nat} (hl : l.length = k) (hn : l.Nodup) (h : ∀ x ∈ l, x < k + m) : ∃ P, pickM (some (wb, p)) (tab (k + m) k (extT (some (wb, p)) k m)) (casts l) = some P ∧ (invR hp P).1 = 0 := by
  have hb := extT_bd hp k m
  refine ⟨_, pick_tab hp hb ⟨by omega, h20⟩ ⟨hk, by omega⟩ ⟨by omega, by omega⟩ h, ?_⟩
  rw [hl]
  exact inv0 hp (fun i j => hb _ _) hk (by omega) (ext_iv hp hk h20 hl hn h)
theorem par_pick {l : List Nat} (hl : l.length = k) (hn : l.Nodup) (h : ∀ x ∈ l, x < k + m) : ∃ P, pickM (some (wb, p)) (tab (k + m) k (beh k (parT hp k m))) (casts l) = some P ∧ (invR hp P).1 = 0 := by
  have hb := hp.fld.beh_bd (k := k) (parT_bd hp k m)
  refine ⟨_, pick_tab hp hb ⟨by omega, h20⟩ ⟨hk, by omega⟩ ⟨by omega, by omega⟩ h, ?_⟩
  rw [hl]
  exact inv0 hp (fun i j => hb _ _) hk (by omega) (par_any hp hk hm h20 hl hn h)
include hp in
theorem ext_ends : ([trow k (extT (some (wb, p)) k m) 0, trow k (extT (some (wb, p)) k m) (k + m - 1)] : Mtx) = [trow k I1 0, trow k I1 (k - 1)] := by
  congr 1
  · refine trow_congr fun j hj => ?_
    unfold extT
    rw [if_neg (by omega), pwT_pow hp (by decide)]
    unfold I1
    cases j with
    | zero => rfl
    | succ j => rw [if_neg (by omega)]; show hp.fld.mul _ 0 = 0; exact hp.fld.mul_zero _
  · congr 1
    refine trow_congr fun j hj => ?_
    unfold extT I1
    rw [if_pos rfl]
    by_cases e : j = k - 1
    · rw [if_pos e, if_pos e.symm]
    · rw [if_neg e, if_neg (Ne.symm e)]
theorem ext_ginv : ∃ g, hp.fld.Iv k (extT (some (wb, p)) k m) g ∧ invR hp (tab k k (extT (some (wb, p)) k m)) = (0, tab k k g) := by
  obtain ⟨g, hg⟩ := ext_top hp hk hm h20
  have hI := hp.fld.iv_some (extT_bd hp k m) hg
  exact ⟨g, hI, inv_tab hp (extT_bd hp k m) hk (by omega) hI⟩
theorem ext_mul {g : Tb} (hI : hp.fld.Iv k (extT (some (wb, p)) k m) g) : mulM (some (wb, p)) (tab m k fun i j => extT (some (wb, p)) k m (k + i) j) (tab k k g) = some (tab m k (jG hp k m)) := by
  rw [mul_tab hp (fun i j => extT_bd hp k m _ _) hI.bd' ⟨hm, by omega⟩ ⟨hk, by omega⟩ ⟨hk, by omega⟩]
  congr 1
  obtain ⟨C, C', hC, he⟩ := jG_ex hp hk hm h20
  have hu := hI.uniq hp.fld hC.bd fun i j hi hj => by rw [← he i j hj]; exact if_pos hi
  refine tab_congr fun i j hi hj => ?_
  have := he (k + i) j hj
  unfold beh at this
  rw [if_neg (by omega), Nat.add_sub_cancel_left] at this
  rw [this]
  exact xsum_congr fun l hl => by rw [hu l j hl hj]
theorem scaled_id {r c : Nat} (hr : r < m) (hc : c < k) : hp.fld.mul (parT hp k m r c) (hp.fld.mul (jG hp k m 0 c) (jG hp k m r 0)) = hp.fld.mul (jG hp k m r c) (jG hp k m 0 0) := by
  have hb := jG_bd hp k m
  have hA : ∀ c, c < k → hp.fld.mul (jA hp k m c) (jG hp k m 0 c) = 1 := fun c hc => hp.fld.inv_mul (hb _ _) (jG_ne hp hk hm h20 (by omega) hc)
  haveI : Std.Associative hp.fld.mul := ⟨hp.fld.assoc⟩
  haveI : Std.Commutative hp.fld.mul := ⟨hp.fld.comm⟩
  have hB : hp.fld.mul (jB hp k m r) (jG hp k m r 0) = jG hp k m 0 0 := by
    unfold jB
    by_cases e : r = 0
    · rw [if_pos e, e]; exact hp.fld.one _ (hb _ _)
    · rw [if_neg e]
      have h1 : hp.fld.mul (hp.fld.inv (jC hp k m r 0)) (jC hp k m r 0) = 1 := hp.fld.inv_mul (jC_bd hp k m _ _) (jC_ne hp hk hm h20 hr (by omega))
      have h2 : hp.fld.mul (hp.fld.inv (jC hp k m r 0)) (jG hp k m r 0) = hp.fld.mul (hp.fld.mul (hp.fld.inv (jC hp k m r 0)) (jG hp k m r 0)) (hp.fld.mul (jA hp k m 0) (jG hp k m 0 0)) := by rw [hA 0 (by omega), hp.fld.mul_one _ (hp.fld.lt _ _)]
      rw [h2, show hp.fld.mul (hp.fld.mul (hp.fld.inv (jC hp k m r 0)) (jG hp k m r 0)) (hp.fld.mul (jA hp k m 0) (jG hp k m 0 0)) = hp.fld.mul (hp.fld.mul (hp.fld.inv (jC hp k m r 0)) (hp.fld.mul (jG hp k m r 0) (jA hp k m 0))) (jG hp k m 0 0) by ac_rfl]
      rw [show hp.fld.mul (jG hp k m r 0) (jA hp k m 0) = jC hp k m r 0 from rfl, h1, hp.fld.one _ (hb _ _)]
  have e : hp.fld.mul (parT hp k m r c) (hp.fld.mul (jG hp k m 0 c) (jG hp k m r 0)) = hp.fld.mul (jG hp k m r c) (hp.fld.mul (hp.fld.mul (jA hp k m c) (jG hp k m 0 c)) (hp.fld.mul (jB hp k m r) (jG hp k m r 0))) := by
    unfold parT jC
    ac_rfl
  rw [e, hA c hc, hB, hp.fld.one _ (hb _ _)]
end
end Go.Gam
