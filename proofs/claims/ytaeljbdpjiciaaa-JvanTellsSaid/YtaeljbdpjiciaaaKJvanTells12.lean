/- Texts of the claim JvanTells (part 12), put together in the order of their imports. -/
import Derived.Test.YtaeljbdpjiciaaaKJvanTells11
/- The walks of gambrelref05: inverses, ranks, what is solved. -/
set_option linter.unusedVariables false
set_option linter.unusedSimpArgs false
namespace Go.Proofs.Ytaeljbdpjiciaaa
open Go Go.Gam


namespace FxFRef05b
theorem en32 : Ent Try.prog 32 := ent Try.func32 (by kernel_rfl) (by kernel_rfl)
theorem en80 : Ent Try.prog 80 := ent Try.func80 (by kernel_rfl) (by kernel_rfl)
theorem en81 : Ent Try.prog 81 := ent Try.func81 (by kernel_rfl) (by kernel_rfl)
theorem sc37 : Scalar Try.prog 37 := ⟨_, Try.underlying37, by simp, by simp⟩
theorem sl27 : Sl Try.prog 27 37 (.slice none 0 0) 24 := sl_of Try.underlying27 rfl (by kernel_rfl)
theorem sl37 : Sl Try.prog 37 3 (.int .i64 0) 8 := sl_of Try.underlying37 rfl (by kernel_rfl)
end FxFRef05b
open FxFRef05b

set_option maxRecDepth 100000 in
set_option maxHeartbeats 1000000 in
theorem rInverse_ok (B M wb p : Nat) (hp : Prm wb p) (pmt : Option Addr) (cmt : Nat) (mt : Mtx) (w : World) (hI : Inv FDx B w) (hM : M ≤ w.heap.size) (hAmt : Mat FDx B M w pmt cmt mt) (hlmt : mt.length ≤ maxLen) (hbmt : ∀ r ∈ mt, r.length ≤ maxLen) : Ret Try.prog 48 [.int .i64 (wb : Int), .int .u32 (p : Int), .slice pmt mt.length cmt] w fun v w' => ∃ su cu, v = .tuple #[.slice su (invR hp mt).2.length cu, .int .i64 (invR hp mt).1] ∧ Mat FDx B w'.heap.size w' su cu (invR hp mt).2 ∧ St FDx B w w' := by
 refine enter2 81 [(0, .int .i64 (wb : Int)), (1, .int .u32 (p : Int)), (2, .slice pmt mt.length cmt)] 6 7 Try.func48 rfl rfl rfl rfl rfl ?_; intro a hF
 have hS := St.refl hI
 refine W_sr rfl (fun K hK => ?_)
 refine sv2 hF (v_assign rfl) (v_assign rfl) rfl rfl ?_; clear hF a; intro a hF
 refine WL_nil (hK _ _ ?_)
 clear hK K
 refine W_seq ?_
 refine W_sr rfl (fun K hK => ?_)
 refine sv2 hF (v_move rfl) (v_move rfl) rfl rfl ?_; clear hF a; intro a hF
 refine sc hF rfl rfl rfl en80 rfl (rMay_ok B M wb p hp pmt cmt mt _ hS.inv hAmt hlmt hbmt) ?_; clear hF a; intro v w' a hv hF
 obtain ⟨rfl, hS'⟩ := hv
 replace hAmt := hAmt.st hS'
 replace hS := hS.trans hS'
 clear hS'
 obtain hc1 | hc1 : (mayM (some (wb, p)) mt) = true ∨ (mayM (some (wb, p)) mt) = false := by cases (mayM (some (wb, p)) mt) <;> simp
 ·
  rw [hc1] at hF
  have hmay : mayM (some (wb, p)) mt = true := hc1
  have hmp := mayM_pos hmay
  obtain ⟨r0, h0⟩ : ∃ r, mt[0]? = some r := ⟨_, List.getElem?_eq_getElem (by omega)⟩
  obtain ⟨g0, o0, pr0, cr0, hg0, hk0, hrow0, -⟩ := hAmt.row h0
  have hw0 := wid_at h0
  subst hg0
  refine sv hF (v_not rfl) rfl ?_; clear hF a; intro a hF
  refine sv hF (v_move rfl) rfl ?_; clear hF a; intro a hF
  refine svg hF rfl ?_
  refine sv hF (v_move rfl) rfl ?_; clear hF a; intro a hF
  refine svg hF rfl ?_
  refine sv hF (v_lenS rfl sl27 rfl) rfl ?_; clear hF a; intro a hF
  refine svg hF rfl ?_
  refine sv hF (v_move rfl) rfl ?_; clear hF a; intro a hF
  refine svg hF rfl ?_
  refine sv hF (v_ixS sl27 rfl rfl (by decide) (by omega)) rfl ?_; clear hF a; intro a hF
  refine svg hF rfl ?_
  refine sv hF (v_load sc37 rfl hk0.c) rfl ?_; clear hF a; intro a hF
  refine svg hF rfl ?_
  refine sv hF (v_lenS rfl sl37 rfl) rfl ?_; clear hF a; intro a hF
  refine svg hF rfl ?_
  refine sv hF (v_neq rfl rfl) rfl ?_; clear hF a; intro a hF
  refine sv hF (v_pickF rfl rfl) rfl ?_; clear hF a; intro a hF
  refine WL_nil (hK _ _ ?_)
  clear hK K
  replace hF := hF.sub _ (c_ 29 rfl (c_ 7 rfl (c_ 6 rfl (c_ 0 rfl (c_ 1 rfl (c_ 2 rfl (n_)))))))
  refine W_if hF rfl (fun hc2 => ?_) (fun hc2 => ?_)
  ·
   skip
   try simp only [dcl] at hc2
   refine W_sr rfl (fun K hK => ?_)
   refine sv2 hF (v_assign rfl) (v_assign rfl) rfl rfl ?_; clear hF a; intro a hF
   refine WL_nil (hK _ _ ?_)
   clear hK K
   replace hF := hF.sub _ (c_ 7 rfl (c_ 6 rfl (c_ 0 rfl (c_ 1 rfl (c_ 2 rfl (n_))))))
   refine W_ret ?_
   refine ⟨_, _, _, hF, rfl, rfl, ?_⟩
   rw [invR_bad hp (by unfold sqM; rw [hmay, hw0]; simp only [Bool.true_and]; rw [decide_eq_false_iff_not]; omega)]
   exact ⟨_, _, rfl, (MOwn.nil FDx B 0 0 0 _ 37 (Nat.le_refl _)).matS (by decide) (Nat.zero_le _), hS⟩
  ·
   skip
   try simp only [dcl] at hc2
   refine W_skip ?_
   have hsq : sqM (some (wb, p)) mt = true := by unfold sqM; rw [hmay, hw0]; simp only [Bool.true_and]; rw [decide_eq_true_iff]; omega
   obtain ⟨hmx, hn1, hn20, -⟩ := sqM_Mx hsq
   obtain ⟨n, hn⟩ : ∃ n, n = mt.length := ⟨_, rfl⟩
   rw [← hn] at hmx hn1 hn20 hF
   have hbd := hmx.bd hp
   have htab := hmx.eq_tab
   have hid : identM (n : Int) = tab n n I1 := by rw [identM_of ⟨hn1, hn20⟩, idM_tab]; rfl
   clear hk0 hrow0
   refine W_sr rfl (fun K hK => ?_)
   refine sv hF (v_move rfl) rfl ?_; clear hF a; intro a hF
   refine sv hF (v_lenS rfl sl27 rfl) rfl ?_; clear hF a; intro a hF
   refine sv hF (v_assign rfl) rfl ?_; clear hF a; intro a hF
   refine WL_nil (hK _ _ ?_)
   clear hK K
   replace hF := hF.sub _ (c_ 8 rfl (c_ 7 rfl (c_ 6 rfl (c_ 0 rfl (c_ 1 rfl (c_ 2 rfl (n_)))))))
   refine W_sr rfl (fun K hK => ?_)
   refine sv hF (v_move rfl) rfl ?_; clear hF a; intro a hF
   refine sc hF rfl rfl rfl en32 rfl (rIdentity_ok B (n : Int) _ hS.inv (by omega)) ?_; clear hF a; intro v w' a hv hF
   obtain ⟨ob, ho, hS'⟩ := hv
   rw [hid] at ho
   obtain ⟨sI, cI, rfl, hId⟩ := ho.mat (by decide) (Nat.zero_le _)
   rw [tab_length] at hF
   clear ho
   replace hAmt := hAmt.st hS'
   replace hS := hS.trans hS'
   clear hS'
   refine sv hF (v_assign rfl) rfl ?_; clear hF a; intro a hF
   refine WL_nil (hK _ _ ?_)
   clear hK K
   replace hF := hF.sub _ (c_ 9 rfl (c_ 8 rfl (c_ 7 rfl (c_ 6 rfl (c_ 0 rfl (c_ 1 rfl (c_ 2 rfl (n_))))))))
   obtain ⟨K1, hK1⟩ : ∃ k, k = w'.heap.size := ⟨_, rfl⟩
   rw [← hK1] at hId
   have hwK : w.heap.size ≤ K1 := by have := hS.ext.size; omega
   have hKz : K1 ≤ w'.heap.size := by omega
   rw [htab] at hAmt
   clear hK1
   refine W_sr rfl (fun K hK => ?_)
   refine sv hF (v_assign rfl) rfl ?_; clear hF a; intro a hF
   refine WL_nil (hK _ _ ?_)
   clear hK K
   refine W_seq ?_
   refine W_sr rfl (fun K hK => ?_)
   refine sv hF (v_assign rfl) rfl ?_; clear hF a; intro a hF
   refine WL_nil (hK _ _ ?_)
   clear hK K
   refine W_block ?_
   refine W_loop (fun q a w1 => ∃ (i : Nat) (v10 : Value) (b10 : Option Nat), Fr 81 [(0, .int .i64 (wb : Int)), (1, .int .u32 (p : Int)), (2, .slice (some ⟨g0, o0, none⟩) n cmt), (8, .int .i64 (n : Int)), (9, .slice sI n cI), (10, v10), (11, .int .i64 (i : Int))] a ∧ (St FDx B w w1) ∧ (Mat FDx B M w1 (some ⟨g0, o0, none⟩) cmt (tab n n (en mt))) ∧ (Mat FDx B K1 w1 sI cI (tab n n I1)) ∧ (MOwn FDx B K1 0 w1.heap.size w1 37 v10 b10 ((List.range i).map (trow (n + n) (Fld.bes n (en mt) I1)))) ∧ (K1 ≤ w1.heap.size) ∧ (i ≤ n) ∧ (q + i = n)) (n) ?_ ?_
   ·
    skip
    exact ⟨0, _, none, hF.sub _ (c_ 0 rfl (c_ 1 rfl (c_ 2 rfl (c_ 8 rfl (c_ 9 rfl (c_ 10 rfl (c_ 11 rfl (n_)))))))), hS, hAmt, hId, MOwn.nil _ _ _ _ _ _ _ (Nat.zero_le _), hKz, by omega, by omega⟩
   ·
    skip
    clear hF
    clear hS hAmt hId hKz
    rintro q a w1 ⟨i, v10, b10, hF, hS, hAmt, hId, hMO, hKz, hi, hq⟩
    refine W_seq ?_
    obtain ⟨KM, hKe⟩ : ∃ K, K = w1.heap.size := ⟨_, rfl⟩
    rw [← hKe] at hMO
    have hKs : KM ≤ w1.heap.size := by omega
    have hKK : K1 ≤ KM := by omega
    clear hKe
    refine W_sr rfl (fun K hK => ?_)
    refine sv2 hF (v_move rfl) (v_move rfl) rfl rfl ?_; clear hF a; intro a hF
    refine sv hF (v_lss rfl rfl) rfl ?_; clear hF a; intro a hF
    refine WL_nil (hK _ _ ?_)
    clear hK K
    replace hF := hF.sub _ (c_ 36 rfl (c_ 0 rfl (c_ 1 rfl (c_ 2 rfl (c_ 8 rfl (c_ 9 rfl (c_ 10 rfl (c_ 11 rfl (n_)))))))))
    refine W_if hF rfl (fun hc3 => ?_) (fun hc3 => ?_)
    ·
     skip
     try simp only [dcl] at hc3
     have hlt : i < n := by omega
     obtain ⟨ga, oa, pra, cra, hga, hka, hra, -⟩ := hAmt.row (show (tab n n (en mt))[i]? = some (trow n (en mt) i) from tab_at hlt)
     cases hga
     rw [trow_length] at hka hra
     refine W_skip ?_
     refine W_seq ?_
     refine W_block ?_
     refine W_sr rfl (fun K hK => ?_)
     have hKs0 := hKs
     refine s_bs (D := FDx) (B := B) hF sl37 rfl rfl (by decide) (by simp [Value.cells]) (by decide) hS.inv rfl ?_; clear hF a; intro w' a hm hI' hC hF
     replace hAmt := hAmt.mb hm (fun _ h => by cases h)
     replace hId := hId.mb hm (fun _ h => by cases h)
     replace hMO := hMO.mb0 hm
     replace hKz := Nat.le_trans hKz hm.size
     replace hKs := Nat.le_trans hKs hm.size
     replace hka := hka.mb hm (by simp)
     replace hra := hra.mb hm (fun _ h => by cases h)
     replace hS := hS.mb0 hm
     clear hm hI'
     replace hC := hC.le hKs0
     clear hKs0
     refine sv2 hF (v_move rfl) (v_move rfl) rfl rfl ?_; clear hF a; intro a hF
     refine sv hF (v_ixS sl27 rfl rfl (by omega) (by omega)) rfl ?_; clear hF a; intro a hF
     refine sv hF (v_load sc37 rfl (by rw [toNat_c]; exact hka.c)) rfl ?_; clear hF a; intro a hF
     refine s_app (D := FDx) (B := B) hF rfl sl37 rfl rfl hC (hra) (by intro u hu; obtain ⟨_, _, rfl⟩ := List.mem_map.1 hu; rfl) (by simp; omega) (by simp [maxLen]; omega) (hKs) (by decide) hS.inv rfl ?_; clear hF a; intro v' b' w' a ho' hm hI' hb' hF
     replace hAmt := hAmt.mb hm (fun k h => Nat.le_trans (by omega) (hC.lt k h).1)
     replace hId := hId.mb hm (fun k h => Nat.le_trans (by omega) (hC.lt k h).1)
     replace hMO := hMO.mbo hm hC (by decide) (Nat.le_refl _) (Nat.zero_le _)
     replace hKz := Nat.le_trans hKz hm.size
     replace hKs := Nat.le_trans hKs hm.size
     replace hra := hra.mb hm (fun k h => Nat.le_trans (by omega) (hC.lt k h).1)
     replace hS := hS.mb hm (fun k h => Nat.le_trans ((Nat.le_trans hwK hKK)) (hC.lt k h).1)
     replace hC := ho'
     clear hm hI' ho'
     clear hka hra
     refine sv hF (v_assign rfl) rfl ?_; clear hF a; intro a hF
     refine WL_nil (hK _ _ ?_)
     clear hK K
     replace hF := hF.sub _ (c_ 12 rfl (c_ 0 rfl (c_ 1 rfl (c_ 2 rfl (c_ 8 rfl (c_ 9 rfl (c_ 10 rfl (c_ 11 rfl (n_)))))))))
     refine W_sr rfl (fun K hK => ?_)
     refine sv3 hF (v_move rfl) (v_move rfl) (v_move rfl) rfl rfl rfl ?_; clear hF a; intro a hF
     obtain ⟨gb, ob_, prb, crb, hgb, hkb, hrb, -⟩ := hId.row (show (tab n n I1)[i]? = some (trow n I1 i) from tab_at hlt)
     cases hgb
     rw [trow_length] at hkb hrb
     refine sv hF (v_ixS sl27 rfl rfl (by omega) (by omega)) rfl ?_; clear hF a; intro a hF
     refine sv hF (v_load sc37 rfl (by rw [toNat_c]; exact hkb.c)) rfl ?_; clear hF a; intro a hF
     refine s_app (D := FDx) (B := B) hF rfl sl37 rfl rfl hC (hrb) (by intro u hu; obtain ⟨_, _, rfl⟩ := List.mem_map.1 hu; rfl) (by simp; omega) (by simp [maxLen]; omega) (hKs) (by decide) hS.inv rfl ?_; clear hF a; intro v' b' w' a ho' hm hI' hb' hF
     replace hAmt := hAmt.mb hm (fun k h => Nat.le_trans (by omega) (hC.lt k h).1)
     replace hId := hId.mb hm (fun k h => Nat.le_trans (by omega) (hC.lt k h).1)
     replace hMO := hMO.mbo hm hC (by decide) (Nat.le_refl _) (Nat.zero_le _)
     replace hKz := Nat.le_trans hKz hm.size
     replace hKs := Nat.le_trans hKs hm.size
     replace hS := hS.mb hm (fun k h => Nat.le_trans ((Nat.le_trans hwK hKK)) (hC.lt k h).1)
     replace hC := ho'
     clear hm hI' ho'
     clear hkb hrb
     replace hC := hC.cast (ys := zints (trow (n + n) (Fld.bes n (en mt) I1) i)) (by rw [← bes_row]; simp [zints])
     refine sv hF (v_assign rfl) rfl ?_; clear hF a; intro a hF
     refine WL_nil (hK _ _ ?_)
     clear hK K
     replace hF := hF.sub _ (c_ 12 rfl (c_ 0 rfl (c_ 1 rfl (c_ 2 rfl (c_ 8 rfl (c_ 9 rfl (c_ 10 rfl (c_ 11 rfl (n_)))))))))
     refine W_reg rfl (fun K hK => ?_)
     refine sv2 hF (v_move rfl) (v_move rfl) rfl rfl ?_; clear hF a; intro a hF
     obtain ⟨a_, c_r, rfl⟩ := hC.shape
     refine s_bs (D := FDx) (B := B) hF sl27 rfl rfl (by decide) (by simp [Value.cells]) (by decide) hS.inv rfl ?_; clear hF a; intro w' a hm hI' hL hF
     replace hAmt := hAmt.mb hm (fun _ h => by cases h)
     replace hId := hId.mb hm (fun _ h => by cases h)
     replace hMO := hMO.mb0 hm
     replace hKz := Nat.le_trans hKz hm.size
     replace hKs := Nat.le_trans hKs hm.size
     replace hC := hC.mb hm (fun _ _ => by simp)
     replace hS := hS.mb0 hm
     clear hm hI'
     replace hMO := hMO.up hKs
     clear hKs
     refine s_appM (D := FDx) (B := B) hF rfl sl27 rfl rfl hMO hL (.of (r := trow (n + n) (Fld.bes n (en mt) I1) i) hC (Nat.zero_le _)) rfl rfl (by simp; omega) (hKz) (by decide) (by decide) hS.inv rfl ?_; clear hF a; intro v' b' w' a ho' hm hI' hF
     replace hAmt := hAmt.mb hm (fun k h => Nat.le_trans (Nat.le_trans hM hwK) (hMO.lt k h).1)
     replace hId := hId.mb hm (fun k h => Nat.le_trans (Nat.le_refl _) (hMO.lt k h).1)
     replace hKz := Nat.le_trans hKz hm.size
     replace hS := hS.mb hm (fun k h => Nat.le_trans hwK (hMO.lt k h).1)
     have hKm := hm.size
     replace hMO := ho'
     clear hm hI' ho' hL
     refine sv hF (v_assign rfl) rfl ?_; clear hF a; intro a hF
     refine WL_nil (hK _ _ ?_)
     clear hK K
     replace hF := hF.sub _ (c_ 10 rfl (c_ 0 rfl (c_ 1 rfl (c_ 2 rfl (c_ 8 rfl (c_ 9 rfl (c_ 11 rfl (n_))))))))
     refine W_reg rfl (fun K hK => ?_)
     refine sv hF (v_move rfl) rfl ?_; clear hF a; intro a hF
     refine sv hF (v_addI rfl rfl (by omega)) rfl ?_; clear hF a; intro a hF
     refine sv hF (v_assign rfl) rfl ?_; clear hF a; intro a hF
     refine WL_nil (hK _ _ ?_)
     clear hK K
     exact ⟨q - 1, by omega, i + 1, _, _, hF.sub _ (c_ 0 rfl (c_ 1 rfl (c_ 2 rfl (c_ 8 rfl (c_ 9 rfl (c_ 10 rfl (c_ 11 rfl (n_)))))))), hS, hAmt, hId, (hMO.up hKm).cast (by rw [List.range_succ, List.map_append]; rfl), hKz, by omega, by omega⟩
    ·
     skip
     try simp only [dcl] at hc3
     have hin : i = n := by omega
     rw [hin] at hMO
     obtain ⟨sW, cW, rfl, hWd⟩ := hMO.mat (by decide) (Nat.zero_le _)
     rw [show (((List.range n).map (trow (n + n) (Fld.bes n (en mt) I1)))).length = n by simp] at hF
     clear hMO hAmt hId
     refine W_exit rfl ?_
     refine W_sr rfl (fun K hK => ?_)
     refine sv4 hF (v_move rfl) (v_move rfl) (v_move rfl) (v_move rfl) rfl rfl rfl rfl ?_; clear hF a; intro a hF
     refine sc hF rfl rfl rfl en81 rfl (reduced_ok B _ wb p n (n + n) n hp sW cW (Fld.bes n (en mt) I1) _ hS.inv hWd (Nat.le_refl _) (Fld.bes_bd hp.fld hbd hp.fld.I1_bd) (by omega) ⟨by omega, by omega, by omega⟩) ?_; clear hF a; intro v w' a hv hF
     obtain ⟨go, cap, rfl, hRO, hS'⟩ := hv
     obtain ⟨K0, hK0⟩ : ∃ k, k = w'.heap.size := ⟨_, rfl⟩
     have hRd := hRO.matS (by decide) hS'.ext.size
     rw [← hK0] at hRd
     clear hRO hWd
     have hK0z : K0 ≤ w'.heap.size := by omega
     have hwK0 : w.heap.size ≤ K0 := by have := hS'.ext.size; omega
     clear hK0
     replace hS := hS.trans hS'
     clear hS'
     refine sv5 hF (v_move rfl) (v_ext rfl rfl) (v_ext rfl rfl) (v_assign rfl) (v_assign rfl) rfl rfl rfl rfl rfl ?_; clear hF a; intro a hF
     refine WL_nil (hK _ _ ?_)
     clear hK K
     replace hF := hF.sub _ (c_ 14 rfl (c_ 13 rfl (c_ 62 rfl (c_ 61 rfl (c_ 55 rfl (c_ 60 rfl (c_ 59 rfl (c_ 58 rfl (c_ 57 rfl (c_ 56 rfl (c_ 0 rfl (c_ 1 rfl (c_ 2 rfl (c_ 8 rfl (c_ 9 rfl (c_ 10 rfl (c_ 11 rfl (n_))))))))))))))))))
     refine W_seq ?_
     refine W_sr rfl (fun K hK => ?_)
     refine sv2 hF (v_move rfl) (v_move rfl) rfl rfl ?_; clear hF a; intro a hF
     refine sv hF (v_lss rfl rfl) rfl ?_; clear hF a; intro a hF
     refine WL_nil (hK _ _ ?_)
     clear hK K
     refine W_if hF rfl (fun hc4 => ?_) (fun hc4 => ?_)
     ·
      skip
      try simp only [dcl] at hc4
      refine W_sr rfl (fun K hK => ?_)
      refine sv2 hF (v_assign rfl) (v_assign rfl) rfl rfl ?_; clear hF a; intro a hF
      refine WL_nil (hK _ _ ?_)
      clear hK K
      refine W_ret ?_
      refine ⟨_, _, _, hF, rfl, rfl, ?_⟩
      rw [invR_none hp hsq (by rw [← hn]; exact iv_lt hp (by omega))]
      exact ⟨_, _, rfl, (MOwn.nil FDx B 0 0 0 _ 37 (Nat.le_refl _)).matS (by decide) (Nat.zero_le _), hS⟩
     ·
      skip
      try simp only [dcl] at hc4
      have hiv := iv_ge hp (n := n) (f := en mt) (by omega)
      have hinv := invR_some hp hsq (by rw [← hn]; exact hiv)
      rw [← hn] at hinv
      refine W_skip ?_
      refine W_sr rfl (fun K hK => ?_)
      refine sv hF (v_assign rfl) rfl ?_; clear hF a; intro a hF
      refine WL_nil (hK _ _ ?_)
      clear hK K
      refine W_seq ?_
      refine W_sr rfl (fun K hK => ?_)
      refine sv hF (v_assign rfl) rfl ?_; clear hF a; intro a hF
      refine WL_nil (hK _ _ ?_)
      clear hK K
      refine W_block ?_
      refine W_loop (fun q2 a w3 => ∃ (i : Nat) (v15 : Value) (b15 : Option Nat), Fr 81 [(8, .int .i64 (n : Int)), (13, .slice (some ⟨go, 0, none⟩) n cap), (15, v15), (16, .int .i64 (i : Int))] a ∧ (St FDx B w w3) ∧ (Mat FDx B K0 w3 (some ⟨go, 0, none⟩) cap (tab n (n + n) (hp.fld.red n (Fld.bes n (en mt) I1) n).1)) ∧ (MOwn FDx B K0 K0 w3.heap.size w3 37 v15 b15 ((List.range i).map (trow n (half hp n (en mt))))) ∧ (K0 ≤ w3.heap.size) ∧ (i ≤ n) ∧ (q2 + i = n)) (n) ?_ ?_
      ·
       skip
       exact ⟨0, _, none, hF.sub _ (c_ 8 rfl (c_ 13 rfl (c_ 15 rfl (c_ 16 rfl (n_))))), hS, hRd, MOwn.nil _ _ _ _ _ _ _ (Nat.le_refl _), hK0z, by omega, by omega⟩
      ·
       skip
       clear hF
       clear hS hRd hK0z
       rintro q2 a w3 ⟨i, v15, b15, hF, hS, hRd, hMO, hK0z, hi, hq2⟩
       refine W_seq ?_
       obtain ⟨KM, hKe⟩ : ∃ K, K = w3.heap.size := ⟨_, rfl⟩
       rw [← hKe] at hMO
       have hKs : KM ≤ w3.heap.size := by omega
       clear hKe
       refine W_sr rfl (fun K hK => ?_)
       refine sv2 hF (v_move rfl) (v_move rfl) rfl rfl ?_; clear hF a; intro a hF
       refine sv hF (v_lss rfl rfl) rfl ?_; clear hF a; intro a hF
       refine WL_nil (hK _ _ ?_)
       clear hK K
       refine W_if hF rfl (fun hc5 => ?_) (fun hc5 => ?_)
       ·
        skip
        try simp only [dcl] at hc5
        have hlt : i < n := by omega
        obtain ⟨gw, ow, pr, cr, hgw, hkw, hrw, -⟩ := hRd.row (show (tab n (n + n) (hp.fld.red n (Fld.bes n (en mt) I1) n).1)[i]? = some (trow (n + n) (hp.fld.red n (Fld.bes n (en mt) I1) n).1 i) from tab_at hlt)
        cases hgw
        rw [trow_length] at hrw hkw
        have hcr := hrw.capd
        have hpart := hrw.part (lo := n) (hi := n + n) (by omega) (by simp)
        have hhr := half_row hp n (en mt) i
        have hxs : (List.take (n + n) (zints (trow (n + n) (hp.fld.red n (Fld.bes n (en mt) I1) n).1 i))).drop n = zints (trow n (half hp n (en mt)) i) := by
         rw [List.take_of_length_le (by simp), ← hhr]; simp [zints, trow]
        rw [hxs] at hpart
        clear hxs hhr
        refine W_skip ?_
        refine W_seq ?_
        refine W_block ?_
        refine W_reg rfl (fun K hK => ?_)
        refine sv3 hF (v_move rfl) (v_move rfl) (v_move rfl) rfl rfl rfl ?_; clear hF a; intro a hF
        refine sv hF (v_ixS sl27 rfl rfl (by omega) (by omega)) rfl ?_; clear hF a; intro a hF
        refine sv hF (v_load sc37 rfl (by rw [toNat_c]; exact hkw.c)) rfl ?_; clear hF a; intro a hF
        refine sv hF (v_move rfl) rfl ?_; clear hF a; intro a hF
        refine sv hF (v_slLo sl37 rfl rfl (by omega) (by omega)) rfl ?_; clear hF a; intro a hF
        clear hkw hrw
        refine s_bs (D := FDx) (B := B) hF sl27 rfl rfl (by decide) (by simp [Value.cells]) (by decide) hS.inv rfl ?_; clear hF a; intro w' a hm hI' hL hF
        replace hRd := hRd.mb hm (fun _ h => by cases h)
        replace hMO := hMO.mb0 hm
        replace hK0z := Nat.le_trans hK0z hm.size
        replace hKs := Nat.le_trans hKs hm.size
        replace hpart := hpart.mb hm (fun _ h => by cases h)
        replace hS := hS.mb0 hm
        clear hm hI'
        replace hMO := hMO.up hKs
        clear hKs
        refine s_appM (D := FDx) (B := B) hF rfl sl27 rfl rfl hMO hL (.inr hpart) rfl rfl (by simp; omega) (hK0z) (by decide) (by decide) hS.inv rfl ?_; clear hF a; intro v' b' w' a ho' hm hI' hF
        replace hRd := hRd.mb hm (fun k h => Nat.le_trans (Nat.le_refl _) (hMO.lt k h).1)
        replace hK0z := Nat.le_trans hK0z hm.size
        replace hS := hS.mb hm (fun k h => Nat.le_trans hwK0 (hMO.lt k h).1)
        have hKm := hm.size
        replace hMO := ho'
        clear hm hI' ho' hL
        refine sv hF (v_assign rfl) rfl ?_; clear hF a; intro a hF
        refine WL_nil (hK _ _ ?_)
        clear hK K
        refine W_reg rfl (fun K hK => ?_)
        refine sv hF (v_move rfl) rfl ?_; clear hF a; intro a hF
        refine sv hF (v_addI rfl rfl (by omega)) rfl ?_; clear hF a; intro a hF
        refine sv hF (v_assign rfl) rfl ?_; clear hF a; intro a hF
        refine WL_nil (hK _ _ ?_)
        clear hK K
        exact ⟨q2 - 1, by omega, i + 1, _, _, hF.sub _ (c_ 8 rfl (c_ 13 rfl (c_ 15 rfl (c_ 16 rfl (n_))))), hS, hRd, (hMO.up hKm).cast (by rw [List.range_succ, List.map_append]; rfl), hK0z, by omega, by omega⟩
       ·
        skip
        try simp only [dcl] at hc5
        refine W_exit rfl ?_
        refine W_sr rfl (fun K hK => ?_)
        refine sv3 hF (v_move rfl) (v_assign rfl) (v_assign rfl) rfl rfl rfl ?_; clear hF a; intro a hF
        refine WL_nil (hK _ _ ?_)
        clear hK K
        refine W_ret ?_
        refine ⟨_, _, _, hF, rfl, rfl, ?_⟩
        obtain rfl : i = n := by omega
        rw [hinv]
        obtain ⟨su, cu, rfl, hX⟩ := hMO.mat (by decide) (Nat.le_trans hK0z (Nat.le_refl _))
        exact ⟨su, cu, rfl, hX, hS⟩
 ·
  rw [hc1] at hF
  refine sv hF (v_not rfl) rfl ?_; clear hF a; intro a hF
  refine sv hF (v_move rfl) rfl ?_; clear hF a; intro a hF
  refine svn hF rfl rfl rfl ?_; clear hF a; intro a hF
  refine svn hF rfl rfl rfl ?_; clear hF a; intro a hF
  refine svn hF rfl rfl rfl ?_; clear hF a; intro a hF
  refine svn hF rfl rfl rfl ?_; clear hF a; intro a hF
  refine svn hF rfl rfl rfl ?_; clear hF a; intro a hF
  refine svn hF rfl rfl rfl ?_; clear hF a; intro a hF
  refine svn hF rfl rfl rfl ?_; clear hF a; intro a hF
  refine sv hF (v_pickT rfl rfl) rfl ?_; clear hF a; intro a hF
  refine WL_nil (hK _ _ ?_)
  clear hK K
  replace hF := hF.sub _ (c_ 29 rfl (c_ 7 rfl (c_ 6 rfl (c_ 0 rfl (c_ 1 rfl (c_ 2 rfl (n_)))))))
  refine W_ifT hF rfl ?_
  refine W_sr rfl (fun K hK => ?_)
  refine sv2 hF (v_assign rfl) (v_assign rfl) rfl rfl ?_; clear hF a; intro a hF
  refine WL_nil (hK _ _ ?_)
  clear hK K
  replace hF := hF.sub _ (c_ 7 rfl (c_ 6 rfl (c_ 0 rfl (c_ 1 rfl (c_ 2 rfl (n_))))))
  refine W_ret ?_
  refine ⟨_, _, _, hF, rfl, rfl, ?_⟩
  rw [invR_bad hp (by unfold sqM; rw [show mayM (some (wb, p)) mt = false by simpa using hc1]; rfl)]
  exact ⟨_, _, rfl, (MOwn.nil FDx B 0 0 0 _ 37 (Nat.le_refl _)).matS (by decide) (Nat.zero_le _), hS⟩

end Go.Proofs.Ytaeljbdpjiciaaa

/- The walks of gambrelref06: rows of powers. -/
set_option linter.unusedVariables false
set_option linter.unusedSimpArgs false
namespace Go.Proofs.Ytaeljbdpjiciaaa
open Go Go.Gam


namespace FxFRef06
theorem en78 : Ent Try.prog 78 := ent Try.func78 (by kernel_rfl) (by kernel_rfl)
theorem sl27 : Sl Try.prog 27 37 (.slice none 0 0) 24 := sl_of Try.underlying27 rfl (by kernel_rfl)
theorem sl37 : Sl Try.prog 37 3 (.int .i64 0) 8 := sl_of Try.underlying37 rfl (by kernel_rfl)
end FxFRef06
open FxFRef06

theorem pw_cell {wb p : Nat} (hp : Prm wb p) (i j : Nat) : gpow (some (wb, p)) (i : Int) (j : Int) = ((pwT (some (wb, p)) i j : Nat) : Int) := (pwT_nn (fun wb' p' e => by cases e; exact hp) _ _).symm
theorem exp_cell {wb p : Nat} (hp : Prm wb p) (i j : Nat) : gexp (some (wb, p)) ((i * j : Nat) : Int) = ((isT (some (wb, p)) i j : Nat) : Int) := by
 rw [gexp_nat hp, isT_pow hp, hp.fld.pow_mul, hp.pw_pow]
theorem opt_lens {c : Bool} {n m : Nat} {f : Tb} (h : c = true → n ≤ 20 ∧ m ≤ 20) : ((if c = true then some (tab n m f) else none).getD ([] : Mtx)).length ≤ 20 ∧ ∀ r ∈ (if c = true then some (tab n m f) else none).getD ([] : Mtx), r.length ≤ 20 := by
 by_cases e : c = true
 ·
  rw [if_pos e]
  exact ⟨by rw [Option.getD_some, tab_length]; exact (h e).1, fun r hr => by
   rw [Option.getD_some] at hr
   obtain ⟨i, _, rfl⟩ := List.mem_map.1 hr
   rw [List.length_map, List.length_range]; exact (h e).2⟩
 ·
  rw [if_neg e]; simp
theorem rawM_lens (o : Fq) (k m : Int) : ((rawM o k m).getD []).length ≤ 20 ∧ ∀ r ∈ (rawM o k m).getD [], r.length ≤ 20 := opt_lens fun h => by
 unfold rawB at h
 rw [Bool.and_eq_true, decide_eq_true_iff] at h
 omega
theorem isalM_lens (o : Fq) (k m : Int) : ((isalM o k m).getD []).length ≤ 20 ∧ ∀ r ∈ (isalM o k m).getD [], r.length ≤ 20 := opt_lens fun h => by
 have := fitB_iff.1 h
 omega
theorem sysM_lens {wb p : Nat} (hp : Prm wb p) (k m : Int) : ((sysM hp k m).getD []).length ≤ 20 ∧ ∀ r ∈ (sysM hp k m).getD [], r.length ≤ 20 := opt_lens fun h => by
 have := fitB_iff.1 h
 omega

set_option maxRecDepth 100000 in
set_option maxHeartbeats 1000000 in
theorem rRaw_ok (B wb p : Nat) (hp : Prm wb p) (k m : Int) (w : World) (hI : Inv FDx B w) : Ret Try.prog 44 [.int .i64 (wb : Int), .int .u32 (p : Int), .int .i64 k, .int .i64 m] w fun v w' => ∃ ob u, v = .tuple #[u, .bool (rawM (some (wb, p)) k m).isSome] ∧ MOwn FDx B w.heap.size 0 w'.heap.size w' 37 u ob ((rawM (some (wb, p)) k m).getD []) ∧ St FDx B w w' := by
 refine enter2 51 [(0, .int .i64 (wb : Int)), (1, .int .u32 (p : Int)), (2, .int .i64 k), (3, .int .i64 m)] 8 9 Try.func44 rfl rfl rfl rfl rfl ?_; intro a hF
 have hS := St.refl hI
 refine W_sr rfl (fun K hK => ?_)
 refine sv2 hF (v_assign rfl) (v_assign rfl) rfl rfl ?_; clear hF a; intro a hF
 refine WL_nil (hK _ _ ?_)
 clear hK K
 refine W_seq ?_
 refine W_sr rfl (fun K hK => ?_)
 refine sv hF (v_move rfl) rfl ?_; clear hF a; intro a hF
 refine sb hF (v_lss rfl rfl) rfl ?_ ?_
 ·
  clear hF a; intro hc1 a hF
  try simp only [dcl] at hc1
  refine sv hF (v_move rfl) rfl ?_; clear hF a; intro a hF
  refine svn hF rfl rfl rfl ?_; clear hF a; intro a hF
  refine svn hF rfl rfl rfl ?_; clear hF a; intro a hF
  refine sv2 hF (v_pickT rfl rfl) (v_move rfl) rfl rfl ?_; clear hF a; intro a hF
  refine svn hF rfl rfl rfl ?_; clear hF a; intro a hF
  refine svn hF rfl rfl rfl ?_; clear hF a; intro a hF
  refine sv2 hF (v_pickT rfl rfl) (v_move rfl) rfl rfl ?_; clear hF a; intro a hF
  refine svn hF rfl rfl rfl ?_; clear hF a; intro a hF
  refine svn hF rfl rfl rfl ?_; clear hF a; intro a hF
  refine sv hF (v_pickT rfl rfl) rfl ?_; clear hF a; intro a hF
  refine WL_nil (hK _ _ ?_)
  clear hK K
  replace hF := hF.sub _ (c_ 27 rfl (c_ 9 rfl (c_ 8 rfl (c_ 0 rfl (c_ 1 rfl (c_ 2 rfl (c_ 3 rfl (n_))))))))
  refine W_ifT hF rfl ?_
  refine W_sr rfl (fun K hK => ?_)
  refine sv2 hF (v_assign rfl) (v_assign rfl) rfl rfl ?_; clear hF a; intro a hF
  refine WL_nil (hK _ _ ?_)
  clear hK K
  replace hF := hF.sub _ (c_ 9 rfl (c_ 8 rfl (c_ 0 rfl (c_ 1 rfl (c_ 2 rfl (c_ 3 rfl (n_)))))))
  refine W_ret ?_
  refine ⟨_, _, _, hF, rfl, rfl, ?_⟩
  rw [rawM_no (show rawB (some (wb, p)) k m = false by unfold rawB; rw [decide_eq_false (by omega)]; rfl)]
  exact ⟨none, _, rfl, MOwn.nil _ _ _ _ _ _ _ (Nat.zero_le _), hS⟩
 ·
  clear hF a; intro hc1 a hF
  try simp only [dcl] at hc1
  refine sv hF (v_move rfl) rfl ?_; clear hF a; intro a hF
  refine svg hF rfl ?_
  refine sv hF (v_move rfl) rfl ?_; clear hF a; intro a hF
  refine svg hF rfl ?_
  refine sb hF (v_gtr rfl rfl) rfl ?_ ?_
  ·
   clear hF a; intro hc2 a hF
   try simp only [dcl] at hc2
   refine sv2 hF (v_pickF rfl rfl) (v_move rfl) rfl rfl ?_; clear hF a; intro a hF
   refine svn hF rfl rfl rfl ?_; clear hF a; intro a hF
   refine svn hF rfl rfl rfl ?_; clear hF a; intro a hF
   refine sv2 hF (v_pickT rfl rfl) (v_move rfl) rfl rfl ?_; clear hF a; intro a hF
   refine svn hF rfl rfl rfl ?_; clear hF a; intro a hF
   refine svn hF rfl rfl rfl ?_; clear hF a; intro a hF
   refine sv hF (v_pickT rfl rfl) rfl ?_; clear hF a; intro a hF
   refine WL_nil (hK _ _ ?_)
   clear hK K
   replace hF := hF.sub _ (c_ 27 rfl (c_ 9 rfl (c_ 8 rfl (c_ 0 rfl (c_ 1 rfl (c_ 2 rfl (c_ 3 rfl (n_))))))))
   refine W_ifT hF rfl ?_
   refine W_sr rfl (fun K hK => ?_)
   refine sv2 hF (v_assign rfl) (v_assign rfl) rfl rfl ?_; clear hF a; intro a hF
   refine WL_nil (hK _ _ ?_)
   clear hK K
   replace hF := hF.sub _ (c_ 9 rfl (c_ 8 rfl (c_ 0 rfl (c_ 1 rfl (c_ 2 rfl (c_ 3 rfl (n_)))))))
   refine W_ret ?_
   refine ⟨_, _, _, hF, rfl, rfl, ?_⟩
   rw [rawM_no (show rawB (some (wb, p)) k m = false by unfold rawB; rw [decide_eq_false (by omega)]; rfl)]
   exact ⟨none, _, rfl, MOwn.nil _ _ _ _ _ _ _ (Nat.zero_le _), hS⟩
  ·
   clear hF a; intro hc2 a hF
   try simp only [dcl] at hc2
   refine sv2 hF (v_pickF rfl rfl) (v_move rfl) rfl rfl ?_; clear hF a; intro a hF
   refine svg hF rfl ?_
   refine sv hF (v_move rfl) rfl ?_; clear hF a; intro a hF
   refine svg hF rfl ?_
   refine sb hF (v_lss rfl rfl) rfl ?_ ?_
   ·
    clear hF a; intro hc3 a hF
    try simp only [dcl] at hc3
    refine sv2 hF (v_pickF rfl rfl) (v_move rfl) rfl rfl ?_; clear hF a; intro a hF
    refine svn hF rfl rfl rfl ?_; clear hF a; intro a hF
    refine svn hF rfl rfl rfl ?_; clear hF a; intro a hF
    refine sv hF (v_pickT rfl rfl) rfl ?_; clear hF a; intro a hF
    refine WL_nil (hK _ _ ?_)
    clear hK K
    replace hF := hF.sub _ (c_ 27 rfl (c_ 9 rfl (c_ 8 rfl (c_ 0 rfl (c_ 1 rfl (c_ 2 rfl (c_ 3 rfl (n_))))))))
    refine W_ifT hF rfl ?_
    refine W_sr rfl (fun K hK => ?_)
    refine sv2 hF (v_assign rfl) (v_assign rfl) rfl rfl ?_; clear hF a; intro a hF
    refine WL_nil (hK _ _ ?_)
    clear hK K
    replace hF := hF.sub _ (c_ 9 rfl (c_ 8 rfl (c_ 0 rfl (c_ 1 rfl (c_ 2 rfl (c_ 3 rfl (n_)))))))
    refine W_ret ?_
    refine ⟨_, _, _, hF, rfl, rfl, ?_⟩
    rw [rawM_no (show rawB (some (wb, p)) k m = false by unfold rawB; rw [decide_eq_false (by omega)]; rfl)]
    exact ⟨none, _, rfl, MOwn.nil _ _ _ _ _ _ _ (Nat.zero_le _), hS⟩
   ·
    clear hF a; intro hc3 a hF
    try simp only [dcl] at hc3
    refine sv2 hF (v_pickF rfl rfl) (v_move rfl) rfl rfl ?_; clear hF a; intro a hF
    refine svg hF rfl ?_
    refine sv hF (v_move rfl) rfl ?_; clear hF a; intro a hF
    refine svg hF rfl ?_
    refine sv hF (v_gtr rfl rfl) rfl ?_; clear hF a; intro a hF
    refine sv hF (v_pickF rfl rfl) rfl ?_; clear hF a; intro a hF
    refine WL_nil (hK _ _ ?_)
    clear hK K
    replace hF := hF.sub _ (c_ 27 rfl (c_ 9 rfl (c_ 8 rfl (c_ 0 rfl (c_ 1 rfl (c_ 2 rfl (c_ 3 rfl (n_))))))))
    refine W_if hF rfl (fun hc4 => ?_) (fun hc4 => ?_)
    ·
     skip
     try simp only [dcl] at hc4
     refine W_sr rfl (fun K hK => ?_)
     refine sv2 hF (v_assign rfl) (v_assign rfl) rfl rfl ?_; clear hF a; intro a hF
     refine WL_nil (hK _ _ ?_)
     clear hK K
     replace hF := hF.sub _ (c_ 9 rfl (c_ 8 rfl (c_ 0 rfl (c_ 1 rfl (c_ 2 rfl (c_ 3 rfl (n_)))))))
     refine W_ret ?_
     refine ⟨_, _, _, hF, rfl, rfl, ?_⟩
     rw [rawM_no (show rawB (some (wb, p)) k m = false by unfold rawB; rw [decide_eq_false (by omega)]; rfl)]
     exact ⟨none, _, rfl, MOwn.nil _ _ _ _ _ _ _ (Nat.zero_le _), hS⟩
    ·
     skip
     try simp only [dcl] at hc4
     have hb : rawB (some (wb, p)) k m = true := by unfold rawB; rw [decide_eq_true (by omega)]; rfl
     obtain ⟨kn, rfl⟩ : ∃ n : Nat, k = (n : Int) := ⟨k.toNat, by omega⟩
     obtain ⟨mn, rfl⟩ : ∃ n : Nat, m = (n : Int) := ⟨m.toNat, by omega⟩
     refine W_skip ?_
     refine W_sr rfl (fun K hK => ?_)
     refine sv hF (v_assign rfl) rfl ?_; clear hF a; intro a hF
     refine WL_nil (hK _ _ ?_)
     clear hK K
     replace hF := hF.sub _ (c_ 10 rfl (c_ 9 rfl (c_ 8 rfl (c_ 0 rfl (c_ 1 rfl (c_ 2 rfl (c_ 3 rfl (n_))))))))
     refine W_seq ?_
     refine W_sr rfl (fun K hK => ?_)
     refine sv hF (v_assign rfl) rfl ?_; clear hF a; intro a hF
     refine WL_nil (hK _ _ ?_)
     clear hK K
     refine W_block ?_
     refine W_loop (fun q a w1 => ∃ (i : Nat) (v10 : Value) (b10 : Option Nat), Fr 51 [(0, .int .i64 (wb : Int)), (1, .int .u32 (p : Int)), (2, .int .i64 (kn : Int)), (3, .int .i64 (mn : Int)), (10, v10), (11, .int .i64 (i : Int))] a ∧ (St FDx B w w1) ∧ (MOwn FDx B w.heap.size 0 w1.heap.size w1 37 v10 b10 ((List.range i).map (trow mn (pwT (some (wb, p)))))) ∧ (i ≤ kn) ∧ (q + i = kn)) (kn) ?_ ?_
     ·
      skip
      exact ⟨0, _, none, hF.sub _ (c_ 0 rfl (c_ 1 rfl (c_ 2 rfl (c_ 3 rfl (c_ 10 rfl (c_ 11 rfl (n_))))))), hS, MOwn.nil _ _ _ _ _ _ _ (Nat.zero_le _), by omega, by omega⟩
     ·
      skip
      clear hF
      clear hS
      rintro q a w1 ⟨i, v10, b10, hF, hS, hMO, hi, hq⟩
      refine W_seq ?_
      obtain ⟨KM, hKe⟩ : ∃ KM, KM = w1.heap.size := ⟨_, rfl⟩
      rw [← hKe] at hMO
      have hKs : KM ≤ w1.heap.size := by omega
      have hNK : w.heap.size ≤ KM := by have := hS.ext.size; omega
      clear hKe
      refine W_sr rfl (fun K hK => ?_)
      refine sv2 hF (v_move rfl) (v_move rfl) rfl rfl ?_; clear hF a; intro a hF
      refine sv hF (v_lss rfl rfl) rfl ?_; clear hF a; intro a hF
      refine WL_nil (hK _ _ ?_)
      clear hK K
      replace hF := hF.sub _ (c_ 30 rfl (c_ 0 rfl (c_ 1 rfl (c_ 2 rfl (c_ 3 rfl (c_ 10 rfl (c_ 11 rfl (n_))))))))
      refine W_if hF rfl (fun hc5 => ?_) (fun hc5 => ?_)
      ·
       skip
       try simp only [dcl] at hc5
       have hlt : i < kn := by omega
       refine W_skip ?_
       refine W_seq ?_
       refine W_block ?_
       refine W_sr rfl (fun K hK => ?_)
       refine sv hF (v_assign rfl) rfl ?_; clear hF a; intro a hF
       refine WL_nil (hK _ _ ?_)
       clear hK K
       replace hF := hF.sub _ (c_ 12 rfl (c_ 0 rfl (c_ 1 rfl (c_ 2 rfl (c_ 3 rfl (c_ 10 rfl (c_ 11 rfl (n_))))))))
       refine W_seq ?_
       refine W_sr rfl (fun K hK => ?_)
       refine sv hF (v_assign rfl) rfl ?_; clear hF a; intro a hF
       refine WL_nil (hK _ _ ?_)
       clear hK K
       refine W_block ?_
       refine W_loop (fun q2 a w2 => ∃ (j : Nat) (v12 : Value) (b12 : Option Nat), Fr 51 [(0, .int .i64 (wb : Int)), (1, .int .u32 (p : Int)), (2, .int .i64 (kn : Int)), (3, .int .i64 (mn : Int)), (10, v10), (11, .int .i64 (i : Int)), (12, v12), (13, .int .i64 (j : Int))] a ∧ (St FDx B w w2) ∧ (MOwn FDx B w.heap.size 0 KM w2 37 v10 b10 ((List.range i).map (trow mn (pwT (some (wb, p)))))) ∧ (KM ≤ w2.heap.size) ∧ (Gam.Own FDx B KM w2 FDx.E v12 b12 (zints ((List.range j).map fun j => (((pwT (some (wb, p))) i j : Nat) : Int)))) ∧ (j ≤ mn) ∧ (q2 + j = mn)) (mn) ?_ ?_
       ·
        skip
        exact ⟨0, _, none, hF.sub _ (c_ 0 rfl (c_ 1 rfl (c_ 2 rfl (c_ 3 rfl (c_ 10 rfl (c_ 11 rfl (c_ 12 rfl (c_ 13 rfl (n_))))))))), hS, hMO, hKs, Gam.Own.nil _ _ _ _ _, by omega, by omega⟩
       ·
        skip
        clear hF
        clear hS hMO hKs
        rintro q2 a w2 ⟨j, v12, b12, hF, hS, hMO, hKs, hO, hj, hq2⟩
        refine W_seq ?_
        refine W_sr rfl (fun K hK => ?_)
        refine sv2 hF (v_move rfl) (v_move rfl) rfl rfl ?_; clear hF a; intro a hF
        refine sv hF (v_lss rfl rfl) rfl ?_; clear hF a; intro a hF
        refine WL_nil (hK _ _ ?_)
        clear hK K
        replace hF := hF.sub _ (c_ 35 rfl (c_ 0 rfl (c_ 1 rfl (c_ 2 rfl (c_ 3 rfl (c_ 10 rfl (c_ 11 rfl (c_ 12 rfl (c_ 13 rfl (n_))))))))))
        refine W_if hF rfl (fun hc6 => ?_) (fun hc6 => ?_)
        ·
         skip
         try simp only [dcl] at hc6
         have hlt2 : j < mn := by omega
         refine W_skip ?_
         refine W_seq ?_
         refine W_block ?_
         refine W_reg rfl (fun K hK => ?_)
         refine sv5 hF (v_move rfl) (v_move rfl) (v_move rfl) (v_move rfl) (v_move rfl) rfl rfl rfl rfl rfl ?_; clear hF a; intro a hF
         refine sc hF rfl rfl rfl en78 rfl (rPow_gf B wb p (i : Int) (j : Int) _ hS.inv hp (by omega)) ?_; clear hF a; intro v w' a hv hF
         obtain ⟨rfl, hS'⟩ := hv
         replace hMO := hMO.st (by decide) hS'
         replace hKs := Nat.le_trans hKs hS'.ext.size
         replace hO := hO.st (by decide) hS'
         replace hS := hS.trans hS'
         clear hS'
         rw [pw_cell hp] at hF
         refine s_bs (D := FDx) (B := B) hF sl37 rfl rfl (by decide) (by simp [Value.cells]) (by decide) hS.inv rfl ?_; clear hF a; intro w' a hm hI' hL hF
         replace hMO := hMO.mb0 hm
         replace hKs := Nat.le_trans hKs hm.size
         replace hO := hO.mb hm (fun _ _ => by simp)
         replace hS := hS.mb0 hm
         clear hm hI'
         refine s_app (D := FDx) (B := B) hF rfl sl37 rfl rfl hO (hL.row (by decide)) (by simp [Value.oneCell']) (by simp; omega) (by simp [maxLen]; omega) (hKs) (by decide) hS.inv rfl ?_; clear hF a; intro v' b' w' a ho' hm hI' hb' hF
         replace hMO := hMO.mbo hm hO (by decide) (Nat.le_refl _) (Nat.zero_le _)
         replace hKs := Nat.le_trans hKs hm.size
         replace hS := hS.mb hm (fun k h => Nat.le_trans (hNK) (hO.lt k h).1)
         replace hO := ho'
         clear hm hI' ho'
         refine sv hF (v_assign rfl) rfl ?_; clear hF a; intro a hF
         refine WL_nil (hK _ _ ?_)
         clear hK K
         replace hF := hF.sub _ (c_ 12 rfl (c_ 0 rfl (c_ 1 rfl (c_ 2 rfl (c_ 3 rfl (c_ 10 rfl (c_ 11 rfl (c_ 13 rfl (n_)))))))))
         refine W_reg rfl (fun K hK => ?_)
         refine sv hF (v_move rfl) rfl ?_; clear hF a; intro a hF
         refine sv hF (v_addI rfl rfl (by omega)) rfl ?_; clear hF a; intro a hF
         refine sv hF (v_assign rfl) rfl ?_; clear hF a; intro a hF
         refine WL_nil (hK _ _ ?_)
         clear hK K
         exact ⟨q2 - 1, by omega, j + 1, _, _, hF.sub _ (c_ 0 rfl (c_ 1 rfl (c_ 2 rfl (c_ 3 rfl (c_ 10 rfl (c_ 11 rfl (c_ 12 rfl (c_ 13 rfl (n_))))))))), hS, hMO, hKs, hO.cast (by rw [List.range_succ, List.map_append]; simp [zints]), by omega, by omega⟩
        ·
         skip
         try simp only [dcl] at hc6
         have hjm : j = mn := by omega
         rw [hjm] at hO
         refine W_exit rfl ?_
         refine W_reg rfl (fun K hK => ?_)
         refine sv2 hF (v_move rfl) (v_move rfl) rfl rfl ?_; clear hF a; intro a hF
         obtain ⟨a_, c_r, rfl⟩ := hO.shape
         refine s_bs (D := FDx) (B := B) hF sl27 rfl rfl (by decide) (by simp [Value.cells]) (by decide) hS.inv rfl ?_; clear hF a; intro w' a hm hI' hL hF
         replace hMO := hMO.mb0 hm
         replace hKs := Nat.le_trans hKs hm.size
         replace hO := hO.mb hm (fun _ _ => by simp)
         replace hS := hS.mb0 hm
         clear hm hI'
         replace hMO := hMO.up hKs
         clear hKs
         refine s_appM (D := FDx) (B := B) hF rfl sl27 rfl rfl hMO hL (.of (r := trow mn (pwT (some (wb, p))) i) hO (Nat.zero_le _)) rfl rfl (by simp; omega) (hS.ext.size) (by decide) (by decide) hS.inv rfl ?_; clear hF a; intro v' b' w' a ho' hm hI' hF
         replace hS := hS.mb hm (fun k h => (hMO.lt k h).1)
         have hKm := hm.size
         replace hMO := ho'
         clear hm hI' ho' hL
         refine sv hF (v_assign rfl) rfl ?_; clear hF a; intro a hF
         refine WL_nil (hK _ _ ?_)
         clear hK K
         replace hF := hF.sub _ (c_ 10 rfl (c_ 49 rfl (c_ 48 rfl (c_ 47 rfl (c_ 46 rfl (c_ 0 rfl (c_ 1 rfl (c_ 2 rfl (c_ 3 rfl (c_ 11 rfl (c_ 12 rfl (c_ 13 rfl (n_)))))))))))))
         refine W_reg rfl (fun K hK => ?_)
         refine sv hF (v_move rfl) rfl ?_; clear hF a; intro a hF
         refine sv hF (v_addI rfl rfl (by omega)) rfl ?_; clear hF a; intro a hF
         refine sv hF (v_assign rfl) rfl ?_; clear hF a; intro a hF
         refine WL_nil (hK _ _ ?_)
         clear hK K
         exact ⟨q - 1, by omega, i + 1, _, _, hF.sub _ (c_ 0 rfl (c_ 1 rfl (c_ 2 rfl (c_ 3 rfl (c_ 10 rfl (c_ 11 rfl (n_))))))), hS, (hMO.up hKm).cast (by rw [List.range_succ, List.map_append]; rfl), by omega, by omega⟩
      ·
       skip
       try simp only [dcl] at hc5
       refine W_exit rfl ?_
       refine W_sr rfl (fun K hK => ?_)
       refine sv3 hF (v_move rfl) (v_assign rfl) (v_assign rfl) rfl rfl rfl ?_; clear hF a; intro a hF
       refine WL_nil (hK _ _ ?_)
       clear hK K
       replace hF := hF.sub _ (c_ 9 rfl (c_ 8 rfl (c_ 50 rfl (c_ 0 rfl (c_ 1 rfl (c_ 2 rfl (c_ 3 rfl (c_ 10 rfl (c_ 11 rfl (n_))))))))))
       refine W_ret ?_
       refine ⟨_, _, _, hF, rfl, rfl, ?_⟩
       obtain rfl : i = kn := by omega
       rw [show rawM (some (wb, p)) (i : Int) (mn : Int) = some (tab i mn (pwT (some (wb, p)))) by unfold rawM; rw [if_pos hb]; rfl]
       exact ⟨_, _, rfl, (hMO.up hKs).cast rfl, hS⟩

set_option maxRecDepth 100000 in
set_option maxHeartbeats 1000000 in
theorem rFits_ok (wb p : Nat) (k m : Int) (w : World) : Ret Try.prog 43 [.int .i64 k, .int .i64 m] w fun v w' => v = .bool (fitB (some (wb, p)) k m) ∧ w' = w := by
 refine enter 25 [(0, .int .i64 k), (1, .int .i64 m)] 4 Try.func43 rfl rfl rfl rfl rfl ?_; intro a hF
 refine W_sr rfl (fun K hK => ?_)
 refine sv hF (v_assign rfl) rfl ?_; clear hF a; intro a hF
 refine WL_nil (hK _ _ ?_)
 clear hK K
 refine W_sr rfl (fun K hK => ?_)
 refine sv hF (v_move rfl) rfl ?_; clear hF a; intro a hF
 refine sb hF (v_geq rfl rfl) rfl ?_ ?_
 ·
  clear hF a; intro hc1 a hF
  try simp only [dcl] at hc1
  refine sv hF (v_move rfl) rfl ?_; clear hF a; intro a hF
  refine svg hF rfl ?_
  refine sv hF (v_move rfl) rfl ?_; clear hF a; intro a hF
  refine svg hF rfl ?_
  refine sb hF (v_leq rfl rfl) rfl ?_ ?_
  ·
   clear hF a; intro hc2 a hF
   try simp only [dcl] at hc2
   refine sv2 hF (v_pickT rfl rfl) (v_move rfl) rfl rfl ?_; clear hF a; intro a hF
   refine svg hF rfl ?_
   refine sv hF (v_move rfl) rfl ?_; clear hF a; intro a hF
   refine svg hF rfl ?_
   refine sb hF (v_geq rfl rfl) rfl ?_ ?_
   ·
    clear hF a; intro hc3 a hF
    try simp only [dcl] at hc3
    refine sv2 hF (v_pickT rfl rfl) (v_move rfl) rfl rfl ?_; clear hF a; intro a hF
    refine svg hF rfl ?_
    refine sv hF (v_move rfl) rfl ?_; clear hF a; intro a hF
    refine svg hF rfl ?_
    refine sb hF (v_leq rfl rfl) rfl ?_ ?_
    ·
     clear hF a; intro hc4 a hF
     try simp only [dcl] at hc4
     refine sv2 hF (v_pickT rfl rfl) (v_move rfl) rfl rfl ?_; clear hF a; intro a hF
     refine svg hF rfl ?_
     refine sv hF (v_move rfl) rfl ?_; clear hF a; intro a hF
     refine svg hF rfl ?_
     refine sv hF (v_move rfl) rfl ?_; clear hF a; intro a hF
     refine svg hF rfl ?_
     refine sv hF (v_addI rfl rfl (by omega)) rfl ?_; clear hF a; intro a hF
     refine svg hF rfl ?_
     refine sv hF (v_leq rfl rfl) rfl ?_; clear hF a; intro a hF
     refine sv2 hF (v_pickT rfl rfl) (v_assign rfl) rfl rfl ?_; clear hF a; intro a hF
     refine WL_nil (hK _ _ ?_)
     clear hK K
     replace hF := hF.sub _ (c_ 4 rfl (n_))
     refine W_ret ?_
     refine ⟨_, _, hF, rfl, ?_⟩
     refine ⟨congrArg Value.bool ?_, rfl⟩
     unfold fitB
     simp only [Option.isSome_some, Bool.true_and]
     first | (symm; rw [decide_eq_false_iff_not]; omega) | (rw [decide_eq_decide]; omega)
    ·
     clear hF a; intro hc4 a hF
     try simp only [dcl] at hc4
     refine sv2 hF (v_pickT rfl rfl) (v_move rfl) rfl rfl ?_; clear hF a; intro a hF
     refine svn hF rfl rfl rfl ?_; clear hF a; intro a hF
     refine svn hF rfl rfl rfl ?_; clear hF a; intro a hF
     refine svn hF rfl rfl rfl ?_; clear hF a; intro a hF
     refine svn hF rfl rfl rfl ?_; clear hF a; intro a hF
     refine sv2 hF (v_pickF rfl rfl) (v_assign rfl) rfl rfl ?_; clear hF a; intro a hF
     refine WL_nil (hK _ _ ?_)
     clear hK K
     replace hF := hF.sub _ (c_ 4 rfl (n_))
     refine W_ret ?_
     refine ⟨_, _, hF, rfl, ?_⟩
     refine ⟨congrArg Value.bool ?_, rfl⟩
     unfold fitB
     simp only [Option.isSome_some, Bool.true_and]
     first | (symm; rw [decide_eq_false_iff_not]; omega) | (rw [decide_eq_decide]; omega)
   ·
    clear hF a; intro hc3 a hF
    try simp only [dcl] at hc3
    refine sv2 hF (v_pickT rfl rfl) (v_move rfl) rfl rfl ?_; clear hF a; intro a hF
    refine svn hF rfl rfl rfl ?_; clear hF a; intro a hF
    refine svn hF rfl rfl rfl ?_; clear hF a; intro a hF
    refine sv2 hF (v_pickF rfl rfl) (v_move rfl) rfl rfl ?_; clear hF a; intro a hF
    refine svn hF rfl rfl rfl ?_; clear hF a; intro a hF
    refine svn hF rfl rfl rfl ?_; clear hF a; intro a hF
    refine svn hF rfl rfl rfl ?_; clear hF a; intro a hF
    refine svn hF rfl rfl rfl ?_; clear hF a; intro a hF
    refine sv2 hF (v_pickF rfl rfl) (v_assign rfl) rfl rfl ?_; clear hF a; intro a hF
    refine WL_nil (hK _ _ ?_)
    clear hK K
    replace hF := hF.sub _ (c_ 4 rfl (n_))
    refine W_ret ?_
    refine ⟨_, _, hF, rfl, ?_⟩
    refine ⟨congrArg Value.bool ?_, rfl⟩
    unfold fitB
    simp only [Option.isSome_some, Bool.true_and]
    first | (symm; rw [decide_eq_false_iff_not]; omega) | (rw [decide_eq_decide]; omega)
  ·
   clear hF a; intro hc2 a hF
   try simp only [dcl] at hc2
   refine sv2 hF (v_pickT rfl rfl) (v_move rfl) rfl rfl ?_; clear hF a; intro a hF
   refine svn hF rfl rfl rfl ?_; clear hF a; intro a hF
   refine svn hF rfl rfl rfl ?_; clear hF a; intro a hF
   refine sv2 hF (v_pickF rfl rfl) (v_move rfl) rfl rfl ?_; clear hF a; intro a hF
   refine svn hF rfl rfl rfl ?_; clear hF a; intro a hF
   refine svn hF rfl rfl rfl ?_; clear hF a; intro a hF
   refine sv2 hF (v_pickF rfl rfl) (v_move rfl) rfl rfl ?_; clear hF a; intro a hF
   refine svn hF rfl rfl rfl ?_; clear hF a; intro a hF
   refine svn hF rfl rfl rfl ?_; clear hF a; intro a hF
   refine svn hF rfl rfl rfl ?_; clear hF a; intro a hF
   refine svn hF rfl rfl rfl ?_; clear hF a; intro a hF
   refine sv2 hF (v_pickF rfl rfl) (v_assign rfl) rfl rfl ?_; clear hF a; intro a hF
   refine WL_nil (hK _ _ ?_)
   clear hK K
   replace hF := hF.sub _ (c_ 4 rfl (n_))
   refine W_ret ?_
   refine ⟨_, _, hF, rfl, ?_⟩
   refine ⟨congrArg Value.bool ?_, rfl⟩
   unfold fitB
   simp only [Option.isSome_some, Bool.true_and]
   first | (symm; rw [decide_eq_false_iff_not]; omega) | (rw [decide_eq_decide]; omega)
 ·
  clear hF a; intro hc1 a hF
  try simp only [dcl] at hc1
  refine sv hF (v_move rfl) rfl ?_; clear hF a; intro a hF
  refine svn hF rfl rfl rfl ?_; clear hF a; intro a hF
  refine svn hF rfl rfl rfl ?_; clear hF a; intro a hF
  refine sv2 hF (v_pickF rfl rfl) (v_move rfl) rfl rfl ?_; clear hF a; intro a hF
  refine svn hF rfl rfl rfl ?_; clear hF a; intro a hF
  refine svn hF rfl rfl rfl ?_; clear hF a; intro a hF
  refine sv2 hF (v_pickF rfl rfl) (v_move rfl) rfl rfl ?_; clear hF a; intro a hF
  refine svn hF rfl rfl rfl ?_; clear hF a; intro a hF
  refine svn hF rfl rfl rfl ?_; clear hF a; intro a hF
  refine sv2 hF (v_pickF rfl rfl) (v_move rfl) rfl rfl ?_; clear hF a; intro a hF
  refine svn hF rfl rfl rfl ?_; clear hF a; intro a hF
  refine svn hF rfl rfl rfl ?_; clear hF a; intro a hF
  refine svn hF rfl rfl rfl ?_; clear hF a; intro a hF
  refine svn hF rfl rfl rfl ?_; clear hF a; intro a hF
  refine sv2 hF (v_pickF rfl rfl) (v_assign rfl) rfl rfl ?_; clear hF a; intro a hF
  refine WL_nil (hK _ _ ?_)
  clear hK K
  replace hF := hF.sub _ (c_ 4 rfl (n_))
  refine W_ret ?_
  refine ⟨_, _, hF, rfl, ?_⟩
  refine ⟨congrArg Value.bool ?_, rfl⟩
  unfold fitB
  simp only [Option.isSome_some, Bool.true_and]
  first | (symm; rw [decide_eq_false_iff_not]; omega) | (rw [decide_eq_decide]; omega)

end Go.Proofs.Ytaeljbdpjiciaaa

/- The walks of gambrelref07: rows of powers, parity rows. -/
set_option linter.unusedVariables false
set_option linter.unusedSimpArgs false
namespace Go.Proofs.Ytaeljbdpjiciaaa
open Go Go.Gam


namespace FxFRef07
theorem en43 : Ent Try.prog 43 := ent Try.func43 (by kernel_rfl) (by kernel_rfl)
theorem en44 : Ent Try.prog 44 := ent Try.func44 (by kernel_rfl) (by kernel_rfl)
theorem en83 : Ent Try.prog 83 := ent Try.func83 (by kernel_rfl) (by kernel_rfl)
theorem on37 : Gam.One Try.prog 37 := by unfold Gam.One; kernel_rfl
theorem sl27 : Sl Try.prog 27 37 (.slice none 0 0) 24 := sl_of Try.underlying27 rfl (by kernel_rfl)
theorem sl37 : Sl Try.prog 37 3 (.int .i64 0) 8 := sl_of Try.underlying37 rfl (by kernel_rfl)
end FxFRef07
open FxFRef07

theorem gdiv_fld {wb p a b : Nat} (hp : Prm wb p) (ha : a < 2 ^ wb) (hb : b < 2 ^ wb) (h0 : b ≠ 0) : gdiv (some (wb, p)) (a : Int) (b : Int) = ((hp.fld.mul a (hp.fld.inv b) : Nat) : Int) := by
 have hib := hp.fld.inv_lt b
 rw [hp.fld_w] at hib
 rw [gdiv_in (by rw [gdivb_nat hp ha hb]; exact decide_eq_true h0), ginv_fld hp hb h0, gmul_num hp ha hib]
theorem ext_set {wb p k m : Nat} (hk : 1 ≤ k) : (tab (k + m) k (pwT (some (wb, p)))).set (k + m - 1) (trow k (extT (some (wb, p)) k m) (k + m - 1)) = tab (k + m) k (extT (some (wb, p)) k m) :=
 tab_set rfl fun a ha hne j hj => by unfold extT; rw [if_neg hne]
theorem ext_part {wb p k m j : Nat} : ((extT (some (wb, p)) k m (k + m - 1) j : Nat) : Int) = if j = k - 1 then 1 else 0 := by
 unfold extT; rw [if_pos rfl]; split <;> rfl
theorem par_scaled {wb p k m i j : Nat} (hp : Prm wb p) (hk : 1 ≤ k) (hm : 1 ≤ m) (h20 : k + m ≤ 20) (hi : i < m) (hj : j < k) : hp.fld.mul (jC hp k m i j) (hp.fld.inv (jC hp k m i 0)) = parT hp k m i j := by
 by_cases e : i = 0
 ·
  subst e
  have h1 : ∀ j, j < k → jC hp k m 0 j = 1 := fun j hj => by rw [← parT_zero hp]; exact parT_top hp hk hm h20 hj
  have h2 : hp.fld.mul (hp.fld.inv 1) 1 = 1 := hp.fld.inv_mul hp.fld.one_lt (by decide)
  rw [h1 j hj, h1 0 (by omega), parT_zero hp, h1 j hj, hp.fld.comm]
  exact h2
 ·
  rw [parT_pos hp e]

set_option maxRecDepth 100000 in
set_option maxHeartbeats 1000000 in
theorem over_ok (B wb p x y : Nat) (hp : Prm wb p) (w : World) (hI : Inv FDx B w) (ha : x < 2 ^ wb) (hb : y < 2 ^ wb) (h0 : y ≠ 0) : Ret Try.prog 50 [.int .i64 (wb : Int), .int .u32 (p : Int), .int .i64 (x : Int), .int .i64 (y : Int)] w fun v w' => v = .int .i64 ((hp.fld.mul x (hp.fld.inv y) : Nat) : Int) ∧ St FDx B w w' := by
 refine enter 20 [(0, .int .i64 (wb : Int)), (1, .int .u32 (p : Int)), (2, .int .i64 (x : Int)), (3, .int .i64 (y : Int))] 8 Try.func50 rfl rfl rfl rfl rfl ?_; intro a hF
 have hS := St.refl hI
 refine W_sr rfl (fun K hK => ?_)
 refine sv hF (v_assign rfl) rfl ?_; clear hF a; intro a hF
 refine WL_nil (hK _ _ ?_)
 clear hK K
 refine W_sr rfl (fun K hK => ?_)
 refine sv4 hF (v_move rfl) (v_move rfl) (v_move rfl) (v_move rfl) rfl rfl rfl rfl ?_; clear hF a; intro a hF
 refine sc hF rfl rfl rfl en83 rfl (rDiv_gf B wb p (x : Int) (y : Int) _ hS.inv hp) ?_; clear hF a; intro v w' a hv hF
 obtain ⟨rfl, hS'⟩ := hv
 replace hS := hS.trans hS'
 clear hS'
 rw [gdiv_fld hp ha hb h0] at hF
 refine sv5 hF (v_move rfl) (v_ext rfl rfl) (v_ext rfl rfl) (v_assign rfl) (v_assign rfl) rfl rfl rfl rfl rfl ?_; clear hF a; intro a hF
 refine WL_nil (hK _ _ ?_)
 clear hK K
 replace hF := hF.sub _ (c_ 9 rfl (c_ 8 rfl (n_)))
 refine W_sr rfl (fun K hK => ?_)
 refine sv2 hF (v_move rfl) (v_assign rfl) rfl rfl ?_; clear hF a; intro a hF
 refine WL_nil (hK _ _ ?_)
 clear hK K
 replace hF := hF.sub _ (c_ 8 rfl (n_))
 refine W_ret ?_
 refine ⟨_, _, hF, rfl, ?_⟩
 exact ⟨rfl, hS⟩

set_option maxRecDepth 100000 in
set_option maxHeartbeats 1000000 in
theorem rExtended_ok (B wb p : Nat) (hp : Prm wb p) (k m : Int) (w : World) (hI : Inv FDx B w) : Ret Try.prog 17 [.int .i64 (wb : Int), .int .u32 (p : Int), .int .i64 k, .int .i64 m] w fun v w' => ∃ ob u, v = .tuple #[u, .bool (extM (some (wb, p)) k m).isSome] ∧ MOwn FDx B w.heap.size 0 w'.heap.size w' 37 u ob ((extM (some (wb, p)) k m).getD []) ∧ St FDx B w w' := by
 refine enter2 50 [(0, .int .i64 (wb : Int)), (1, .int .u32 (p : Int)), (2, .int .i64 k), (3, .int .i64 m)] 8 9 Try.func17 rfl rfl rfl rfl rfl ?_; intro a hF
 have hS := St.refl hI
 refine W_sr rfl (fun K hK => ?_)
 refine sv2 hF (v_assign rfl) (v_assign rfl) rfl rfl ?_; clear hF a; intro a hF
 refine WL_nil (hK _ _ ?_)
 clear hK K
 refine W_seq ?_
 refine W_sr rfl (fun K hK => ?_)
 refine sv2 hF (v_move rfl) (v_move rfl) rfl rfl ?_; clear hF a; intro a hF
 refine sc hF rfl rfl rfl en43 rfl (rFits_ok wb p k m _) ?_; clear hF a; intro v w' a hv hF
 obtain ⟨rfl, hw⟩ := hv
 obtain rfl := hw.symm
 have hS' := St.refl hS.inv
 replace hS := hS.trans hS'
 clear hS'
 refine sv hF (v_not rfl) rfl ?_; clear hF a; intro a hF
 refine WL_nil (hK _ _ ?_)
 clear hK K
 replace hF := hF.sub _ (c_ 18 rfl (c_ 9 rfl (c_ 8 rfl (c_ 0 rfl (c_ 1 rfl (c_ 2 rfl (c_ 3 rfl (n_))))))))
 refine W_if hF rfl (fun hc1 => ?_) (fun hc1 => ?_)
 ·
  skip
  try simp only [dcl] at hc1
  refine W_sr rfl (fun K hK => ?_)
  refine sv2 hF (v_assign rfl) (v_assign rfl) rfl rfl ?_; clear hF a; intro a hF
  refine WL_nil (hK _ _ ?_)
  clear hK K
  replace hF := hF.sub _ (c_ 9 rfl (c_ 8 rfl (c_ 0 rfl (c_ 1 rfl (c_ 2 rfl (c_ 3 rfl (n_)))))))
  refine W_ret ?_
  refine ⟨_, _, _, hF, rfl, rfl, ?_⟩
  rw [extM_no (show fitB (some (wb, p)) k m = false by simpa using hc1)]
  exact ⟨none, _, rfl, MOwn.nil _ _ _ _ _ _ _ (Nat.zero_le _), hS⟩
 ·
  skip
  try simp only [dcl] at hc1
  refine W_skip ?_
  have hb : fitB (some (wb, p)) k m = true := by simpa using hc1
  obtain ⟨-, hb2⟩ := fitB_iff.1 hb
  obtain ⟨kn, rfl⟩ : ∃ n : Nat, k = (n : Int) := ⟨k.toNat, by omega⟩
  obtain ⟨mn, rfl⟩ : ∃ n : Nat, m = (n : Int) := ⟨m.toNat, by omega⟩
  have hraw : rawM (some (wb, p)) ((kn + mn : Nat) : Int) (kn : Int) = some (tab (kn + mn) kn (pwT (some (wb, p)))) := by unfold rawM rawB; rw [if_pos (by rw [decide_eq_true (by omega)]; rfl)]; rfl
  refine W_sr rfl (fun K hK => ?_)
  refine sv4 hF (v_move rfl) (v_move rfl) (v_move rfl) (v_move rfl) rfl rfl rfl rfl ?_; clear hF a; intro a hF
  refine sv hF ((v_addI rfl rfl (by omega)).as (show Value.int .i64 ((kn : Int) + (mn : Int)) = .int .i64 ((kn + mn : Nat) : Int) by simp)) rfl ?_; clear hF a; intro a hF
  refine sv hF (v_move rfl) rfl ?_; clear hF a; intro a hF
  refine sc hF rfl rfl rfl en44 rfl (rRaw_ok B wb p hp ((kn + mn : Nat) : Int) (kn : Int) _ hS.inv) ?_; clear hF a; intro v w' a hv hF
  obtain ⟨ob, u, rfl, hMO, hS'⟩ := hv
  rw [hraw] at hMO hF
  simp only [Option.getD_some] at hMO
  replace hMO := hMO.le hS.ext.size (Nat.zero_le _)
  obtain ⟨go, cap, rfl, rfl⟩ := hMO.ptr (by rw [tab_length]; omega)
  rw [tab_length] at hMO hF
  obtain ⟨KM, hKe⟩ : ∃ K, K = w'.heap.size := ⟨_, rfl⟩
  rw [← hKe] at hMO
  have hKs : KM ≤ w'.heap.size := by omega
  have hNK : w.heap.size ≤ KM := by have := hS'.ext.size; have := hS.ext.size; omega
  clear hKe
  replace hS := hS.trans hS'
  clear hS'
  refine sv5 hF (v_move rfl) (v_ext rfl rfl) (v_ext rfl rfl) (v_assign rfl) (v_assign rfl) rfl rfl rfl rfl rfl ?_; clear hF a; intro a hF
  refine WL_nil (hK _ _ ?_)
  clear hK K
  replace hF := hF.sub _ (c_ 10 rfl (c_ 9 rfl (c_ 8 rfl (c_ 2 rfl (c_ 3 rfl (n_))))))
  refine W_sr rfl (fun K hK => ?_)
  refine sv hF (v_assign rfl) rfl ?_; clear hF a; intro a hF
  refine WL_nil (hK _ _ ?_)
  clear hK K
  refine W_seq ?_
  refine W_sr rfl (fun K hK => ?_)
  refine sv hF (v_assign rfl) rfl ?_; clear hF a; intro a hF
  refine WL_nil (hK _ _ ?_)
  clear hK K
  refine W_block ?_
  refine W_loop (fun q a w1 => ∃ (j : Nat) (v12 : Value) (b12 : Option Nat), Fr 50 [(2, .int .i64 (kn : Int)), (3, .int .i64 (mn : Int)), (10, .slice (some ⟨go, 0, none⟩) (kn + mn) cap), (12, v12), (13, .int .i64 (j : Int))] a ∧ (St FDx B w w1) ∧ (MOwn FDx B w.heap.size 0 KM w1 37 (.slice (some ⟨go, 0, none⟩) (kn + mn) cap) (some go) (tab (kn + mn) kn (pwT (some (wb, p))))) ∧ (KM ≤ w1.heap.size) ∧ (Gam.Own FDx B KM w1 FDx.E v12 b12 (zints ((List.range j).map fun j => ((extT (some (wb, p)) kn mn (kn + mn - 1) j : Nat) : Int)))) ∧ (j ≤ kn) ∧ (q + j = kn)) (kn) ?_ ?_
  ·
   skip
   exact ⟨0, _, none, hF.sub _ (c_ 2 rfl (c_ 3 rfl (c_ 10 rfl (c_ 12 rfl (c_ 13 rfl (n_)))))), hS, hMO, hKs, Gam.Own.nil _ _ _ _ _, by omega, by omega⟩
  ·
   skip
   clear hF
   clear hS hMO hKs
   rintro q a w1 ⟨j, v12, b12, hF, hS, hMO, hKs, hO, hj, hq⟩
   refine W_seq ?_
   refine W_sr rfl (fun K hK => ?_)
   refine sv2 hF (v_move rfl) (v_move rfl) rfl rfl ?_; clear hF a; intro a hF
   refine sv hF (v_lss rfl rfl) rfl ?_; clear hF a; intro a hF
   refine WL_nil (hK _ _ ?_)
   clear hK K
   replace hF := hF.sub _ (c_ 31 rfl (c_ 2 rfl (c_ 3 rfl (c_ 10 rfl (c_ 12 rfl (c_ 13 rfl (n_)))))))
   refine W_if hF rfl (fun hc2 => ?_) (fun hc2 => ?_)
   ·
    skip
    try simp only [dcl] at hc2
    have hlt : j < kn := by omega
    refine W_skip ?_
    refine W_seq ?_
    refine W_block ?_
    refine W_sr rfl (fun K hK => ?_)
    refine sv hF (v_assign rfl) rfl ?_; clear hF a; intro a hF
    refine WL_nil (hK _ _ ?_)
    clear hK K
    replace hF := hF.sub _ (c_ 14 rfl (c_ 2 rfl (c_ 3 rfl (c_ 10 rfl (c_ 12 rfl (c_ 13 rfl (n_)))))))
    refine W_seq ?_
    refine W_sr rfl (fun K hK => ?_)
    refine sv2 hF (v_move rfl) (v_move rfl) rfl rfl ?_; clear hF a; intro a hF
    refine sv hF (v_subI rfl rfl (by omega)) rfl ?_; clear hF a; intro a hF
    refine sv hF (v_eql rfl rfl) rfl ?_; clear hF a; intro a hF
    refine WL_nil (hK _ _ ?_)
    clear hK K
    replace hF := hF.sub _ (c_ 37 rfl (c_ 14 rfl (c_ 2 rfl (c_ 3 rfl (c_ 10 rfl (c_ 12 rfl (c_ 13 rfl (n_))))))))
    refine W_if hF rfl (fun hc3 => ?_) (fun hc3 => ?_)
    ·
     skip
     try simp only [dcl] at hc3
     have hcell : List.map (fun j => ((extT (some (wb, p)) kn mn (kn + mn - 1) j : Nat) : Int)) [j] = [1] := by simp only [List.map_cons, List.map_nil]; rw [ext_part, if_pos (by omega)]
     refine W_reg rfl (fun K hK => ?_)
     refine sv hF (v_assign rfl) rfl ?_; clear hF a; intro a hF
     refine WL_nil (hK _ _ ?_)
     clear hK K
     replace hF := hF.sub _ (c_ 14 rfl (c_ 2 rfl (c_ 3 rfl (c_ 10 rfl (c_ 12 rfl (c_ 13 rfl (n_)))))))
     refine W_reg rfl (fun K hK => ?_)
     refine sv2 hF (v_move rfl) (v_move rfl) rfl rfl ?_; clear hF a; intro a hF
     refine s_bs (D := FDx) (B := B) hF sl37 rfl rfl (by decide) (by simp [Value.cells]) (by decide) hS.inv rfl ?_; clear hF a; intro w' a hm hI' hL hF
     replace hMO := hMO.mb0 hm
     replace hKs := Nat.le_trans hKs hm.size
     replace hO := hO.mb hm (fun _ _ => by simp)
     replace hS := hS.mb0 hm
     clear hm hI'
     refine s_app (D := FDx) (B := B) hF rfl sl37 rfl rfl hO (hL.row (by decide)) (by simp [Value.oneCell']) (by simp; omega) (by simp [maxLen]; omega) (hKs) (by decide) hS.inv rfl ?_; clear hF a; intro v' b' w' a ho' hm hI' hb' hF
     replace hMO := hMO.mbo hm hO (by decide) (Nat.le_refl _) (Nat.zero_le _)
     replace hKs := Nat.le_trans hKs hm.size
     replace hS := hS.mb hm (fun k h => Nat.le_trans (hNK) (hO.lt k h).1)
     replace hO := ho'
     clear hm hI' ho'
     refine sv hF (v_assign rfl) rfl ?_; clear hF a; intro a hF
     refine WL_nil (hK _ _ ?_)
     clear hK K
     replace hF := hF.sub _ (c_ 12 rfl (c_ 2 rfl (c_ 3 rfl (c_ 10 rfl (c_ 13 rfl (n_))))))
     refine W_reg rfl (fun K hK => ?_)
     refine sv hF (v_move rfl) rfl ?_; clear hF a; intro a hF
     refine sv hF (v_addI rfl rfl (by omega)) rfl ?_; clear hF a; intro a hF
     refine sv hF (v_assign rfl) rfl ?_; clear hF a; intro a hF
     refine WL_nil (hK _ _ ?_)
     clear hK K
     exact ⟨q - 1, by omega, j + 1, _, _, hF.sub _ (c_ 2 rfl (c_ 3 rfl (c_ 10 rfl (c_ 12 rfl (c_ 13 rfl (n_)))))), hS, hMO, hKs, hO.cast (by rw [List.range_succ, List.map_append, hcell]; simp [zints]), by omega, by omega⟩
    ·
     skip
     try simp only [dcl] at hc3
     have hcell : List.map (fun j => ((extT (some (wb, p)) kn mn (kn + mn - 1) j : Nat) : Int)) [j] = [0] := by simp only [List.map_cons, List.map_nil]; rw [ext_part, if_neg (by omega)]
     refine W_skip ?_
     refine W_reg rfl (fun K hK => ?_)
     refine sv2 hF (v_move rfl) (v_move rfl) rfl rfl ?_; clear hF a; intro a hF
     refine s_bs (D := FDx) (B := B) hF sl37 rfl rfl (by decide) (by simp [Value.cells]) (by decide) hS.inv rfl ?_; clear hF a; intro w' a hm hI' hL hF
     replace hMO := hMO.mb0 hm
     replace hKs := Nat.le_trans hKs hm.size
     replace hO := hO.mb hm (fun _ _ => by simp)
     replace hS := hS.mb0 hm
     clear hm hI'
     refine s_app (D := FDx) (B := B) hF rfl sl37 rfl rfl hO (hL.row (by decide)) (by simp [Value.oneCell']) (by simp; omega) (by simp [maxLen]; omega) (hKs) (by decide) hS.inv rfl ?_; clear hF a; intro v' b' w' a ho' hm hI' hb' hF
     replace hMO := hMO.mbo hm hO (by decide) (Nat.le_refl _) (Nat.zero_le _)
     replace hKs := Nat.le_trans hKs hm.size
     replace hS := hS.mb hm (fun k h => Nat.le_trans (hNK) (hO.lt k h).1)
     replace hO := ho'
     clear hm hI' ho'
     refine sv hF (v_assign rfl) rfl ?_; clear hF a; intro a hF
     refine WL_nil (hK _ _ ?_)
     clear hK K
     replace hF := hF.sub _ (c_ 12 rfl (c_ 2 rfl (c_ 3 rfl (c_ 10 rfl (c_ 13 rfl (n_))))))
     refine W_reg rfl (fun K hK => ?_)
     refine sv hF (v_move rfl) rfl ?_; clear hF a; intro a hF
     refine sv hF (v_addI rfl rfl (by omega)) rfl ?_; clear hF a; intro a hF
     refine sv hF (v_assign rfl) rfl ?_; clear hF a; intro a hF
     refine WL_nil (hK _ _ ?_)
     clear hK K
     exact ⟨q - 1, by omega, j + 1, _, _, hF.sub _ (c_ 2 rfl (c_ 3 rfl (c_ 10 rfl (c_ 12 rfl (c_ 13 rfl (n_)))))), hS, hMO, hKs, hO.cast (by rw [List.range_succ, List.map_append, hcell]; simp [zints]), by omega, by omega⟩
   ·
    skip
    try simp only [dcl] at hc2
    have hje : j = kn := by omega
    rw [hje] at hO
    obtain ⟨aV, cV, rfl⟩ := hO.shape
    refine W_exit rfl ?_
    refine W_sr rfl (fun K hK => ?_)
    refine sv3 hF (v_move rfl) (v_move rfl) (v_move rfl) rfl rfl rfl ?_; clear hF a; intro a hF
    refine sv hF ((v_addI rfl rfl (by omega)).as (show Value.int .i64 ((kn : Int) + (mn : Int)) = .int .i64 ((kn + mn : Nat) : Int) by simp)) rfl ?_; clear hF a; intro a hF
    refine sv hF ((v_subI rfl rfl (by omega)).as (show Value.int .i64 (((kn + mn : Nat) : Int) - 1) = .int .i64 ((kn + mn - 1 : Nat) : Int) by congr 1; omega)) rfl ?_; clear hF a; intro a hF
    refine sv hF (v_move rfl) rfl ?_; clear hF a; intro a hF
    refine sv hF (v_ixS sl27 rfl rfl (by omega) (by omega)) rfl ?_; clear hF a; intro a hF
    replace hMO := hMO.up hKs
    refine s_setM (D := FDx) (B := B) hF on37 rfl (by rw [toNat_c, tab_length]; omega) rfl rfl hMO (.of (r := trow kn (extT (some (wb, p)) kn mn) (kn + mn - 1)) hO (Nat.zero_le _)) (by decide) (by decide) hS.inv ?_; intro w' hm hI' ho'
    replace hS := hS.mb hm (fun k h => (hMO.lt k h).1)
    have hKz := hm.size
    replace hMO := ho'
    rw [toNat_c, Nat.zero_add, ext_set (by omega)] at hMO
    clear hm hI' ho' hO
    refine WL_nil (hK _ _ ?_)
    clear hK K
    replace hF := hF.sub _ (c_ 48 rfl (c_ 47 rfl (c_ 46 rfl (c_ 45 rfl (c_ 44 rfl (c_ 43 rfl (c_ 42 rfl (c_ 2 rfl (c_ 3 rfl (c_ 10 rfl (c_ 12 rfl (c_ 13 rfl (n_)))))))))))))
    refine W_sr rfl (fun K hK => ?_)
    refine sv3 hF (v_move rfl) (v_assign rfl) (v_assign rfl) rfl rfl rfl ?_; clear hF a; intro a hF
    refine WL_nil (hK _ _ ?_)
    clear hK K
    refine W_ret ?_
    refine ⟨_, _, _, hF, rfl, rfl, ?_⟩
    rw [show extM (some (wb, p)) (kn : Int) (mn : Int) = some (tab (kn + mn) kn (extT (some (wb, p)) kn mn)) by unfold extM; rw [if_pos hb]; rfl]
    exact ⟨_, _, rfl, hMO.up hKz, hS⟩

end Go.Proofs.Ytaeljbdpjiciaaa

/- The walk of gambrelref07: parity rows by the formula. -/
set_option linter.unusedVariables false
set_option linter.unusedSimpArgs false
namespace Go.Proofs.Ytaeljbdpjiciaaa
open Go Go.Gam


namespace FxFRef07b
theorem en17 : Ent Try.prog 17 := ent Try.func17 (by kernel_rfl) (by kernel_rfl)
theorem en48 : Ent Try.prog 48 := ent Try.func48 (by kernel_rfl) (by kernel_rfl)
theorem en49 : Ent Try.prog 49 := ent Try.func49 (by kernel_rfl) (by kernel_rfl)
theorem en50 : Ent Try.prog 50 := ent Try.func50 (by kernel_rfl) (by kernel_rfl)
theorem hmix : Try.prog.follows .mixedOrders = true := by kernel_rfl
theorem sc3 : Scalar Try.prog 3 := ⟨_, Try.underlying3, by simp, by simp⟩
theorem sc37 : Scalar Try.prog 37 := ⟨_, Try.underlying37, by simp, by simp⟩
theorem sl27 : Sl Try.prog 27 37 (.slice none 0 0) 24 := sl_of Try.underlying27 rfl (by kernel_rfl)
theorem sl37 : Sl Try.prog 37 3 (.int .i64 0) 8 := sl_of Try.underlying37 rfl (by kernel_rfl)
end FxFRef07b
open FxFRef07b

set_option maxRecDepth 100000 in
set_option maxHeartbeats 1000000 in
theorem rParity_ok (B wb p : Nat) (hp : Prm wb p) (k m : Int) (w : World) (hI : Inv FDx B w) : Ret Try.prog 19 [.int .i64 (wb : Int), .int .u32 (p : Int), .int .i64 k, .int .i64 m] w fun v w' => ∃ ob u, v = .tuple #[u, .bool (parM hp k m).isSome] ∧ MOwn FDx B w.heap.size 0 w'.heap.size w' 37 u ob ((parM hp k m).getD []) ∧ St FDx B w w' := by
 refine enter2 103 [(0, .int .i64 (wb : Int)), (1, .int .u32 (p : Int)), (2, .int .i64 k), (3, .int .i64 m)] 8 9 Try.func19 rfl rfl rfl rfl rfl ?_; intro a hF
 have hS := St.refl hI
 refine W_sr rfl (fun K hK => ?_)
 refine sv2 hF (v_assign rfl) (v_assign rfl) rfl rfl ?_; clear hF a; intro a hF
 refine WL_nil (hK _ _ ?_)
 clear hK K
 refine W_sr rfl (fun K hK => ?_)
 refine sv4 hF (v_move rfl) (v_move rfl) (v_move rfl) (v_move rfl) rfl rfl rfl rfl ?_; clear hF a; intro a hF
 refine sc hF rfl rfl rfl en17 rfl (rExtended_ok B wb p hp k m _ hS.inv) ?_; clear hF a; intro v w' a hv hF
 obtain ⟨ob, u, rfl, hMO, hS'⟩ := hv
 obtain ⟨sE, cE, rfl, hE⟩ := hMO.mat (by decide) (Nat.zero_le _)
 clear hMO
 replace hS := hS.trans hS'
 clear hS'
 refine sv5 hF (v_move rfl) (v_ext rfl rfl) (v_ext rfl rfl) (v_assign rfl) (v_assign rfl) rfl rfl rfl rfl rfl ?_; clear hF a; intro a hF
 refine WL_nil (hK _ _ ?_)
 clear hK K
 replace hF := hF.sub _ (c_ 11 rfl (c_ 10 rfl (c_ 9 rfl (c_ 8 rfl (c_ 0 rfl (c_ 1 rfl (c_ 2 rfl (c_ 3 rfl (n_)))))))))
 refine W_seq ?_
 refine W_sr rfl (fun K hK => ?_)
 refine sv hF (v_move rfl) rfl ?_; clear hF a; intro a hF
 refine sv hF (v_not rfl) rfl ?_; clear hF a; intro a hF
 refine WL_nil (hK _ _ ?_)
 clear hK K
 replace hF := hF.sub _ (c_ 31 rfl (c_ 10 rfl (c_ 9 rfl (c_ 8 rfl (c_ 0 rfl (c_ 1 rfl (c_ 2 rfl (c_ 3 rfl (n_)))))))))
 refine W_if hF rfl (fun hc1 => ?_) (fun hc1 => ?_)
 ·
  skip
  try simp only [dcl] at hc1
  refine W_sr rfl (fun K hK => ?_)
  refine sv2 hF (v_assign rfl) (v_assign rfl) rfl rfl ?_; clear hF a; intro a hF
  refine WL_nil (hK _ _ ?_)
  clear hK K
  replace hF := hF.sub _ (c_ 9 rfl (c_ 8 rfl (c_ 10 rfl (c_ 0 rfl (c_ 1 rfl (c_ 2 rfl (c_ 3 rfl (n_))))))))
  refine W_ret ?_
  refine ⟨_, _, _, hF, rfl, rfl, ?_⟩
  have hb : fitB (some (wb, p)) k m = false := by
   cases h : fitB (some (wb, p)) k m with
   | false => rfl
   | true => exfalso; unfold extM at *; simp_all
  rw [show parM hp k m = none by unfold parM; rw [hb]; rfl]
  exact ⟨none, _, rfl, MOwn.nil _ _ _ _ _ _ _ (Nat.zero_le _), hS⟩
 ·
  skip
  try simp only [dcl] at hc1
  refine W_skip ?_
  have hb : fitB (some (wb, p)) k m = true := by
   cases h : fitB (some (wb, p)) k m with
   | true => rfl
   | false => exfalso; unfold extM at *; simp_all
  obtain ⟨-, hb2⟩ := fitB_iff.1 hb
  obtain ⟨kn, rfl⟩ : ∃ n : Nat, k = (n : Int) := ⟨k.toNat, by omega⟩
  obtain ⟨mn, rfl⟩ : ∃ n : Nat, m = (n : Int) := ⟨m.toNat, by omega⟩
  have hk1 : 1 ≤ kn := by omega
  have hm1 : 1 ≤ mn := by omega
  have h20 : kn + mn ≤ 20 := by omega
  have hfw := hp.fld_w
  rw [show extM (some (wb, p)) (kn : Int) (mn : Int) = some (tab (kn + mn) kn (extT (some (wb, p)) kn mn)) from extM_is rfl hk1 hm1 h20] at hE hF
  simp only [Option.getD_some] at hE hF
  rw [tab_length] at hF
  obtain ⟨gi, hgi, hinv⟩ := ext_ginv hp hk1 hm1 h20
  have hmul := ext_mul hp hk1 hm1 h20 hgi
  have hcE := hE.capd
  rw [tab_length] at hcE
  have hE1 := hE.to (b := tab kn kn (extT (some (wb, p)) kn mn)) (hi := kn) (by rw [tab_length]; omega) (tab_take (by omega)).symm
  have hl1 := fun (n : Nat) (f : Tb) (hn : n ≤ 20) => len20 (tab_lens (n := n) (m := kn) (f := f) hn (by omega))
  have hkl : (tab kn kn (extT (some (wb, p)) kn mn)).length = kn := tab_length _ _ _
  refine W_sr rfl (fun K hK => ?_)
  refine sv4 hF (v_move rfl) (v_move rfl) (v_move rfl) (v_move rfl) rfl rfl rfl rfl ?_; clear hF a; intro a hF
  refine sv hF (v_slHi sl27 rfl rfl (by omega) (by omega)) rfl ?_; clear hF a; intro a hF
  rw [show (Value.slice sE kn cE) = .slice sE (tab kn kn (extT (some (wb, p)) kn mn)).length cE by rw [hkl]] at hF
  refine sc hF rfl rfl rfl en48 rfl (rInverse_ok B _ wb p hp _ _ (tab kn kn (extT (some (wb, p)) kn mn)) _ hS.inv (Nat.le_refl _) hE1 (hl1 _ _ (by omega)).1 (hl1 _ _ (by omega)).2) ?_; clear hF a; intro v w' a hv hF
  obtain ⟨sY, cY, rfl, hY, hS'⟩ := hv
  rw [hinv] at hY hF
  dsimp only at hY hF
  clear hE1
  replace hE := (hE.st hS').mono hS'.ext.size
  replace hS := hS.trans hS'
  clear hS'
  refine sv5 hF (v_move rfl) (v_ext rfl rfl) (v_ext rfl rfl) (v_assign rfl) (v_assign rfl) rfl rfl rfl rfl rfl ?_; clear hF a; intro a hF
  refine WL_nil (hK _ _ ?_)
  clear hK K
  replace hF := hF.sub _ (c_ 12 rfl (c_ 10 rfl (c_ 9 rfl (c_ 8 rfl (c_ 0 rfl (c_ 1 rfl (c_ 2 rfl (c_ 3 rfl (n_)))))))))
  have hE2 := hE.from (lo := kn) (b := tab mn kn fun i j => (extT (some (wb, p)) kn mn) (kn + i) j) (by rw [tab_length]; omega) (by rw [tab_drop (by omega), Nat.add_sub_cancel_left])
  have hel2 : (tab mn kn fun i j => (extT (some (wb, p)) kn mn) (kn + i) j).length = mn := tab_length _ _ _
  have hl2 := fun (n : Nat) (f : Tb) (hn : n ≤ 20) => len1k (tab_lens (n := n) (m := kn) (f := f) hn (by omega))
  refine W_sr rfl (fun K hK => ?_)
  refine sv4 hF (v_move rfl) (v_move rfl) (v_move rfl) (v_move rfl) rfl rfl rfl rfl ?_; clear hF a; intro a hF
  refine sv hF (v_slLo sl27 rfl rfl (by omega) (by omega)) rfl ?_; clear hF a; intro a hF
  rw [show kn + mn - kn = (tab mn kn fun i j => (extT (some (wb, p)) kn mn) (kn + i) j).length by rw [hel2]; omega] at hF
  refine sv hF (v_move rfl) rfl ?_; clear hF a; intro a hF
  refine sc hF rfl rfl rfl en49 rfl (rMulM_ok B _ wb p hp _ _ (tab mn kn fun i j => (extT (some (wb, p)) kn mn) (kn + i) j) _ _ (tab kn kn gi) _ hS.inv (Nat.le_refl _) hE2 (hl2 _ _ (by omega)).1 (hl2 _ _ (by omega)).2 hY (hl2 _ _ (by omega)).1 (hl2 _ _ (by omega)).2) ?_; clear hF a; intro v w' a hv hF
  obtain ⟨ob, u, rfl, hMO, hS'⟩ := hv
  rw [hmul] at hMO hF
  simp only [Option.getD_some] at hMO
  obtain ⟨sT, cT, rfl, hT⟩ := hMO.mat (by decide) (Nat.zero_le _)
  rw [tab_length] at hF
  clear hMO hE2
  replace hS := hS.trans hS'
  clear hS'
  refine sv5 hF (v_move rfl) (v_ext rfl rfl) (v_ext rfl rfl) (v_assign rfl) (v_assign rfl) rfl rfl rfl rfl rfl ?_; clear hF a; intro a hF
  refine WL_nil (hK _ _ ?_)
  clear hK K
  replace hF := hF.sub _ (c_ 14 rfl (c_ 9 rfl (c_ 8 rfl (c_ 0 rfl (c_ 1 rfl (c_ 2 rfl (c_ 3 rfl (n_))))))))
  obtain ⟨gt, ot, hgt⟩ : ∃ g o, sT = some ⟨g, o, none⟩ := by
   obtain ⟨g, o, pr, cr, hg, -⟩ := hT.row (tab_at (f := (jG hp kn mn)) (m := kn) (i := 0) (show 0 < mn by omega))
   exact ⟨_, _, hg⟩
  subst hgt
  obtain ⟨K0, hK0e⟩ : ∃ k, k = w'.heap.size := ⟨_, rfl⟩
  rw [← hK0e] at hT
  have hK0 : K0 ≤ w'.heap.size := by omega
  have hwK : w.heap.size ≤ K0 := by have := hS.ext.size; omega
  clear hK0e
  refine W_sr rfl (fun K hK => ?_)
  refine sv hF (v_assign rfl) rfl ?_; clear hF a; intro a hF
  refine WL_nil (hK _ _ ?_)
  clear hK K
  refine W_seq ?_
  refine W_sr rfl (fun K hK => ?_)
  refine sv hF (v_assign rfl) rfl ?_; clear hF a; intro a hF
  refine WL_nil (hK _ _ ?_)
  clear hK K
  refine W_block ?_
  refine W_loop (fun q a w1 => ∃ (i : Nat) (v16 : Value) (b16 : Option Nat), Fr 103 [(0, .int .i64 (wb : Int)), (1, .int .u32 (p : Int)), (2, .int .i64 (kn : Int)), (3, .int .i64 (mn : Int)), (14, .slice (some ⟨gt, ot, none⟩) mn cT), (16, v16), (17, .int .i64 (i : Int))] a ∧ (St FDx B w w1) ∧ (Mat FDx B K0 w1 (some ⟨gt, ot, none⟩) cT (tab mn kn (jG hp kn mn))) ∧ (MOwn FDx B K0 0 w1.heap.size w1 37 v16 b16 ((List.range i).map (trow kn (parT hp kn mn)))) ∧ (K0 ≤ w1.heap.size) ∧ (i ≤ mn) ∧ (q + i = mn)) (mn) ?_ ?_
  ·
   skip
   exact ⟨0, _, none, hF.sub _ (c_ 0 rfl (c_ 1 rfl (c_ 2 rfl (c_ 3 rfl (c_ 14 rfl (c_ 16 rfl (c_ 17 rfl (n_)))))))), hS, hT, MOwn.nil _ _ _ _ _ _ _ (Nat.zero_le _), hK0, by omega, by omega⟩
  ·
   skip
   clear hF
   clear hS hT hK0
   rintro q a w1 ⟨i, v16, b16, hF, hS, hT, hMO, hK0, hi, hq⟩
   refine W_seq ?_
   obtain ⟨KM, hKe⟩ : ∃ K, K = w1.heap.size := ⟨_, rfl⟩
   rw [← hKe] at hMO
   have hKs : KM ≤ w1.heap.size := by omega
   have hKK : K0 ≤ KM := by omega
   clear hKe
   refine W_sr rfl (fun K hK => ?_)
   refine sv2 hF (v_move rfl) (v_move rfl) rfl rfl ?_; clear hF a; intro a hF
   refine sv hF (v_lss rfl rfl) rfl ?_; clear hF a; intro a hF
   refine WL_nil (hK _ _ ?_)
   clear hK K
   replace hF := hF.sub _ (c_ 53 rfl (c_ 0 rfl (c_ 1 rfl (c_ 2 rfl (c_ 3 rfl (c_ 14 rfl (c_ 16 rfl (c_ 17 rfl (n_)))))))))
   refine W_if hF rfl (fun hc2 => ?_) (fun hc2 => ?_)
   ·
    skip
    try simp only [dcl] at hc2
    have him : i < mn := by omega
    refine W_skip ?_
    refine W_seq ?_
    refine W_block ?_
    refine W_sr rfl (fun K hK => ?_)
    refine sv hF (v_assign rfl) rfl ?_; clear hF a; intro a hF
    refine WL_nil (hK _ _ ?_)
    clear hK K
    replace hF := hF.sub _ (c_ 18 rfl (c_ 0 rfl (c_ 1 rfl (c_ 2 rfl (c_ 3 rfl (c_ 14 rfl (c_ 16 rfl (c_ 17 rfl (n_)))))))))
    refine W_seq ?_
    refine W_sr rfl (fun K hK => ?_)
    refine sv hF (v_assign rfl) rfl ?_; clear hF a; intro a hF
    refine WL_nil (hK _ _ ?_)
    clear hK K
    refine W_block ?_
    refine W_loop (fun q2 a w2 => ∃ (j : Nat) (v18 : Value) (b18 : Option Nat), Fr 103 [(0, .int .i64 (wb : Int)), (1, .int .u32 (p : Int)), (2, .int .i64 (kn : Int)), (3, .int .i64 (mn : Int)), (14, .slice (some ⟨gt, ot, none⟩) mn cT), (16, v16), (17, .int .i64 (i : Int)), (18, v18), (19, .int .i64 (j : Int))] a ∧ (St FDx B w w2) ∧ (Mat FDx B K0 w2 (some ⟨gt, ot, none⟩) cT (tab mn kn (jG hp kn mn))) ∧ (MOwn FDx B K0 0 KM w2 37 v16 b16 ((List.range i).map (trow kn (parT hp kn mn)))) ∧ (KM ≤ w2.heap.size) ∧ (K0 ≤ w2.heap.size) ∧ (Gam.Own FDx B KM w2 FDx.E v18 b18 (zints ((List.range j).map fun j => (((jC hp kn mn) i j : Nat) : Int)))) ∧ (j ≤ kn) ∧ (q2 + j = kn)) (kn) ?_ ?_
    ·
     skip
     exact ⟨0, _, none, hF.sub _ (c_ 0 rfl (c_ 1 rfl (c_ 2 rfl (c_ 3 rfl (c_ 14 rfl (c_ 16 rfl (c_ 17 rfl (c_ 18 rfl (c_ 19 rfl (n_)))))))))), hS, hT, hMO, hKs, hK0, Gam.Own.nil _ _ _ _ _, by omega, by omega⟩
    ·
     skip
     clear hF
     clear hS hT hMO hKs hK0
     rintro q2 a w2 ⟨j, v18, b18, hF, hS, hT, hMO, hKs, hK0, hO, hj, hq2⟩
     refine W_seq ?_
     refine W_sr rfl (fun K hK => ?_)
     refine sv2 hF (v_move rfl) (v_move rfl) rfl rfl ?_; clear hF a; intro a hF
     refine sv hF (v_lss rfl rfl) rfl ?_; clear hF a; intro a hF
     refine WL_nil (hK _ _ ?_)
     clear hK K
     replace hF := hF.sub _ (c_ 58 rfl (c_ 0 rfl (c_ 1 rfl (c_ 2 rfl (c_ 3 rfl (c_ 14 rfl (c_ 16 rfl (c_ 17 rfl (c_ 18 rfl (c_ 19 rfl (n_)))))))))))
     refine W_if hF rfl (fun hc3 => ?_) (fun hc3 => ?_)
     ·
      skip
      try simp only [dcl] at hc3
      have hjk : j < kn := by omega
      obtain ⟨ga, oa, pra, cra, hga, hkra, hrowa, hlra⟩ := hT.row (show (tab mn kn (jG hp kn mn))[i]? = some (trow kn (jG hp kn mn) i) from tab_at him)
      cases hga
      obtain ⟨gza, oza, hgza, hkza, hlza⟩ := hrowa.kat (zints_at (trow_at (m := kn) (f := (jG hp kn mn)) (i := i) (j := j) (by omega)))
      cases hgza
      rw [trow_length] at hkra
      obtain ⟨gb, ob, prb, crb, hgb, hkrb, hrowb, hlrb⟩ := hT.row (show (tab mn kn (jG hp kn mn))[0]? = some (trow kn (jG hp kn mn) 0) from tab_at (show 0 < mn by omega))
      cases hgb
      obtain ⟨gzb, ozb, hgzb, hkzb, hlzb⟩ := hrowb.kat (zints_at (trow_at (m := kn) (f := (jG hp kn mn)) (i := 0) (j := j) (by omega)))
      cases hgzb
      rw [trow_length] at hkrb
      have hg0 := jG_ne hp hk1 hm1 h20 (r := 0) (j := j) (by omega) hjk
      have hb1 := jG_bd hp kn mn i j
      have hb3 := jG_bd hp kn mn 0 j
      rw [hfw] at hb1 hb3
      refine W_skip ?_
      refine W_seq ?_
      refine W_block ?_
      refine W_dS (fun (w2 : World) => w2.cell? ⟨gt, ot + i, none⟩ = some (.slice (some ⟨gza, oza, none⟩) kn cra) ∧ w2.cell? ⟨gza, oza + j, none⟩ = some (.int .i64 ((jG hp kn mn i j : Nat) : Int)) ∧ w2.cell? ⟨gt, ot + 0, none⟩ = some (.slice (some ⟨gzb, ozb, none⟩) kn crb) ∧ w2.cell? ⟨gzb, ozb + j, none⟩ = some (.int .i64 ((jG hp kn mn 0 j : Nat) : Int))) (m := 20) rfl hmix (fun K hK => ?_)
      have hS' := St.drew hS.inv
      replace hT := hT.st hS'
      replace hMO := hMO.st (by decide) hS'
      replace hKs := Nat.le_trans hKs hS'.ext.size
      replace hK0 := Nat.le_trans hK0 hS'.ext.size
      replace hO := hO.st (by decide) hS'
      replace hkra := hkra.st hS'
      replace hkza := hkza.st hS'
      replace hkrb := hkrb.st hS'
      replace hkzb := hkzb.st hS'
      replace hS := hS.trans hS'
      clear hS'
      have hSS : (fun (w2 : World) => w2.cell? ⟨gt, ot + i, none⟩ = some (.slice (some ⟨gza, oza, none⟩) kn cra) ∧ w2.cell? ⟨gza, oza + j, none⟩ = some (.int .i64 ((jG hp kn mn i j : Nat) : Int)) ∧ w2.cell? ⟨gt, ot + 0, none⟩ = some (.slice (some ⟨gzb, ozb, none⟩) kn crb) ∧ w2.cell? ⟨gzb, ozb + j, none⟩ = some (.int .i64 ((jG hp kn mn 0 j : Nat) : Int))) _ := And.intro hkra.c (And.intro hkza.c (And.intro hkrb.c hkzb.c))
      refine b_v (i := 0) rfl (by kernel_rfl) hF (fun w2 hx => v_move rfl) rfl hSS ?_; clear hF a; intro a hF
      refine b_v (i := 1) rfl (by kernel_rfl) hF (fun w2 hx => v_move rfl) rfl hSS ?_; clear hF a; intro a hF
      refine b_v (i := 2) rfl (by kernel_rfl) hF (fun w2 hx => v_move rfl) rfl hSS ?_; clear hF a; intro a hF
      refine b_v (i := 3) rfl (by kernel_rfl) hF (fun w2 hx => v_move rfl) rfl hSS ?_; clear hF a; intro a hF
      refine b_v (i := 4) rfl (by kernel_rfl) hF (fun w2 hx => v_move rfl) rfl hSS ?_; clear hF a; intro a hF
      refine b_v (i := 5) rfl (by kernel_rfl) hF (fun w2 hx => v_ixS sl27 rfl rfl (by omega) (by omega)) rfl hSS ?_; clear hF a; intro a hF
      refine b_v (i := 6) rfl (by kernel_rfl) hF (fun w2 hx => v_load sc37 rfl (by first | exact hx.1 | (rw [toNat_c]; exact hx.1))) rfl hSS ?_; clear hF a; intro a hF
      refine b_v (i := 7) rfl (by kernel_rfl) hF (fun w2 hx => v_move rfl) rfl hSS ?_; clear hF a; intro a hF
      refine b_v (i := 8) rfl (by kernel_rfl) hF (fun w2 hx => v_ixS sl37 rfl rfl (by omega) (by omega)) rfl hSS ?_; clear hF a; intro a hF
      refine b_v (i := 9) rfl (by kernel_rfl) hF (fun w2 hx => v_load sc3 rfl (by first | exact hx.2.1 | (rw [toNat_c]; exact hx.2.1))) rfl hSS ?_; clear hF a; intro a hF
      refine b_v (i := 10) rfl (by kernel_rfl) hF (fun w2 hx => v_move rfl) rfl hSS ?_; clear hF a; intro a hF
      refine b_v (i := 11) rfl (by kernel_rfl) hF (fun w2 hx => v_ixS sl27 rfl rfl (by decide) (by omega)) rfl hSS ?_; clear hF a; intro a hF
      refine b_v (i := 12) rfl (by kernel_rfl) hF (fun w2 hx => v_load sc37 rfl (by first | exact hx.2.2.1 | (rw [toNat_c]; exact hx.2.2.1))) rfl hSS ?_; clear hF a; intro a hF
      refine b_v (i := 13) rfl (by kernel_rfl) hF (fun w2 hx => v_move rfl) rfl hSS ?_; clear hF a; intro a hF
      refine b_v (i := 14) rfl (by kernel_rfl) hF (fun w2 hx => v_ixS sl37 rfl rfl (by omega) (by omega)) rfl hSS ?_; clear hF a; intro a hF
      refine b_v (i := 15) rfl (by kernel_rfl) hF (fun w2 hx => v_load sc3 rfl (by first | exact hx.2.2.2 | (rw [toNat_c]; exact hx.2.2.2))) rfl hSS ?_; clear hF a; intro a hF
      refine b_e (i := 16) (by kernel_rfl) rfl ?_
      refine sc hF rfl rfl rfl en50 rfl (over_ok B wb p (jG hp kn mn i j) (jG hp kn mn 0 j) hp _ hS.inv hb1 hb3 hg0) ?_; clear hF a; intro v w' a hv hF
      obtain ⟨rfl, hS'⟩ := hv
      replace hT := hT.st hS'
      replace hMO := hMO.st (by decide) hS'
      replace hKs := Nat.le_trans hKs hS'.ext.size
      replace hK0 := Nat.le_trans hK0 hS'.ext.size
      replace hO := hO.st (by decide) hS'
      replace hkra := hkra.st hS'
      replace hkza := hkza.st hS'
      replace hkrb := hkrb.st hS'
      replace hkzb := hkzb.st hS'
      replace hS := hS.trans hS'
      clear hS'
      clear hSS
      have hSS : (fun (w2 : World) => w2.cell? ⟨gt, ot + i, none⟩ = some (.slice (some ⟨gza, oza, none⟩) kn cra) ∧ w2.cell? ⟨gza, oza + j, none⟩ = some (.int .i64 ((jG hp kn mn i j : Nat) : Int)) ∧ w2.cell? ⟨gt, ot + 0, none⟩ = some (.slice (some ⟨gzb, ozb, none⟩) kn crb) ∧ w2.cell? ⟨gzb, ozb + j, none⟩ = some (.int .i64 ((jG hp kn mn 0 j : Nat) : Int))) _ := And.intro hkra.c (And.intro hkza.c (And.intro hkrb.c hkzb.c))
      refine WL_nil ⟨hSS, ?_⟩
      refine b_e (i := 17) (by kernel_rfl) rfl ?_
      refine s_bs (D := FDx) (B := B) hF sl37 rfl rfl (by decide) (by simp [Value.cells]) (by decide) hS.inv rfl ?_; clear hF a; intro w' a hm hI' hL hF
      replace hT := hT.mb hm (fun _ h => by cases h)
      replace hMO := hMO.mb0 hm
      replace hKs := Nat.le_trans hKs hm.size
      replace hK0 := Nat.le_trans hK0 hm.size
      replace hO := hO.mb hm (fun _ _ => by simp)
      replace hkra := hkra.mb hm (by simp)
      replace hkza := hkza.mb hm (by simp)
      replace hkrb := hkrb.mb hm (by simp)
      replace hkzb := hkzb.mb hm (by simp)
      replace hS := hS.mb0 hm
      clear hm hI'
      clear hSS
      have hSS : (fun (w2 : World) => w2.cell? ⟨gt, ot + i, none⟩ = some (.slice (some ⟨gza, oza, none⟩) kn cra) ∧ w2.cell? ⟨gza, oza + j, none⟩ = some (.int .i64 ((jG hp kn mn i j : Nat) : Int)) ∧ w2.cell? ⟨gt, ot + 0, none⟩ = some (.slice (some ⟨gzb, ozb, none⟩) kn crb) ∧ w2.cell? ⟨gzb, ozb + j, none⟩ = some (.int .i64 ((jG hp kn mn 0 j : Nat) : Int))) _ := And.intro hkra.c (And.intro hkza.c (And.intro hkrb.c hkzb.c))
      refine WL_nil ⟨hSS, ?_⟩
      refine b_e (i := 18) (by kernel_rfl) rfl ?_
      refine s_app (D := FDx) (B := B) hF rfl sl37 rfl rfl hO (hL.row (by decide)) (by simp [Value.oneCell']) (by simp; omega) (by simp [maxLen]; omega) (hKs) (by decide) hS.inv rfl ?_; clear hF a; intro v' b' w' a ho' hm hI' hb' hF
      replace hT := hT.mb hm (fun k h => Nat.le_trans (by omega) (hO.lt k h).1)
      replace hMO := hMO.mbo hm hO (by decide) (by omega) (Nat.zero_le _)
      replace hKs := Nat.le_trans hKs hm.size
      replace hK0 := Nat.le_trans hK0 hm.size
      replace hkra := hkra.mb hm (fun e => absurd hlra (Nat.not_lt.2 (Nat.le_trans hKK (hO.lt _ e).1)))
      replace hkza := hkza.mb hm (fun e => absurd hlza (Nat.not_lt.2 (Nat.le_trans hKK (hO.lt _ e).1)))
      replace hkrb := hkrb.mb hm (fun e => absurd hlrb (Nat.not_lt.2 (Nat.le_trans hKK (hO.lt _ e).1)))
      replace hkzb := hkzb.mb hm (fun e => absurd hlzb (Nat.not_lt.2 (Nat.le_trans hKK (hO.lt _ e).1)))
      replace hS := hS.mb hm (fun k h => Nat.le_trans (Nat.le_trans hwK hKK) (hO.lt k h).1)
      replace hO := ho'
      clear hm hI' ho'
      clear hSS
      have hSS : (fun (w2 : World) => w2.cell? ⟨gt, ot + i, none⟩ = some (.slice (some ⟨gza, oza, none⟩) kn cra) ∧ w2.cell? ⟨gza, oza + j, none⟩ = some (.int .i64 ((jG hp kn mn i j : Nat) : Int)) ∧ w2.cell? ⟨gt, ot + 0, none⟩ = some (.slice (some ⟨gzb, ozb, none⟩) kn crb) ∧ w2.cell? ⟨gzb, ozb + j, none⟩ = some (.int .i64 ((jG hp kn mn 0 j : Nat) : Int))) _ := And.intro hkra.c (And.intro hkza.c (And.intro hkrb.c hkzb.c))
      refine WL_nil ⟨hSS, ?_⟩
      refine b_v (i := 19) rfl (by kernel_rfl) hF (fun w2 hx => v_assign rfl) rfl hSS ?_; clear hF a; intro a hF
      refine b_done (by kernel_rfl) (hK _ _ ?_)
      clear hK K
      replace hF := hF.sub _ (c_ 18 rfl (c_ 0 rfl (c_ 1 rfl (c_ 2 rfl (c_ 3 rfl (c_ 14 rfl (c_ 16 rfl (c_ 17 rfl (c_ 19 rfl (n_))))))))))
      refine W_reg rfl (fun K hK => ?_)
      refine sv hF (v_move rfl) rfl ?_; clear hF a; intro a hF
      refine sv hF (v_addI rfl rfl (by omega)) rfl ?_; clear hF a; intro a hF
      refine sv hF (v_assign rfl) rfl ?_; clear hF a; intro a hF
      refine WL_nil (hK _ _ ?_)
      clear hK K
      exact ⟨q2 - 1, by omega, j + 1, _, _, hF.sub _ (c_ 0 rfl (c_ 1 rfl (c_ 2 rfl (c_ 3 rfl (c_ 14 rfl (c_ 16 rfl (c_ 17 rfl (c_ 18 rfl (c_ 19 rfl (n_)))))))))), hS, hT, hMO, hKs, hK0, hO.cast (by rw [List.range_succ, List.map_append]; simp [zints]; rfl), by omega, by omega⟩
     ·
      skip
      try simp only [dcl] at hc3
      have hje : j = kn := by omega
      rw [hje] at hO
      obtain ⟨gc, cc, rfl, rfl⟩ := hO.ptr (by simp; omega)
      rw [zints_length, List.length_map, List.length_range] at hO hF
      have hR := hO
      clear hO
      have hgcK : KM ≤ gc := (hR.lt _ rfl).1
      refine W_exit rfl ?_
      refine W_sr rfl (fun K hK => ?_)
      refine sv hF (v_assign rfl) rfl ?_; clear hF a; intro a hF
      refine WL_nil (hK _ _ ?_)
      clear hK K
      replace hF := hF.sub _ (c_ 20 rfl (c_ 0 rfl (c_ 1 rfl (c_ 2 rfl (c_ 3 rfl (c_ 14 rfl (c_ 16 rfl (c_ 17 rfl (c_ 18 rfl (c_ 19 rfl (n_)))))))))))
      refine W_seq ?_
      obtain ⟨KN, hKNe⟩ : ∃ k, k = w2.heap.size := ⟨_, rfl⟩
      have hKNz : KN ≤ w2.heap.size := by omega
      have hgk0 : gc < KN := by rw [hKNe]; exact (hR.lt _ rfl).2
      have hKMN : KM ≤ KN := by omega
      clear hKNe
      refine W_sr rfl (fun K hK => ?_)
      refine sv hF (v_assign rfl) rfl ?_; clear hF a; intro a hF
      refine WL_nil (hK _ _ ?_)
      clear hK K
      refine W_block ?_
      refine W_loop (fun q3 a w3 => ∃ (j : Nat) (v20 : Value) (b20 : Option Nat), Fr 103 [(0, .int .i64 (wb : Int)), (1, .int .u32 (p : Int)), (2, .int .i64 (kn : Int)), (3, .int .i64 (mn : Int)), (14, .slice (some ⟨gt, ot, none⟩) mn cT), (16, v16), (17, .int .i64 (i : Int)), (18, .slice (some ⟨gc, 0, none⟩) kn cc), (20, v20), (21, .int .i64 (j : Int))] a ∧ (St FDx B w w3) ∧ (Mat FDx B K0 w3 (some ⟨gt, ot, none⟩) cT (tab mn kn (jG hp kn mn))) ∧ (MOwn FDx B K0 0 KM w3 37 v16 b16 ((List.range i).map (trow kn (parT hp kn mn)))) ∧ (KM ≤ w3.heap.size) ∧ (K0 ≤ w3.heap.size) ∧ (Gam.Own FDx B KM w3 FDx.E (.slice (some ⟨gc, 0, none⟩) kn cc) (some gc) (zints (trow kn (jC hp kn mn) i))) ∧ (gc < KN ∧ KN ≤ w3.heap.size) ∧ (Gam.Own FDx B KN w3 FDx.E v20 b20 (zints ((List.range j).map fun j => (((parT hp kn mn) i j : Nat) : Int)))) ∧ (j ≤ kn) ∧ (q3 + j = kn)) (kn) ?_ ?_
      ·
       skip
       exact ⟨0, _, none, hF.sub _ (c_ 0 rfl (c_ 1 rfl (c_ 2 rfl (c_ 3 rfl (c_ 14 rfl (c_ 16 rfl (c_ 17 rfl (c_ 18 rfl (c_ 20 rfl (c_ 21 rfl (n_))))))))))), hS, hT, hMO, hKs, hK0, hR, ⟨hgk0, hKNz⟩, Gam.Own.nil _ _ _ _ _, by omega, by omega⟩
      ·
       skip
       clear hF
       clear hS hT hMO hKs hK0 hR
       rintro q3 a w3 ⟨j, v20, b20, hF, hS, hT, hMO, hKs, hK0, hR, hgk, hO, hj, hq3⟩
       refine W_seq ?_
       have hKNz := hgk.2
       refine W_sr rfl (fun K hK => ?_)
       refine sv2 hF (v_move rfl) (v_move rfl) rfl rfl ?_; clear hF a; intro a hF
       refine sv hF (v_lss rfl rfl) rfl ?_; clear hF a; intro a hF
       refine WL_nil (hK _ _ ?_)
       clear hK K
       refine W_if hF rfl (fun hc4 => ?_) (fun hc4 => ?_)
       ·
        skip
        try simp only [dcl] at hc4
        have hjk : j < kn := by omega
        have hkx := hR.kc (by decide) (zints_at (trow_at (f := jC hp kn mn) (i := i) hjk))
        have hky := hR.kc (by decide) (zints_at (trow_at (f := jC hp kn mn) (i := i) (show 0 < kn by omega)))
        have hc0 := jC_ne hp hk1 hm1 h20 (r := i) (j := 0) him (by omega)
        have hb1 := jC_bd hp kn mn i j
        have hb3 := jC_bd hp kn mn i 0
        rw [hfw] at hb1 hb3
        refine W_skip ?_
        refine W_seq ?_
        refine W_block ?_
        refine W_dS (fun (w2 : World) => w2.cell? ⟨gc, 0 + j, none⟩ = some (.int .i64 ((jC hp kn mn i j : Nat) : Int)) ∧ w2.cell? ⟨gc, 0 + 0, none⟩ = some (.int .i64 ((jC hp kn mn i 0 : Nat) : Int))) (m := 14) rfl hmix (fun K hK => ?_)
        have hS' := St.drew hS.inv
        replace hT := hT.st hS'
        replace hMO := hMO.st (by decide) hS'
        replace hKs := Nat.le_trans hKs hS'.ext.size
        replace hK0 := Nat.le_trans hK0 hS'.ext.size
        replace hO := hO.st (by decide) hS'
        replace hR := hR.st (by decide) hS'
        replace hKNz := Nat.le_trans hKNz hS'.ext.size
        replace hkx := hkx.st hS'
        replace hky := hky.st hS'
        replace hS := hS.trans hS'
        clear hS'
        have hSS : (fun (w2 : World) => w2.cell? ⟨gc, 0 + j, none⟩ = some (.int .i64 ((jC hp kn mn i j : Nat) : Int)) ∧ w2.cell? ⟨gc, 0 + 0, none⟩ = some (.int .i64 ((jC hp kn mn i 0 : Nat) : Int))) _ := And.intro hkx.c hky.c
        refine b_v (i := 0) rfl (by kernel_rfl) hF (fun w2 hx => v_move rfl) rfl hSS ?_; clear hF a; intro a hF
        refine b_v (i := 1) rfl (by kernel_rfl) hF (fun w2 hx => v_move rfl) rfl hSS ?_; clear hF a; intro a hF
        refine b_v (i := 2) rfl (by kernel_rfl) hF (fun w2 hx => v_move rfl) rfl hSS ?_; clear hF a; intro a hF
        refine b_v (i := 3) rfl (by kernel_rfl) hF (fun w2 hx => v_move rfl) rfl hSS ?_; clear hF a; intro a hF
        refine b_v (i := 4) rfl (by kernel_rfl) hF (fun w2 hx => v_move rfl) rfl hSS ?_; clear hF a; intro a hF
        refine b_v (i := 5) rfl (by kernel_rfl) hF (fun w2 hx => v_ixS sl37 rfl rfl (by omega) (by omega)) rfl hSS ?_; clear hF a; intro a hF
        refine b_v (i := 6) rfl (by kernel_rfl) hF (fun w2 hx => v_load sc3 rfl (by first | exact hx.1 | (rw [toNat_c]; exact hx.1))) rfl hSS ?_; clear hF a; intro a hF
        refine b_v (i := 7) rfl (by kernel_rfl) hF (fun w2 hx => v_move rfl) rfl hSS ?_; clear hF a; intro a hF
        refine b_v (i := 8) rfl (by kernel_rfl) hF (fun w2 hx => v_ixS sl37 rfl rfl (by decide) (by omega)) rfl hSS ?_; clear hF a; intro a hF
        refine b_v (i := 9) rfl (by kernel_rfl) hF (fun w2 hx => v_load sc3 rfl (by first | exact hx.2 | (rw [toNat_c]; exact hx.2))) rfl hSS ?_; clear hF a; intro a hF
        refine b_e (i := 10) (by kernel_rfl) rfl ?_
        refine sc hF rfl rfl rfl en50 rfl (over_ok B wb p (jC hp kn mn i j) (jC hp kn mn i 0) hp _ hS.inv hb1 hb3 hc0) ?_; clear hF a; intro v w' a hv hF
        obtain ⟨rfl, hS'⟩ := hv
        replace hT := hT.st hS'
        replace hMO := hMO.st (by decide) hS'
        replace hKs := Nat.le_trans hKs hS'.ext.size
        replace hK0 := Nat.le_trans hK0 hS'.ext.size
        replace hO := hO.st (by decide) hS'
        replace hR := hR.st (by decide) hS'
        replace hKNz := Nat.le_trans hKNz hS'.ext.size
        replace hkx := hkx.st hS'
        replace hky := hky.st hS'
        replace hS := hS.trans hS'
        clear hS'
        rw [par_scaled hp hk1 hm1 h20 him hjk] at hF
        clear hSS
        have hSS : (fun (w2 : World) => w2.cell? ⟨gc, 0 + j, none⟩ = some (.int .i64 ((jC hp kn mn i j : Nat) : Int)) ∧ w2.cell? ⟨gc, 0 + 0, none⟩ = some (.int .i64 ((jC hp kn mn i 0 : Nat) : Int))) _ := And.intro hkx.c hky.c
        refine WL_nil ⟨hSS, ?_⟩
        refine b_e (i := 11) (by kernel_rfl) rfl ?_
        refine s_bs (D := FDx) (B := B) hF sl37 rfl rfl (by decide) (by simp [Value.cells]) (by decide) hS.inv rfl ?_; clear hF a; intro w' a hm hI' hL hF
        replace hT := hT.mb hm (fun _ h => by cases h)
        replace hMO := hMO.mb0 hm
        replace hKs := Nat.le_trans hKs hm.size
        replace hK0 := Nat.le_trans hK0 hm.size
        replace hO := hO.mb hm (fun _ _ => by simp)
        replace hR := hR.mb hm (fun _ _ => by simp)
        replace hKNz := Nat.le_trans hKNz hm.size
        replace hkx := hkx.mb hm (by simp)
        replace hky := hky.mb hm (by simp)
        replace hS := hS.mb0 hm
        clear hm hI'
        clear hSS
        have hSS : (fun (w2 : World) => w2.cell? ⟨gc, 0 + j, none⟩ = some (.int .i64 ((jC hp kn mn i j : Nat) : Int)) ∧ w2.cell? ⟨gc, 0 + 0, none⟩ = some (.int .i64 ((jC hp kn mn i 0 : Nat) : Int))) _ := And.intro hkx.c hky.c
        refine WL_nil ⟨hSS, ?_⟩
        refine b_e (i := 12) (by kernel_rfl) rfl ?_
        refine s_app (D := FDx) (B := B) hF rfl sl37 rfl rfl hO (hL.row (by decide)) (by simp [Value.oneCell']) (by simp; omega) (by simp [maxLen]; omega) (hKNz) (by decide) hS.inv rfl ?_; clear hF a; intro v' b' w' a ho' hm hI' hb' hF
        replace hT := hT.mb hm (fun k h => Nat.le_trans (by omega) (hO.lt k h).1)
        replace hMO := hMO.mbo hm hO (by decide) (by omega) (Nat.zero_le _)
        replace hKs := Nat.le_trans hKs hm.size
        replace hK0 := Nat.le_trans hK0 hm.size
        replace hR := hR.mb hm (fun k e e2 => by cases e; have := (hO.lt _ e2).1; omega)
        replace hKNz := Nat.le_trans hKNz hm.size
        replace hkx := hkx.mb hm (fun e => absurd hgk.1 (Nat.not_lt.2 (hO.lt _ e).1))
        replace hky := hky.mb hm (fun e => absurd hgk.1 (Nat.not_lt.2 (hO.lt _ e).1))
        replace hS := hS.mb hm (fun k h => Nat.le_trans (Nat.le_trans hwK (Nat.le_trans hKK hKMN)) (hO.lt k h).1)
        replace hO := ho'
        clear hm hI' ho'
        clear hSS
        have hSS : (fun (w2 : World) => w2.cell? ⟨gc, 0 + j, none⟩ = some (.int .i64 ((jC hp kn mn i j : Nat) : Int)) ∧ w2.cell? ⟨gc, 0 + 0, none⟩ = some (.int .i64 ((jC hp kn mn i 0 : Nat) : Int))) _ := And.intro hkx.c hky.c
        refine WL_nil ⟨hSS, ?_⟩
        refine b_v (i := 13) rfl (by kernel_rfl) hF (fun w2 hx => v_assign rfl) rfl hSS ?_; clear hF a; intro a hF
        refine b_done (by kernel_rfl) (hK _ _ ?_)
        clear hK K
        refine W_reg rfl (fun K hK => ?_)
        refine sv hF (v_move rfl) rfl ?_; clear hF a; intro a hF
        refine sv hF (v_addI rfl rfl (by omega)) rfl ?_; clear hF a; intro a hF
        refine sv hF (v_assign rfl) rfl ?_; clear hF a; intro a hF
        refine WL_nil (hK _ _ ?_)
        clear hK K
        exact ⟨q3 - 1, by omega, j + 1, _, _, hF.sub _ (c_ 0 rfl (c_ 1 rfl (c_ 2 rfl (c_ 3 rfl (c_ 14 rfl (c_ 16 rfl (c_ 17 rfl (c_ 18 rfl (c_ 20 rfl (c_ 21 rfl (n_))))))))))), hS, hT, hMO, hKs, hK0, hR, ⟨hgk.1, hKNz⟩, hO.cast (by rw [List.range_succ, List.map_append]; simp [zints]), by omega, by omega⟩
       ·
        skip
        try simp only [dcl] at hc4
        have hje : j = kn := by omega
        rw [hje] at hO
        clear hR
        refine W_exit rfl ?_
        refine W_reg rfl (fun K hK => ?_)
        refine sv2 hF (v_move rfl) (v_move rfl) rfl rfl ?_; clear hF a; intro a hF
        obtain ⟨a_, c_r, rfl⟩ := hO.shape
        refine s_bs (D := FDx) (B := B) hF sl27 rfl rfl (by decide) (by simp [Value.cells]) (by decide) hS.inv rfl ?_; clear hF a; intro w' a hm hI' hL hF
        replace hT := hT.mb hm (fun _ h => by cases h)
        replace hMO := hMO.mb0 hm
        replace hKs := Nat.le_trans hKs hm.size
        replace hK0 := Nat.le_trans hK0 hm.size
        replace hO := hO.mb hm (fun _ _ => by simp)
        replace hKNz := Nat.le_trans hKNz hm.size
        replace hS := hS.mb0 hm
        clear hm hI'
        replace hMO := hMO.up hKs
        clear hKs
        refine s_appM (D := FDx) (B := B) hF rfl sl27 rfl rfl hMO hL (.of (r := trow kn (parT hp kn mn) i) hO (Nat.zero_le _)) rfl rfl (by simp; omega) (hK0) (by decide) (by decide) hS.inv rfl ?_; clear hF a; intro v' b' w' a ho' hm hI' hF
        replace hT := hT.mb hm (fun k h => Nat.le_trans (Nat.le_refl _) (hMO.lt k h).1)
        replace hK0 := Nat.le_trans hK0 hm.size
        replace hKNz := Nat.le_trans hKNz hm.size
        replace hS := hS.mb hm (fun k h => Nat.le_trans hwK (hMO.lt k h).1)
        have hKm := hm.size
        replace hMO := ho'
        clear hm hI' ho' hL
        refine sv hF (v_assign rfl) rfl ?_; clear hF a; intro a hF
        refine WL_nil (hK _ _ ?_)
        clear hK K
        refine W_reg rfl (fun K hK => ?_)
        refine sv hF (v_move rfl) rfl ?_; clear hF a; intro a hF
        refine sv hF (v_addI rfl rfl (by omega)) rfl ?_; clear hF a; intro a hF
        refine sv hF (v_assign rfl) rfl ?_; clear hF a; intro a hF
        refine WL_nil (hK _ _ ?_)
        clear hK K
        exact ⟨q - 1, by omega, i + 1, _, _, hF.sub _ (c_ 0 rfl (c_ 1 rfl (c_ 2 rfl (c_ 3 rfl (c_ 14 rfl (c_ 16 rfl (c_ 17 rfl (n_)))))))), hS, hT, (hMO.up hKm).cast (by rw [List.range_succ, List.map_append]; rfl), hK0, by omega, by omega⟩
   ·
    skip
    try simp only [dcl] at hc2
    refine W_exit rfl ?_
    refine W_sr rfl (fun K hK => ?_)
    refine sv3 hF (v_move rfl) (v_assign rfl) (v_assign rfl) rfl rfl rfl ?_; clear hF a; intro a hF
    refine WL_nil (hK _ _ ?_)
    clear hK K
    replace hF := hF.sub _ (c_ 9 rfl (c_ 8 rfl (c_ 102 rfl (c_ 0 rfl (c_ 1 rfl (c_ 2 rfl (c_ 3 rfl (c_ 14 rfl (c_ 16 rfl (c_ 17 rfl (n_)))))))))))
    refine W_ret ?_
    refine ⟨_, _, _, hF, rfl, rfl, ?_⟩
    obtain rfl : i = mn := by omega
    rw [show parM hp (kn : Int) (i : Int) = some (tab i kn (parT hp kn i)) by unfold parM; rw [if_pos hb]; rfl]
    exact ⟨_, _, rfl, ((hMO.up hKs).le hwK (Nat.zero_le _)).cast rfl, hS⟩

end Go.Proofs.Ytaeljbdpjiciaaa

/- The statement JvanTells, walked: it returns true. -/
set_option linter.unusedVariables false
set_option linter.unusedSimpArgs false
namespace Go.Proofs.Ytaeljbdpjiciaaa
open Go Go.Gam


namespace FxFJvanTells
theorem en14 : Ent Try.prog 14 := ent Try.func14 (by kernel_rfl) (by kernel_rfl)
theorem en15 : Ent Try.prog 15 := ent Try.func15 (by kernel_rfl) (by kernel_rfl)
theorem en16 : Ent Try.prog 16 := ent Try.func16 (by kernel_rfl) (by kernel_rfl)
theorem en17 : Ent Try.prog 17 := ent Try.func17 (by kernel_rfl) (by kernel_rfl)
theorem en18 : Ent Try.prog 18 := ent Try.func18 (by kernel_rfl) (by kernel_rfl)
theorem en19 : Ent Try.prog 19 := ent Try.func19 (by kernel_rfl) (by kernel_rfl)
theorem en20 : Ent Try.prog 20 := ent Try.func20 (by kernel_rfl) (by kernel_rfl)
theorem en21 : Ent Try.prog 21 := ent Try.func21 (by kernel_rfl) (by kernel_rfl)
theorem sl27 : Sl Try.prog 27 37 (.slice none 0 0) 24 := sl_of Try.underlying27 rfl (by kernel_rfl)
theorem sl28 : Sl Try.prog 28 37 (.slice none 0 0) 24 := sl_of Try.underlying28 rfl (by kernel_rfl)
theorem sl37 : Sl Try.prog 37 3 (.int .i64 0) 8 := sl_of Try.underlying37 rfl (by kernel_rfl)
end FxFJvanTells
open FxFJvanTells

set_option maxRecDepth 100000 in
set_option maxHeartbeats 1000000 in
theorem was7_some (w : World) : Ret Try.prog 20 [.int .i64 0, .bool true] w fun v w' => v = .bool true ∧ w' = w := by
 refine enter 18 [(0, .int .i64 0), (1, .bool true)] 4 Try.func20 rfl rfl rfl rfl rfl ?_; intro a hF
 refine W_sr rfl (fun K hK => ?_)
 refine sv hF (v_assign rfl) rfl ?_; clear hF a; intro a hF
 refine WL_nil (hK _ _ ?_)
 clear hK K
 refine W_sr rfl (fun K hK => ?_)
 refine sv hF (v_move rfl) rfl ?_; clear hF a; intro a hF
 refine sv hF ((v_eql rfl rfl).as (congrArg Value.bool (decide_eq_true (rfl)))) rfl ?_; clear hF a; intro a hF
 refine sv hF (v_move rfl) rfl ?_; clear hF a; intro a hF
 refine svg hF rfl ?_
 refine sv3 hF (v_move rfl) (v_pickT rfl rfl) (v_move rfl) rfl rfl rfl ?_; clear hF a; intro a hF
 refine svn hF rfl rfl rfl ?_; clear hF a; intro a hF
 refine svn hF rfl rfl rfl ?_; clear hF a; intro a hF
 refine svn hF rfl rfl rfl ?_; clear hF a; intro a hF
 refine svu hF rfl rfl ?_; clear hF a; intro a hF
 refine svu hF rfl rfl ?_; clear hF a; intro a hF
 refine svn hF rfl rfl rfl ?_; clear hF a; intro a hF
 refine sv2 hF (v_pickT rfl rfl) (v_assign rfl) rfl rfl ?_; clear hF a; intro a hF
 refine WL_nil (hK _ _ ?_)
 clear hK K
 replace hF := hF.sub _ (c_ 4 rfl (n_))
 refine W_ret ?_
 refine ⟨_, _, hF, rfl, ?_⟩
 exact ⟨rfl, rfl⟩

set_option maxRecDepth 100000 in
set_option maxHeartbeats 1000000 in
theorem was7_none (w : World) : Ret Try.prog 20 [.int .i64 1, .bool false] w fun v w' => v = .bool true ∧ w' = w := by
 refine enter 18 [(0, .int .i64 1), (1, .bool false)] 4 Try.func20 rfl rfl rfl rfl rfl ?_; intro a hF
 refine W_sr rfl (fun K hK => ?_)
 refine sv hF (v_assign rfl) rfl ?_; clear hF a; intro a hF
 refine WL_nil (hK _ _ ?_)
 clear hK K
 refine W_sr rfl (fun K hK => ?_)
 refine sv hF (v_move rfl) rfl ?_; clear hF a; intro a hF
 refine sv hF ((v_eql rfl rfl).as (congrArg Value.bool (decide_eq_false (by decide)))) rfl ?_; clear hF a; intro a hF
 refine sv hF (v_move rfl) rfl ?_; clear hF a; intro a hF
 refine svn hF rfl rfl rfl ?_; clear hF a; intro a hF
 refine sv2 hF (v_pickF rfl rfl) (v_move rfl) rfl rfl ?_; clear hF a; intro a hF
 refine svg hF rfl ?_
 refine sv hF (v_move rfl) rfl ?_; clear hF a; intro a hF
 refine svg hF rfl ?_
 refine sv hF ((v_eql rfl rfl).as (congrArg Value.bool (decide_eq_true (rfl)))) rfl ?_; clear hF a; intro a hF
 refine svg hF rfl ?_
 refine sv hF (v_move rfl) rfl ?_; clear hF a; intro a hF
 refine svg hF rfl ?_
 refine sv hF (v_move rfl) rfl ?_; clear hF a; intro a hF
 refine svg hF rfl ?_
 refine sv hF (v_not rfl) rfl ?_; clear hF a; intro a hF
 refine svg hF rfl ?_
 refine sv3 hF (v_pickT rfl rfl) (v_pickF rfl rfl) (v_assign rfl) rfl rfl rfl ?_; clear hF a; intro a hF
 refine WL_nil (hK _ _ ?_)
 clear hK K
 replace hF := hF.sub _ (c_ 4 rfl (n_))
 refine W_ret ?_
 refine ⟨_, _, hF, rfl, ?_⟩
 exact ⟨rfl, rfl⟩

theorem was7_ok {α : Type} (s : Option α) (b : Bool) (w : World) (h : b = s.isSome) : Ret Try.prog 20 [.int .i64 (errV s), .bool b] w fun v w' => v = .bool true ∧ w' = w := by
 subst h
 cases s with
 | none => exact was7_none w
 | some x => exact was7_some w

theorem extM_lens (o : Fq) (k m : Int) : ((extM o k m).getD []).length ≤ 20 ∧ ∀ r ∈ (extM o k m).getD [], r.length ≤ 20 := opt_lens fun h => by
 have := fitB_iff.1 h
 omega
theorem parM_lens {wb p : Nat} (hp : Prm wb p) (k m : Int) : ((parM hp k m).getD []).length ≤ 20 ∧ ∀ r ∈ (parM hp k m).getD [], r.length ≤ 20 := opt_lens fun h => by
 have := fitB_iff.1 h
 omega
theorem Parity_m (B wb p : Nat) (hp : Prm wb p) (fv : Value) (k m : Int) (w : World) (hI : Inv FDx B w) (hf : Fo FDx B w fv (some (wb, p))) : Ret Try.prog 18 [fv, .int .i64 k, .int .i64 m] w fun v w' => ∃ sa cap, v = .tuple #[.slice sa ((parM hp k m).getD []).length cap, .int .i64 (errV (parM hp k m))] ∧ Mat FDx B w'.heap.size w' sa cap ((parM hp k m).getD []) ∧ St FDx B w w' := by
 cases hb : fitB (some (wb, p)) k m with
 | true =>
  obtain ⟨-, h1, h2, h3, h4, h5⟩ := fitB_iff.1 hb
  obtain ⟨kn, rfl⟩ : ∃ n : Nat, k = (n : Int) := ⟨k.toNat, by omega⟩
  obtain ⟨mn, rfl⟩ : ∃ n : Nat, m = (n : Int) := ⟨m.toNat, by omega⟩
  refine (Parity_fit B wb p hp fv kn mn w hI hf hb).mono fun v w' h => ?_
  obtain ⟨sa, cap, e, hM, hS⟩ := h
  have e2 : parM hp (kn : Int) (mn : Int) = some (tab mn kn (parT hp kn mn)) := by unfold parM; rw [if_pos hb]; rfl
  rw [e2, Option.getD_some, tab_length]
  exact ⟨sa, cap, e, hM, hS⟩
 | false =>
  refine (Parity_bad B (some (wb, p)) fv k m w hI hf hb).mono fun v w' h => ?_
  have e2 : parM hp k m = none := by unfold parM; rw [hb]; rfl
  rw [e2]
  exact ⟨none, 0, h.1, (MOwn.nil FDx B 0 0 0 _ 37 (Nat.le_refl _)).matS (by decide) (Nat.zero_le _), h.2⟩

set_option maxRecDepth 100000 in
set_option maxHeartbeats 1000000 in
theorem JvanTells_ok (B : Nat) (lg : Bool) (k m : Int) (w : World) (hI : Inv FDx B w) (hk : -9223372036854775808 ≤ k ∧ k < 9223372036854775808) (hm : -9223372036854775808 ≤ m ∧ m < 9223372036854775808) : Ret Try.prog 3 [.bool lg, .int .i64 k, .int .i64 m] w fun v w' => v = .bool true ∧ St FDx B w w' := by
 refine enter 77 [(0, .bool lg), (1, .int .i64 k), (2, .int .i64 m)] 6 Try.func3 rfl rfl rfl rfl rfl ?_; intro a hF
 have hS := St.refl hI
 refine W_sr rfl (fun K hK => ?_)
 refine sv hF (v_assign rfl) rfl ?_; clear hF a; intro a hF
 refine WL_nil (hK _ _ ?_)
 clear hK K
 refine W_sr rfl (fun K hK => ?_)
 refine sc hF rfl rfl rfl en14 rfl (aw07_ok B _ hS.inv) ?_; clear hF a; intro v w' a hv hF
 obtain ⟨rfl, hS'⟩ := hv
 replace hS := hS.trans hS'
 clear hS'
 refine sv hF (v_assign rfl) rfl ?_; clear hF a; intro a hF
 refine WL_nil (hK _ _ ?_)
 clear hK K
 replace hF := hF.sub _ (c_ 7 rfl (c_ 6 rfl (c_ 0 rfl (c_ 1 rfl (c_ 2 rfl (n_))))))
 refine W_sr rfl (fun K hK => ?_)
 refine sv hF (v_move rfl) rfl ?_; clear hF a; intro a hF
 refine sc hF rfl rfl rfl en15 rfl (field7_ok B lg _ hS.inv) ?_; clear hF a; intro v w' a hv hF
 obtain ⟨fv, rfl, hf, hS'⟩ := hv
 obtain ⟨⟨wb, p⟩, hq⟩ : ∃ q, fq lg = q := ⟨_, rfl⟩
 have hq1 : (fq lg).1 = wb := by rw [hq]
 have hq2 : (fq lg).2 = p := by rw [hq]
 rw [hq] at hf
 rw [hq1, hq2] at hF
 clear hq1 hq2
 have hp : Prm wb p := hf.1
 replace hS := hS.trans hS'
 clear hS'
 refine sv6 hF (v_move rfl) (v_ext rfl rfl) (v_ext rfl rfl) (v_ext rfl rfl) (v_assign rfl) (v_assign rfl) rfl rfl rfl rfl rfl rfl ?_; clear hF a; intro a hF
 refine sv hF (v_assign rfl) rfl ?_; clear hF a; intro a hF
 refine WL_nil (hK _ _ ?_)
 clear hK K
 replace hF := hF.sub _ (c_ 10 rfl (c_ 9 rfl (c_ 8 rfl (c_ 7 rfl (c_ 6 rfl (c_ 1 rfl (c_ 2 rfl (n_))))))))
 refine W_sr rfl (fun K hK => ?_)
 refine sv3 hF (v_move rfl) (v_move rfl) (v_move rfl) rfl rfl rfl ?_; clear hF a; intro a hF
 refine sc hF rfl rfl rfl en16 rfl (Extended_m B (some (wb, p)) fv k m _ hS.inv hf) ?_; clear hF a; intro v w' a hv hF
 obtain ⟨obX, uX, rfl, hoX, hS'⟩ := hv
 obtain ⟨sX, cX, rfl, hX⟩ := hoX.mat (by decide) (Nat.zero_le _)
 clear hoX
 replace hf := hf.st hS'
 replace hS := hS.trans hS'
 clear hS'
 refine sv5 hF (v_move rfl) (v_ext rfl rfl) (v_ext rfl rfl) (v_assign rfl) (v_assign rfl) rfl rfl rfl rfl rfl ?_; clear hF a; intro a hF
 refine WL_nil (hK _ _ ?_)
 clear hK K
 replace hF := hF.sub _ (c_ 12 rfl (c_ 11 rfl (c_ 10 rfl (c_ 9 rfl (c_ 8 rfl (c_ 7 rfl (c_ 6 rfl (c_ 1 rfl (c_ 2 rfl (n_))))))))))
 refine W_sr rfl (fun K hK => ?_)
 refine sv4 hF (v_move rfl) (v_move rfl) (v_move rfl) (v_move rfl) rfl rfl rfl rfl ?_; clear hF a; intro a hF
 refine sc hF rfl rfl rfl en17 rfl (rExtended_ok B wb p hp k m _ hS.inv) ?_; clear hF a; intro v w' a hv hF
 obtain ⟨obY, uY, rfl, hoY, hS'⟩ := hv
 obtain ⟨sY, cY, rfl, hY⟩ := hoY.mat (by decide) (Nat.zero_le _)
 clear hoY
 replace hf := hf.st hS'
 replace hX := (hX.st hS').mono hS'.ext.size
 replace hS := hS.trans hS'
 clear hS'
 refine sv5 hF (v_move rfl) (v_ext rfl rfl) (v_ext rfl rfl) (v_assign rfl) (v_assign rfl) rfl rfl rfl rfl rfl ?_; clear hF a; intro a hF
 refine WL_nil (hK _ _ ?_)
 clear hK K
 replace hF := hF.sub _ (c_ 14 rfl (c_ 13 rfl (c_ 12 rfl (c_ 11 rfl (c_ 10 rfl (c_ 9 rfl (c_ 8 rfl (c_ 7 rfl (c_ 6 rfl (c_ 1 rfl (c_ 2 rfl (n_))))))))))))
 refine W_sr rfl (fun K hK => ?_)
 refine sv3 hF (v_move rfl) (v_move rfl) (v_move rfl) rfl rfl rfl ?_; clear hF a; intro a hF
 refine sc hF rfl rfl rfl en18 rfl (Parity_m B wb p hp fv k m _ hS.inv hf) ?_; clear hF a; intro v w' a hv hF
 obtain ⟨sZ, cZ, rfl, hZ, hS'⟩ := hv
 replace hf := hf.st hS'
 replace hX := (hX.st hS').mono hS'.ext.size
 replace hY := (hY.st hS').mono hS'.ext.size
 replace hS := hS.trans hS'
 clear hS'
 refine sv5 hF (v_move rfl) (v_ext rfl rfl) (v_ext rfl rfl) (v_assign rfl) (v_assign rfl) rfl rfl rfl rfl rfl ?_; clear hF a; intro a hF
 refine WL_nil (hK _ _ ?_)
 clear hK K
 replace hF := hF.sub _ (c_ 16 rfl (c_ 15 rfl (c_ 14 rfl (c_ 13 rfl (c_ 12 rfl (c_ 11 rfl (c_ 10 rfl (c_ 9 rfl (c_ 7 rfl (c_ 6 rfl (c_ 1 rfl (c_ 2 rfl (n_)))))))))))))
 refine W_sr rfl (fun K hK => ?_)
 refine sv4 hF (v_move rfl) (v_move rfl) (v_move rfl) (v_move rfl) rfl rfl rfl rfl ?_; clear hF a; intro a hF
 refine sc hF rfl rfl rfl en19 rfl (rParity_ok B wb p hp k m _ hS.inv) ?_; clear hF a; intro v w' a hv hF
 obtain ⟨obU, uU, rfl, hoU, hS'⟩ := hv
 obtain ⟨sU, cU, rfl, hU⟩ := hoU.mat (by decide) (Nat.zero_le _)
 clear hoU
 replace hf := hf.st hS'
 replace hX := (hX.st hS').mono hS'.ext.size
 replace hY := (hY.st hS').mono hS'.ext.size
 replace hZ := (hZ.st hS').mono hS'.ext.size
 replace hS := hS.trans hS'
 clear hS'
 refine sv5 hF (v_move rfl) (v_ext rfl rfl) (v_ext rfl rfl) (v_assign rfl) (v_assign rfl) rfl rfl rfl rfl rfl ?_; clear hF a; intro a hF
 refine WL_nil (hK _ _ ?_)
 clear hK K
 replace hF := hF.sub _ (c_ 18 rfl (c_ 17 rfl (c_ 16 rfl (c_ 15 rfl (c_ 14 rfl (c_ 13 rfl (c_ 12 rfl (c_ 11 rfl (c_ 7 rfl (c_ 6 rfl (n_)))))))))))
 refine W_sr rfl (fun K hK => ?_)
 refine sv2 hF (v_move rfl) (v_move rfl) rfl rfl ?_; clear hF a; intro a hF
 refine svg hF rfl ?_
 refine sv hF (v_move rfl) rfl ?_; clear hF a; intro a hF
 refine svg hF rfl ?_
 refine sv hF (v_move rfl) rfl ?_; clear hF a; intro a hF
 refine svg hF rfl ?_
 refine sc hF rfl rfl rfl en20 rfl (was7_ok (extM (some (wb, p)) k m) _ _ rfl) ?_; clear hF a; intro v w' a hv hF
 obtain ⟨rfl, hw⟩ := hv
 obtain rfl := hw.symm
 have hS' := St.refl hS.inv
 replace hf := hf.st hS'
 replace hX := (hX.st hS').mono hS'.ext.size
 replace hY := (hY.st hS').mono hS'.ext.size
 replace hZ := (hZ.st hS').mono hS'.ext.size
 replace hU := (hU.st hS').mono hS'.ext.size
 replace hS := hS.trans hS'
 clear hS'
 refine sv2 hF (v_pickT rfl rfl) (v_move rfl) rfl rfl ?_; clear hF a; intro a hF
 refine svg hF rfl ?_
 refine sv hF (v_move rfl) rfl ?_; clear hF a; intro a hF
 refine svg hF rfl ?_
 refine sv hF (v_move rfl) rfl ?_; clear hF a; intro a hF
 refine svg hF rfl ?_
 refine sc hF rfl rfl rfl en21 rfl (Same4_t B _ _ _ _ _ _ _ _ hS.inv hX hY (len1k (extM_lens _ _ _)).1 (len1k (extM_lens _ _ _)).2 rfl) ?_; clear hF a; intro v w' a hv hF
 obtain ⟨rfl, hS'⟩ := hv
 replace hf := hf.st hS'
 replace hX := (hX.st hS').mono hS'.ext.size
 replace hY := (hY.st hS').mono hS'.ext.size
 replace hZ := (hZ.st hS').mono hS'.ext.size
 replace hU := (hU.st hS').mono hS'.ext.size
 replace hS := hS.trans hS'
 clear hS'
 refine sv2 hF (v_pickT rfl rfl) (v_move rfl) rfl rfl ?_; clear hF a; intro a hF
 refine svg hF rfl ?_
 refine sv hF (v_move rfl) rfl ?_; clear hF a; intro a hF
 refine svg hF rfl ?_
 refine sv hF (v_move rfl) rfl ?_; clear hF a; intro a hF
 refine svg hF rfl ?_
 refine sc hF rfl rfl rfl en20 rfl (was7_ok (parM hp k m) _ _ rfl) ?_; clear hF a; intro v w' a hv hF
 obtain ⟨rfl, hw⟩ := hv
 obtain rfl := hw.symm
 have hS' := St.refl hS.inv
 replace hf := hf.st hS'
 replace hX := (hX.st hS').mono hS'.ext.size
 replace hY := (hY.st hS').mono hS'.ext.size
 replace hZ := (hZ.st hS').mono hS'.ext.size
 replace hU := (hU.st hS').mono hS'.ext.size
 replace hS := hS.trans hS'
 clear hS'
 refine sv2 hF (v_pickT rfl rfl) (v_move rfl) rfl rfl ?_; clear hF a; intro a hF
 refine svg hF rfl ?_
 refine sv hF (v_move rfl) rfl ?_; clear hF a; intro a hF
 refine svg hF rfl ?_
 refine sv hF (v_move rfl) rfl ?_; clear hF a; intro a hF
 refine svg hF rfl ?_
 refine sc hF rfl rfl rfl en21 rfl (Same4_t B _ _ _ _ _ _ _ _ hS.inv hZ hU (len1k (parM_lens hp _ _)).1 (len1k (parM_lens hp _ _)).2 rfl) ?_; clear hF a; intro v w' a hv hF
 obtain ⟨rfl, hS'⟩ := hv
 replace hf := hf.st hS'
 replace hX := (hX.st hS').mono hS'.ext.size
 replace hY := (hY.st hS').mono hS'.ext.size
 replace hZ := (hZ.st hS').mono hS'.ext.size
 replace hU := (hU.st hS').mono hS'.ext.size
 replace hS := hS.trans hS'
 clear hS'
 refine sv2 hF (v_pickT rfl rfl) (v_assign rfl) rfl rfl ?_; clear hF a; intro a hF
 refine WL_nil (hK _ _ ?_)
 clear hK K
 replace hF := hF.sub _ (c_ 6 rfl (n_))
 refine W_ret ?_
 refine ⟨_, _, hF, rfl, ?_⟩
 exact ⟨rfl, hS⟩

end Go.Proofs.Ytaeljbdpjiciaaa
