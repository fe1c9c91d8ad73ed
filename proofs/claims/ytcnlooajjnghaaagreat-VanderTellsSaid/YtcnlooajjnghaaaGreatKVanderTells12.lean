/- Texts of the claim VanderTells (part 12), put together in the order of their imports. -/
import Derived.Test.YtcnlooajjnghaaaGreatKVanderTells11
/- The walks of gambrelref05: inverses, ranks, what is solved. -/
set_option linter.unusedVariables false
set_option linter.unusedSimpArgs false
namespace Go.Proofs.YtcnlooajjnghaaaGreat
open Go Go.Gam


namespace FxFRef05b
theorem en9 : Ent Tryz.prog 9 := ent Tryz.func9 (by kernel_rfl) (by kernel_rfl)
theorem en31 : Ent Tryz.prog 31 := ent Tryz.func31 (by kernel_rfl) (by kernel_rfl)
theorem en32 : Ent Tryz.prog 32 := ent Tryz.func32 (by kernel_rfl) (by kernel_rfl)
theorem en33 : Ent Tryz.prog 33 := ent Tryz.func33 (by kernel_rfl) (by kernel_rfl)
theorem en39 : Ent Tryz.prog 39 := ent Tryz.func39 (by kernel_rfl) (by kernel_rfl)
theorem en40 : Ent Tryz.prog 40 := ent Tryz.func40 (by kernel_rfl) (by kernel_rfl)
theorem sc23 : Scalar Tryz.prog 23 := ⟨_, Tryz.underlying23, by simp, by simp⟩
theorem sc3 : Scalar Tryz.prog 3 := ⟨_, Tryz.underlying3, by simp, by simp⟩
theorem sl22 : Sl Tryz.prog 22 23 (.slice none 0 0) 24 := sl_of Tryz.underlying22 rfl (by kernel_rfl)
theorem sl23 : Sl Tryz.prog 23 3 (.int .i64 0) 8 := sl_of Tryz.underlying23 rfl (by kernel_rfl)
end FxFRef05b
open FxFRef05b

set_option maxRecDepth 100000 in
set_option maxHeartbeats 1000000 in
theorem rInverse_ok (B M wb p : Nat) (hp : Prm wb p) (pmt : Option Addr) (cmt : Nat) (mt : Mtx) (w : World) (hI : Inv FDx B w) (hM : M ≤ w.heap.size) (hAmt : Mat FDx B M w pmt cmt mt) (hlmt : mt.length ≤ maxLen) (hbmt : ∀ r ∈ mt, r.length ≤ maxLen) : Ret Tryz.prog 9 [.int .i64 (wb : Int), .int .u32 (p : Int), .slice pmt mt.length cmt] w fun v w' => ∃ su cu, v = .tuple #[.slice su (invR hp mt).2.length cu, .int .i64 (invR hp mt).1] ∧ Mat FDx B w'.heap.size w' su cu (invR hp mt).2 ∧ St FDx B w w' := by
  refine enter2 81 [(0, .int .i64 (wb : Int)), (1, .int .u32 (p : Int)), (2, .slice pmt mt.length cmt)] 6 7 Tryz.func9 rfl rfl rfl rfl rfl ?_; intro a hF
  have hS := St.refl hI
  refine W_sr rfl (fun K hK => ?_)
  refine sv hF (v_assign rfl) rfl ?_; clear hF a; intro a hF
  refine sv hF (v_assign rfl) rfl ?_; clear hF a; intro a hF
  refine WL_nil (hK _ _ ?_)
  clear hK K
  refine W_seq ?_
  refine W_sr rfl (fun K hK => ?_)
  refine sv hF (v_move rfl) rfl ?_; clear hF a; intro a hF
  refine sv hF (v_move rfl) rfl ?_; clear hF a; intro a hF
  refine sc hF rfl rfl rfl en31 rfl (rMay_ok B M wb p hp pmt cmt mt _ hS.inv hAmt hlmt hbmt) ?_; clear hF a; intro v w' a hv hF
  obtain ⟨rfl, hS'⟩ := hv
  replace hAmt := hAmt.st hS'
  replace hS := hS.trans hS'
  clear hS'
  obtain hc1 | hc1 : (mayM (some (wb, p)) mt) = true ∨ (mayM (some (wb, p)) mt) = false := by cases (mayM (some (wb, p)) mt) <;> simp
  · rw [hc1] at hF
    have hmay : mayM (some (wb, p)) mt = true := hc1
    have hmp := mayM_pos hmay
    obtain ⟨r0, h0⟩ : ∃ r, mt[0]? = some r := ⟨_, List.getElem?_eq_getElem (by omega)⟩
    obtain ⟨g0, o0, pr0, cr0, hg0, hk0, hrow0, -⟩ := hAmt.row h0
    have hw0 := wid_at h0
    subst hg0
    refine sv hF (v_not rfl) rfl ?_; clear hF a; intro a hF
    refine sv hF (v_move rfl) rfl ?_; clear hF a; intro a hF
    refine svg hF rfl ?_
    refine sv hF (v_move rfl) rfl ?_; clear hF a; intro a hF
    refine svg hF rfl ?_
    refine sv hF (v_lenS rfl sl22 rfl) rfl ?_; clear hF a; intro a hF
    refine svg hF rfl ?_
    refine sv hF (v_move rfl) rfl ?_; clear hF a; intro a hF
    refine svg hF rfl ?_
    refine sv hF (v_ixS sl22 rfl rfl (by decide) (by omega)) rfl ?_; clear hF a; intro a hF
    refine svg hF rfl ?_
    refine sv hF (v_load sc23 rfl hk0.c) rfl ?_; clear hF a; intro a hF
    refine svg hF rfl ?_
    refine sv hF (v_lenS rfl sl23 rfl) rfl ?_; clear hF a; intro a hF
    refine svg hF rfl ?_
    refine sv hF (v_neq rfl rfl) rfl ?_; clear hF a; intro a hF
    refine sv hF (v_pickF rfl rfl) rfl ?_; clear hF a; intro a hF
    refine WL_nil (hK _ _ ?_)
    clear hK K
    replace hF := hF.sub _ (c_ 29 rfl (c_ 7 rfl (c_ 6 rfl (c_ 0 rfl (c_ 1 rfl (c_ 2 rfl (n_)))))))
    refine W_if hF rfl (fun hc2 => ?_) (fun hc2 => ?_)
    · skip
      try simp only [decide_eq_true_eq, decide_eq_false_iff_not, Bool.not_eq_true', Bool.not_eq_false', Bool.not_true, Bool.not_false] at hc2
      refine W_sr rfl (fun K hK => ?_)
      refine sv hF (v_assign rfl) rfl ?_; clear hF a; intro a hF
      refine sv hF (v_assign rfl) rfl ?_; clear hF a; intro a hF
      refine WL_nil (hK _ _ ?_)
      clear hK K
      replace hF := hF.sub _ (c_ 7 rfl (c_ 6 rfl (c_ 0 rfl (c_ 1 rfl (c_ 2 rfl (n_))))))
      refine W_ret ?_
      refine ⟨_, _, _, hF, rfl, rfl, ?_⟩
      rw [invR_bad hp (by unfold sqM; rw [hmay, hw0]; simp only [Bool.true_and]; rw [decide_eq_false_iff_not]; omega)]
      exact ⟨_, _, rfl, (MOwn.nil FDx B 0 0 0 _ 23 (Nat.le_refl _)).matS (by decide) (Nat.zero_le _), hS⟩
    · skip
      try simp only [decide_eq_true_eq, decide_eq_false_iff_not, Bool.not_eq_true', Bool.not_eq_false', Bool.not_true, Bool.not_false] at hc2
      refine W_skip ?_
      have hsq : sqM (some (wb, p)) mt = true := by unfold sqM; rw [hmay, hw0]; simp only [Bool.true_and]; rw [decide_eq_true_iff]; omega
      obtain ⟨hmx, hn1, hn20, -⟩ := sqM_Mx hsq
      obtain ⟨n, hn⟩ : ∃ n, n = mt.length := ⟨_, rfl⟩
      rw [← hn] at hmx hn1 hn20 hF
      have hbd := hmx.bd hp
      have htab := hmx.eq_tab
      have hid : identM (n : Int) = tab n n I1 := by rw [identM_of ⟨hn1, hn20⟩, idM_tab]; rfl
      clear hk0 hrow0
      refine W_sr rfl (fun K hK => ?_)
      refine sv hF (v_move rfl) rfl ?_; clear hF a; intro a hF
      refine sv hF (v_lenS rfl sl22 rfl) rfl ?_; clear hF a; intro a hF
      refine sv hF (v_assign rfl) rfl ?_; clear hF a; intro a hF
      refine WL_nil (hK _ _ ?_)
      clear hK K
      replace hF := hF.sub _ (c_ 8 rfl (c_ 7 rfl (c_ 6 rfl (c_ 0 rfl (c_ 1 rfl (c_ 2 rfl (n_)))))))
      refine W_sr rfl (fun K hK => ?_)
      refine sv hF (v_move rfl) rfl ?_; clear hF a; intro a hF
      refine sc hF rfl rfl rfl en32 rfl (rIdentity_ok B (n : Int) _ hS.inv (by omega)) ?_; clear hF a; intro v w' a hv hF
      obtain ⟨ob, ho, hS'⟩ := hv
      rw [hid] at ho
      obtain ⟨sI, cI, rfl, hId⟩ := ho.mat (by decide) (Nat.zero_le _)
      rw [tab_length] at hF
      clear ho
      replace hAmt := hAmt.st hS'
      replace hS := hS.trans hS'
      clear hS'
      refine sv hF (v_assign rfl) rfl ?_; clear hF a; intro a hF
      refine WL_nil (hK _ _ ?_)
      clear hK K
      replace hF := hF.sub _ (c_ 9 rfl (c_ 8 rfl (c_ 7 rfl (c_ 6 rfl (c_ 0 rfl (c_ 1 rfl (c_ 2 rfl (n_))))))))
      obtain ⟨K1, hK1⟩ : ∃ k, k = w'.heap.size := ⟨_, rfl⟩
      rw [← hK1] at hId
      have hwK : w.heap.size ≤ K1 := by have := hS.ext.size; omega
      have hKz : K1 ≤ w'.heap.size := by omega
      rw [htab] at hAmt
      clear hK1
      refine W_sr rfl (fun K hK => ?_)
      refine sv hF (v_assign rfl) rfl ?_; clear hF a; intro a hF
      refine WL_nil (hK _ _ ?_)
      clear hK K
      refine W_seq ?_
      refine W_sr rfl (fun K hK => ?_)
      refine sv hF (v_assign rfl) rfl ?_; clear hF a; intro a hF
      refine WL_nil (hK _ _ ?_)
      clear hK K
      refine W_block ?_
      refine W_loop (fun q a w1 => ∃ (i : Nat) (v10 : Value) (b10 : Option Nat), Fr 81 [(0, .int .i64 (wb : Int)), (1, .int .u32 (p : Int)), (2, .slice (some ⟨g0, o0, none⟩) n cmt), (8, .int .i64 (n : Int)), (9, .slice sI n cI), (10, v10), (11, .int .i64 (i : Int))] a ∧ (St FDx B w w1) ∧ (Mat FDx B M w1 (some ⟨g0, o0, none⟩) cmt (tab n n (en mt))) ∧ (Mat FDx B K1 w1 sI cI (tab n n I1)) ∧ (MOwn FDx B K1 0 w1.heap.size w1 23 v10 b10 ((List.range i).map (trow (n + n) (Fld.bes n (en mt) I1)))) ∧ (K1 ≤ w1.heap.size) ∧ (i ≤ n) ∧ (q + i = n)) (n) ?_ ?_
      · skip
        exact ⟨0, _, none, hF.sub _ (c_ 0 rfl (c_ 1 rfl (c_ 2 rfl (c_ 8 rfl (c_ 9 rfl (c_ 10 rfl (c_ 11 rfl (n_)))))))), hS, hAmt, hId, MOwn.nil _ _ _ _ _ _ _ (Nat.zero_le _), hKz, by omega, by omega⟩
      · skip
        clear hF
        clear hS hAmt hId hKz
        rintro q a w1 ⟨i, v10, b10, hF, hS, hAmt, hId, hMO, hKz, hi, hq⟩
        refine W_seq ?_
        obtain ⟨KM, hKe⟩ : ∃ K, K = w1.heap.size := ⟨_, rfl⟩
        rw [← hKe] at hMO
        have hKs : KM ≤ w1.heap.size := by omega
        have hKK : K1 ≤ KM := by omega
        clear hKe
        refine W_sr rfl (fun K hK => ?_)
        refine sv hF (v_move rfl) rfl ?_; clear hF a; intro a hF
        refine sv hF (v_move rfl) rfl ?_; clear hF a; intro a hF
        refine sv hF (v_lss rfl rfl) rfl ?_; clear hF a; intro a hF
        refine WL_nil (hK _ _ ?_)
        clear hK K
        replace hF := hF.sub _ (c_ 36 rfl (c_ 0 rfl (c_ 1 rfl (c_ 2 rfl (c_ 8 rfl (c_ 9 rfl (c_ 10 rfl (c_ 11 rfl (n_)))))))))
        refine W_if hF rfl (fun hc3 => ?_) (fun hc3 => ?_)
        · skip
          try simp only [decide_eq_true_eq, decide_eq_false_iff_not, Bool.not_eq_true', Bool.not_eq_false', Bool.not_true, Bool.not_false] at hc3
          have hlt : i < n := by omega
          obtain ⟨ga, oa, pra, cra, hga, hka, hra, -⟩ := hAmt.row (show (tab n n (en mt))[i]? = some (trow n (en mt) i) from tab_at hlt)
          cases hga
          rw [trow_length] at hka hra
          refine W_skip ?_
          refine W_seq ?_
          refine W_block ?_
          refine W_sr rfl (fun K hK => ?_)
          have hKs0 := hKs
          refine s_bs (D := FDx) (B := B) hF sl23 rfl rfl (by decide) (by simp [Value.cells]) (by decide) hS.inv rfl ?_; clear hF a; intro w' a hm hI' hC hF
          replace hAmt := hAmt.mb hm (fun _ h => by cases h)
          replace hId := hId.mb hm (fun _ h => by cases h)
          replace hMO := hMO.mb0 hm
          replace hKz := Nat.le_trans hKz hm.size
          replace hKs := Nat.le_trans hKs hm.size
          replace hka := hka.mb hm (by simp)
          replace hra := hra.mb hm (fun _ h => by cases h)
          replace hS := hS.mb0 hm
          clear hm hI'
          replace hC := hC.le hKs0
          clear hKs0
          refine sv hF (v_move rfl) rfl ?_; clear hF a; intro a hF
          refine sv hF (v_move rfl) rfl ?_; clear hF a; intro a hF
          refine sv hF (v_ixS sl22 rfl rfl (by omega) (by omega)) rfl ?_; clear hF a; intro a hF
          refine sv hF (v_load sc23 rfl (by rw [toNat_c]; exact hka.c)) rfl ?_; clear hF a; intro a hF
          refine s_app (D := FDx) (B := B) hF rfl sl23 rfl rfl hC (hra) (by intro u hu; obtain ⟨_, _, rfl⟩ := List.mem_map.1 hu; rfl) (by simp; omega) (by simp [maxLen]; omega) (hKs) (by decide) hS.inv rfl ?_; clear hF a; intro v' b' w' a ho' hm hI' hb' hF
          replace hAmt := hAmt.mb hm (fun k h => Nat.le_trans (by omega) (hC.lt k h).1)
          replace hId := hId.mb hm (fun k h => Nat.le_trans (by omega) (hC.lt k h).1)
          replace hMO := hMO.mbo hm hC (by decide) (Nat.le_refl _) (Nat.zero_le _)
          replace hKz := Nat.le_trans hKz hm.size
          replace hKs := Nat.le_trans hKs hm.size
          replace hra := hra.mb hm (fun k h => Nat.le_trans (by omega) (hC.lt k h).1)
          replace hS := hS.mb hm (fun k h => Nat.le_trans ((Nat.le_trans hwK hKK)) (hC.lt k h).1)
          replace hC := ho'
          clear hm hI' ho'
          clear hka hra
          refine sv hF (v_assign rfl) rfl ?_; clear hF a; intro a hF
          refine WL_nil (hK _ _ ?_)
          clear hK K
          replace hF := hF.sub _ (c_ 12 rfl (c_ 0 rfl (c_ 1 rfl (c_ 2 rfl (c_ 8 rfl (c_ 9 rfl (c_ 10 rfl (c_ 11 rfl (n_)))))))))
          refine W_sr rfl (fun K hK => ?_)
          refine sv hF (v_move rfl) rfl ?_; clear hF a; intro a hF
          refine sv hF (v_move rfl) rfl ?_; clear hF a; intro a hF
          refine sv hF (v_move rfl) rfl ?_; clear hF a; intro a hF
          obtain ⟨gb, ob_, prb, crb, hgb, hkb, hrb, -⟩ := hId.row (show (tab n n I1)[i]? = some (trow n I1 i) from tab_at hlt)
          cases hgb
          rw [trow_length] at hkb hrb
          refine sv hF (v_ixS sl22 rfl rfl (by omega) (by omega)) rfl ?_; clear hF a; intro a hF
          refine sv hF (v_load sc23 rfl (by rw [toNat_c]; exact hkb.c)) rfl ?_; clear hF a; intro a hF
          refine s_app (D := FDx) (B := B) hF rfl sl23 rfl rfl hC (hrb) (by intro u hu; obtain ⟨_, _, rfl⟩ := List.mem_map.1 hu; rfl) (by simp; omega) (by simp [maxLen]; omega) (hKs) (by decide) hS.inv rfl ?_; clear hF a; intro v' b' w' a ho' hm hI' hb' hF
          replace hAmt := hAmt.mb hm (fun k h => Nat.le_trans (by omega) (hC.lt k h).1)
          replace hId := hId.mb hm (fun k h => Nat.le_trans (by omega) (hC.lt k h).1)
          replace hMO := hMO.mbo hm hC (by decide) (Nat.le_refl _) (Nat.zero_le _)
          replace hKz := Nat.le_trans hKz hm.size
          replace hKs := Nat.le_trans hKs hm.size
          replace hS := hS.mb hm (fun k h => Nat.le_trans ((Nat.le_trans hwK hKK)) (hC.lt k h).1)
          replace hC := ho'
          clear hm hI' ho'
          clear hkb hrb
          replace hC := hC.cast (ys := zints (trow (n + n) (Fld.bes n (en mt) I1) i)) (by rw [← bes_row]; simp [zints])
          refine sv hF (v_assign rfl) rfl ?_; clear hF a; intro a hF
          refine WL_nil (hK _ _ ?_)
          clear hK K
          replace hF := hF.sub _ (c_ 12 rfl (c_ 0 rfl (c_ 1 rfl (c_ 2 rfl (c_ 8 rfl (c_ 9 rfl (c_ 10 rfl (c_ 11 rfl (n_)))))))))
          refine W_reg rfl (fun K hK => ?_)
          refine sv hF (v_move rfl) rfl ?_; clear hF a; intro a hF
          refine sv hF (v_move rfl) rfl ?_; clear hF a; intro a hF
          obtain ⟨a_, c_r, rfl⟩ := hC.shape
          refine s_bs (D := FDx) (B := B) hF sl22 rfl rfl (by decide) (by simp [Value.cells]) (by decide) hS.inv rfl ?_; clear hF a; intro w' a hm hI' hL hF
          replace hAmt := hAmt.mb hm (fun _ h => by cases h)
          replace hId := hId.mb hm (fun _ h => by cases h)
          replace hMO := hMO.mb0 hm
          replace hKz := Nat.le_trans hKz hm.size
          replace hKs := Nat.le_trans hKs hm.size
          replace hC := hC.mb hm (fun _ _ => by simp)
          replace hS := hS.mb0 hm
          clear hm hI'
          replace hMO := hMO.up hKs
          clear hKs
          refine s_appM (D := FDx) (B := B) hF rfl sl22 rfl rfl hMO hL (.of (r := trow (n + n) (Fld.bes n (en mt) I1) i) hC (Nat.zero_le _)) rfl rfl (by simp; omega) (hKz) (by decide) (by decide) hS.inv rfl ?_; clear hF a; intro v' b' w' a ho' hm hI' hF
          replace hAmt := hAmt.mb hm (fun k h => Nat.le_trans (Nat.le_trans hM hwK) (hMO.lt k h).1)
          replace hId := hId.mb hm (fun k h => Nat.le_trans (Nat.le_refl _) (hMO.lt k h).1)
          replace hKz := Nat.le_trans hKz hm.size
          replace hS := hS.mb hm (fun k h => Nat.le_trans hwK (hMO.lt k h).1)
          have hKm := hm.size
          replace hMO := ho'
          clear hm hI' ho' hL
          refine sv hF (v_assign rfl) rfl ?_; clear hF a; intro a hF
          refine WL_nil (hK _ _ ?_)
          clear hK K
          replace hF := hF.sub _ (c_ 10 rfl (c_ 0 rfl (c_ 1 rfl (c_ 2 rfl (c_ 8 rfl (c_ 9 rfl (c_ 11 rfl (n_))))))))
          refine W_reg rfl (fun K hK => ?_)
          refine sv hF (v_move rfl) rfl ?_; clear hF a; intro a hF
          refine sv hF (v_addI rfl rfl (by omega)) rfl ?_; clear hF a; intro a hF
          refine sv hF (v_assign rfl) rfl ?_; clear hF a; intro a hF
          refine WL_nil (hK _ _ ?_)
          clear hK K
          exact ⟨q - 1, by omega, i + 1, _, _, hF.sub _ (c_ 0 rfl (c_ 1 rfl (c_ 2 rfl (c_ 8 rfl (c_ 9 rfl (c_ 10 rfl (c_ 11 rfl (n_)))))))), hS, hAmt, hId, (hMO.up hKm).cast (by rw [List.range_succ, List.map_append]; rfl), hKz, by omega, by omega⟩
        · skip
          try simp only [decide_eq_true_eq, decide_eq_false_iff_not, Bool.not_eq_true', Bool.not_eq_false', Bool.not_true, Bool.not_false] at hc3
          have hin : i = n := by omega
          rw [hin] at hMO
          obtain ⟨sW, cW, rfl, hWd⟩ := hMO.mat (by decide) (Nat.zero_le _)
          rw [show (((List.range n).map (trow (n + n) (Fld.bes n (en mt) I1)))).length = n by simp] at hF
          clear hMO hAmt hId
          refine W_exit rfl ?_
          refine W_sr rfl (fun K hK => ?_)
          refine sv hF (v_move rfl) rfl ?_; clear hF a; intro a hF
          refine sv hF (v_move rfl) rfl ?_; clear hF a; intro a hF
          refine sv hF (v_move rfl) rfl ?_; clear hF a; intro a hF
          refine sv hF (v_move rfl) rfl ?_; clear hF a; intro a hF
          refine sc hF rfl rfl rfl en33 rfl (reduced_ok B _ wb p n (n + n) n hp sW cW (Fld.bes n (en mt) I1) _ hS.inv hWd (Nat.le_refl _) (Fld.bes_bd hp.fld hbd hp.fld.I1_bd) (by omega) ⟨by omega, by omega, by omega⟩) ?_; clear hF a; intro v w' a hv hF
          obtain ⟨go, cap, rfl, hRO, hS'⟩ := hv
          obtain ⟨K0, hK0⟩ : ∃ k, k = w'.heap.size := ⟨_, rfl⟩
          have hRd := hRO.matS (by decide) hS'.ext.size
          rw [← hK0] at hRd
          clear hRO hWd
          have hK0z : K0 ≤ w'.heap.size := by omega
          have hwK0 : w.heap.size ≤ K0 := by have := hS'.ext.size; omega
          clear hK0
          replace hS := hS.trans hS'
          clear hS'
          refine sv hF (v_move rfl) rfl ?_; clear hF a; intro a hF
          refine sv hF (v_ext rfl rfl) rfl ?_; clear hF a; intro a hF
          refine sv hF (v_ext rfl rfl) rfl ?_; clear hF a; intro a hF
          refine sv hF (v_assign rfl) rfl ?_; clear hF a; intro a hF
          refine sv hF (v_assign rfl) rfl ?_; clear hF a; intro a hF
          refine WL_nil (hK _ _ ?_)
          clear hK K
          replace hF := hF.sub _ (c_ 14 rfl (c_ 13 rfl (c_ 62 rfl (c_ 61 rfl (c_ 55 rfl (c_ 60 rfl (c_ 59 rfl (c_ 58 rfl (c_ 57 rfl (c_ 56 rfl (c_ 0 rfl (c_ 1 rfl (c_ 2 rfl (c_ 8 rfl (c_ 9 rfl (c_ 10 rfl (c_ 11 rfl (n_))))))))))))))))))
          refine W_seq ?_
          refine W_sr rfl (fun K hK => ?_)
          refine sv hF (v_move rfl) rfl ?_; clear hF a; intro a hF
          refine sv hF (v_move rfl) rfl ?_; clear hF a; intro a hF
          refine sv hF (v_lss rfl rfl) rfl ?_; clear hF a; intro a hF
          refine WL_nil (hK _ _ ?_)
          clear hK K
          refine W_if hF rfl (fun hc4 => ?_) (fun hc4 => ?_)
          · skip
            try simp only [decide_eq_true_eq, decide_eq_false_iff_not, Bool.not_eq_true', Bool.not_eq_false', Bool.not_true, Bool.not_false] at hc4
            refine W_sr rfl (fun K hK => ?_)
            refine sv hF (v_assign rfl) rfl ?_; clear hF a; intro a hF
            refine sv hF (v_assign rfl) rfl ?_; clear hF a; intro a hF
            refine WL_nil (hK _ _ ?_)
            clear hK K
            refine W_ret ?_
            refine ⟨_, _, _, hF, rfl, rfl, ?_⟩
            rw [invR_none hp hsq (by rw [← hn]; exact iv_lt hp (by omega))]
            exact ⟨_, _, rfl, (MOwn.nil FDx B 0 0 0 _ 23 (Nat.le_refl _)).matS (by decide) (Nat.zero_le _), hS⟩
          · skip
            try simp only [decide_eq_true_eq, decide_eq_false_iff_not, Bool.not_eq_true', Bool.not_eq_false', Bool.not_true, Bool.not_false] at hc4
            have hiv := iv_ge hp (n := n) (f := en mt) (by omega)
            have hinv := invR_some hp hsq (by rw [← hn]; exact hiv)
            rw [← hn] at hinv
            refine W_skip ?_
            refine W_sr rfl (fun K hK => ?_)
            refine sv hF (v_assign rfl) rfl ?_; clear hF a; intro a hF
            refine WL_nil (hK _ _ ?_)
            clear hK K
            refine W_seq ?_
            refine W_sr rfl (fun K hK => ?_)
            refine sv hF (v_assign rfl) rfl ?_; clear hF a; intro a hF
            refine WL_nil (hK _ _ ?_)
            clear hK K
            refine W_block ?_
            refine W_loop (fun q2 a w3 => ∃ (i : Nat) (v15 : Value) (b15 : Option Nat), Fr 81 [(8, .int .i64 (n : Int)), (13, .slice (some ⟨go, 0, none⟩) n cap), (15, v15), (16, .int .i64 (i : Int))] a ∧ (St FDx B w w3) ∧ (Mat FDx B K0 w3 (some ⟨go, 0, none⟩) cap (tab n (n + n) (hp.fld.red n (Fld.bes n (en mt) I1) n).1)) ∧ (MOwn FDx B K0 K0 w3.heap.size w3 23 v15 b15 ((List.range i).map (trow n (half hp n (en mt))))) ∧ (K0 ≤ w3.heap.size) ∧ (i ≤ n) ∧ (q2 + i = n)) (n) ?_ ?_
            · skip
              exact ⟨0, _, none, hF.sub _ (c_ 8 rfl (c_ 13 rfl (c_ 15 rfl (c_ 16 rfl (n_))))), hS, hRd, MOwn.nil _ _ _ _ _ _ _ (Nat.le_refl _), hK0z, by omega, by omega⟩
            · skip
              clear hF
              clear hS hRd hK0z
              rintro q2 a w3 ⟨i, v15, b15, hF, hS, hRd, hMO, hK0z, hi, hq2⟩
              refine W_seq ?_
              obtain ⟨KM, hKe⟩ : ∃ K, K = w3.heap.size := ⟨_, rfl⟩
              rw [← hKe] at hMO
              have hKs : KM ≤ w3.heap.size := by omega
              clear hKe
              refine W_sr rfl (fun K hK => ?_)
              refine sv hF (v_move rfl) rfl ?_; clear hF a; intro a hF
              refine sv hF (v_move rfl) rfl ?_; clear hF a; intro a hF
              refine sv hF (v_lss rfl rfl) rfl ?_; clear hF a; intro a hF
              refine WL_nil (hK _ _ ?_)
              clear hK K
              refine W_if hF rfl (fun hc5 => ?_) (fun hc5 => ?_)
              · skip
                try simp only [decide_eq_true_eq, decide_eq_false_iff_not, Bool.not_eq_true', Bool.not_eq_false', Bool.not_true, Bool.not_false] at hc5
                have hlt : i < n := by omega
                obtain ⟨gw, ow, pr, cr, hgw, hkw, hrw, -⟩ := hRd.row (show (tab n (n + n) (hp.fld.red n (Fld.bes n (en mt) I1) n).1)[i]? = some (trow (n + n) (hp.fld.red n (Fld.bes n (en mt) I1) n).1 i) from tab_at hlt)
                cases hgw
                rw [trow_length] at hrw hkw
                have hcr := hrw.capd
                have hpart := hrw.part (lo := n) (hi := n + n) (by omega) (by simp)
                have hhr := half_row hp n (en mt) i
                have hxs : (List.take (n + n) (zints (trow (n + n) (hp.fld.red n (Fld.bes n (en mt) I1) n).1 i))).drop n = zints (trow n (half hp n (en mt)) i) := by
                  rw [List.take_of_length_le (by simp), ← hhr]; simp [zints, trow]
                rw [hxs] at hpart
                clear hxs hhr
                refine W_skip ?_
                refine W_seq ?_
                refine W_block ?_
                refine W_reg rfl (fun K hK => ?_)
                refine sv hF (v_move rfl) rfl ?_; clear hF a; intro a hF
                refine sv hF (v_move rfl) rfl ?_; clear hF a; intro a hF
                refine sv hF (v_move rfl) rfl ?_; clear hF a; intro a hF
                refine sv hF (v_ixS sl22 rfl rfl (by omega) (by omega)) rfl ?_; clear hF a; intro a hF
                refine sv hF (v_load sc23 rfl (by rw [toNat_c]; exact hkw.c)) rfl ?_; clear hF a; intro a hF
                refine sv hF (v_move rfl) rfl ?_; clear hF a; intro a hF
                refine sv hF (v_slLo sl23 rfl rfl (by omega) (by omega)) rfl ?_; clear hF a; intro a hF
                clear hkw hrw
                refine s_bs (D := FDx) (B := B) hF sl22 rfl rfl (by decide) (by simp [Value.cells]) (by decide) hS.inv rfl ?_; clear hF a; intro w' a hm hI' hL hF
                replace hRd := hRd.mb hm (fun _ h => by cases h)
                replace hMO := hMO.mb0 hm
                replace hK0z := Nat.le_trans hK0z hm.size
                replace hKs := Nat.le_trans hKs hm.size
                replace hpart := hpart.mb hm (fun _ h => by cases h)
                replace hS := hS.mb0 hm
                clear hm hI'
                replace hMO := hMO.up hKs
                clear hKs
                refine s_appM (D := FDx) (B := B) hF rfl sl22 rfl rfl hMO hL (.inr hpart) rfl rfl (by simp; omega) (hK0z) (by decide) (by decide) hS.inv rfl ?_; clear hF a; intro v' b' w' a ho' hm hI' hF
                replace hRd := hRd.mb hm (fun k h => Nat.le_trans (Nat.le_refl _) (hMO.lt k h).1)
                replace hK0z := Nat.le_trans hK0z hm.size
                replace hS := hS.mb hm (fun k h => Nat.le_trans hwK0 (hMO.lt k h).1)
                have hKm := hm.size
                replace hMO := ho'
                clear hm hI' ho' hL
                refine sv hF (v_assign rfl) rfl ?_; clear hF a; intro a hF
                refine WL_nil (hK _ _ ?_)
                clear hK K
                refine W_reg rfl (fun K hK => ?_)
                refine sv hF (v_move rfl) rfl ?_; clear hF a; intro a hF
                refine sv hF (v_addI rfl rfl (by omega)) rfl ?_; clear hF a; intro a hF
                refine sv hF (v_assign rfl) rfl ?_; clear hF a; intro a hF
                refine WL_nil (hK _ _ ?_)
                clear hK K
                exact ⟨q2 - 1, by omega, i + 1, _, _, hF.sub _ (c_ 8 rfl (c_ 13 rfl (c_ 15 rfl (c_ 16 rfl (n_))))), hS, hRd, (hMO.up hKm).cast (by rw [List.range_succ, List.map_append]; rfl), hK0z, by omega, by omega⟩
              · skip
                try simp only [decide_eq_true_eq, decide_eq_false_iff_not, Bool.not_eq_true', Bool.not_eq_false', Bool.not_true, Bool.not_false] at hc5
                refine W_exit rfl ?_
                refine W_sr rfl (fun K hK => ?_)
                refine sv hF (v_move rfl) rfl ?_; clear hF a; intro a hF
                refine sv hF (v_assign rfl) rfl ?_; clear hF a; intro a hF
                refine sv hF (v_assign rfl) rfl ?_; clear hF a; intro a hF
                refine WL_nil (hK _ _ ?_)
                clear hK K
                refine W_ret ?_
                refine ⟨_, _, _, hF, rfl, rfl, ?_⟩
                obtain rfl : i = n := by omega
                rw [hinv]
                obtain ⟨su, cu, rfl, hX⟩ := hMO.mat (by decide) (Nat.le_trans hK0z (Nat.le_refl _))
                exact ⟨su, cu, rfl, hX, hS⟩
  · rw [hc1] at hF
    refine sv hF (v_not rfl) rfl ?_; clear hF a; intro a hF
    refine sv hF (v_move rfl) rfl ?_; clear hF a; intro a hF
    refine svn hF rfl rfl rfl ?_; clear hF a; intro a hF
    refine svn hF rfl rfl rfl ?_; clear hF a; intro a hF
    refine svn hF rfl rfl rfl ?_; clear hF a; intro a hF
    refine svn hF rfl rfl rfl ?_; clear hF a; intro a hF
    refine svn hF rfl rfl rfl ?_; clear hF a; intro a hF
    refine svn hF rfl rfl rfl ?_; clear hF a; intro a hF
    refine svn hF rfl rfl rfl ?_; clear hF a; intro a hF
    refine sv hF (v_pickT rfl rfl) rfl ?_; clear hF a; intro a hF
    refine WL_nil (hK _ _ ?_)
    clear hK K
    replace hF := hF.sub _ (c_ 29 rfl (c_ 7 rfl (c_ 6 rfl (c_ 0 rfl (c_ 1 rfl (c_ 2 rfl (n_)))))))
    refine W_ifT hF rfl ?_
    refine W_sr rfl (fun K hK => ?_)
    refine sv hF (v_assign rfl) rfl ?_; clear hF a; intro a hF
    refine sv hF (v_assign rfl) rfl ?_; clear hF a; intro a hF
    refine WL_nil (hK _ _ ?_)
    clear hK K
    replace hF := hF.sub _ (c_ 7 rfl (c_ 6 rfl (c_ 0 rfl (c_ 1 rfl (c_ 2 rfl (n_))))))
    refine W_ret ?_
    refine ⟨_, _, _, hF, rfl, rfl, ?_⟩
    rw [invR_bad hp (by unfold sqM; rw [show mayM (some (wb, p)) mt = false by simpa using hc1]; rfl)]
    exact ⟨_, _, rfl, (MOwn.nil FDx B 0 0 0 _ 23 (Nat.le_refl _)).matS (by decide) (Nat.zero_le _), hS⟩

set_option maxRecDepth 100000 in
set_option maxHeartbeats 1000000 in
theorem rRank_ok (B M wb p : Nat) (hp : Prm wb p) (pmt : Option Addr) (cmt : Nat) (mt : Mtx) (w : World) (hI : Inv FDx B w) (hM : M ≤ w.heap.size) (hAmt : Mat FDx B M w pmt cmt mt) (hlmt : mt.length ≤ maxLen) (hbmt : ∀ r ∈ mt, r.length ≤ maxLen) : Ret Tryz.prog 11 [.int .i64 (wb : Int), .int .u32 (p : Int), .slice pmt mt.length cmt] w fun v w' => v = .tuple #[.int .i64 (rankR hp mt).1, .int .i64 (rankR hp mt).2] ∧ St FDx B w w' := by
  refine enter2 26 [(0, .int .i64 (wb : Int)), (1, .int .u32 (p : Int)), (2, .slice pmt mt.length cmt)] 6 7 Tryz.func11 rfl rfl rfl rfl rfl ?_; intro a hF
  have hS := St.refl hI
  refine W_sr rfl (fun K hK => ?_)
  refine sv hF (v_assign rfl) rfl ?_; clear hF a; intro a hF
  refine sv hF (v_assign rfl) rfl ?_; clear hF a; intro a hF
  refine WL_nil (hK _ _ ?_)
  clear hK K
  refine W_seq ?_
  refine W_sr rfl (fun K hK => ?_)
  refine sv hF (v_move rfl) rfl ?_; clear hF a; intro a hF
  refine sv hF (v_move rfl) rfl ?_; clear hF a; intro a hF
  refine sc hF rfl rfl rfl en31 rfl (rMay_ok B M wb p hp pmt cmt mt _ hS.inv hAmt hlmt hbmt) ?_; clear hF a; intro v w' a hv hF
  obtain ⟨rfl, hS'⟩ := hv
  replace hAmt := hAmt.st hS'
  replace hS := hS.trans hS'
  clear hS'
  refine sv hF (v_not rfl) rfl ?_; clear hF a; intro a hF
  refine WL_nil (hK _ _ ?_)
  clear hK K
  replace hF := hF.sub _ (c_ 13 rfl (c_ 7 rfl (c_ 6 rfl (c_ 0 rfl (c_ 1 rfl (c_ 2 rfl (n_)))))))
  refine W_if hF rfl (fun hc1 => ?_) (fun hc1 => ?_)
  · skip
    try simp only [decide_eq_true_eq, decide_eq_false_iff_not, Bool.not_eq_true', Bool.not_eq_false', Bool.not_true, Bool.not_false] at hc1
    refine W_sr rfl (fun K hK => ?_)
    refine sv hF (v_assign rfl) rfl ?_; clear hF a; intro a hF
    refine sv hF (v_assign rfl) rfl ?_; clear hF a; intro a hF
    refine WL_nil (hK _ _ ?_)
    clear hK K
    replace hF := hF.sub _ (c_ 7 rfl (c_ 6 rfl (c_ 0 rfl (c_ 1 rfl (c_ 2 rfl (n_))))))
    refine W_ret ?_
    refine ⟨_, _, _, hF, rfl, rfl, ?_⟩
    unfold rankR
    rw [if_neg (by simpa using hc1)]
    exact ⟨rfl, hS⟩
  · skip
    try simp only [decide_eq_true_eq, decide_eq_false_iff_not, Bool.not_eq_true', Bool.not_eq_false', Bool.not_true, Bool.not_false] at hc1
    refine W_skip ?_
    have hmay : mayM (some (wb, p)) mt = true := (by simpa using hc1)
    have hmp := mayM_pos hmay
    obtain ⟨r0, h0⟩ : ∃ r, mt[0]? = some r := ⟨_, List.getElem?_eq_getElem (by omega)⟩
    obtain ⟨g0, o0, pr0, cr0, hg0, hk0, hrow0, -⟩ := hAmt.row h0
    have hw0 := wid_at h0
    subst hg0
    obtain ⟨hmx, hn1, hn20, hm1, hm20⟩ := mayM_Mx hmay
    obtain ⟨n, hn⟩ : ∃ n, n = mt.length := ⟨_, rfl⟩
    obtain ⟨m, hmw⟩ : ∃ n, n = wid mt := ⟨_, rfl⟩
    rw [← hn] at hmx hn1 hn20 hF
    rw [← hmw] at hmx hm1 hm20 hw0
    have hbd := hmx.bd hp
    have htab := hmx.eq_tab
    have hAt := hAmt
    rw [htab] at hAt
    refine W_sr rfl (fun K hK => ?_)
    refine sv hF (v_move rfl) rfl ?_; clear hF a; intro a hF
    refine sv hF (v_move rfl) rfl ?_; clear hF a; intro a hF
    refine sv hF (v_move rfl) rfl ?_; clear hF a; intro a hF
    refine sv hF (v_move rfl) rfl ?_; clear hF a; intro a hF
    refine sv hF (v_ixS sl22 rfl rfl (by decide) (by omega)) rfl ?_; clear hF a; intro a hF
    refine sv hF (v_load sc23 rfl hk0.c) rfl ?_; clear hF a; intro a hF
    refine sv hF (v_lenS rfl sl23 rfl) rfl ?_; clear hF a; intro a hF
    rw [← hw0] at hF
    refine sc hF rfl rfl rfl en33 rfl (reduced_ok B M wb p n m m hp _ cmt (en mt) _ hS.inv hAt (Nat.le_trans hM hS.ext.size) hbd (Nat.le_refl _) ⟨by omega, by omega, by omega⟩) ?_; clear hF a; intro v w' a hv hF
    obtain ⟨go, cap, rfl, -, hS'⟩ := hv
    replace hAmt := hAmt.st hS'
    replace hS := hS.trans hS'
    clear hS'
    refine sv hF (v_move rfl) rfl ?_; clear hF a; intro a hF
    refine sv hF (v_ext rfl rfl) rfl ?_; clear hF a; intro a hF
    refine sv hF (v_ext rfl rfl) rfl ?_; clear hF a; intro a hF
    refine sv hF (v_assign rfl) rfl ?_; clear hF a; intro a hF
    refine sv hF (v_assign rfl) rfl ?_; clear hF a; intro a hF
    refine WL_nil (hK _ _ ?_)
    clear hK K
    replace hF := hF.sub _ (c_ 9 rfl (c_ 7 rfl (c_ 6 rfl (n_))))
    refine W_sr rfl (fun K hK => ?_)
    refine sv hF (v_move rfl) rfl ?_; clear hF a; intro a hF
    refine sv hF (v_assign rfl) rfl ?_; clear hF a; intro a hF
    refine sv hF (v_assign rfl) rfl ?_; clear hF a; intro a hF
    refine WL_nil (hK _ _ ?_)
    clear hK K
    replace hF := hF.sub _ (c_ 7 rfl (c_ 6 rfl (n_)))
    refine W_ret ?_
    refine ⟨_, _, _, hF, rfl, rfl, ?_⟩
    unfold rankR
    rw [if_pos hmay, ← hn, ← hmw]
    exact ⟨rfl, hS⟩

set_option maxRecDepth 100000 in
set_option maxHeartbeats 1000000 in
theorem rSolve_ok (B M wb p : Nat) (hp : Prm wb p) (pmt : Option Addr) (cmt : Nat) (mt : Mtx) (pv : Option Addr) (cv : Nat) (v : List Int) (w : World) (hI : Inv FDx B w) (hM : M ≤ w.heap.size) (hAmt : Mat FDx B M w pmt cmt mt) (hlmt : mt.length ≤ maxLen) (hbmt : ∀ r ∈ mt, r.length ≤ maxLen) (hvr : Row FDx B M w (.slice pv v.length cv) (zints v)) (hvl : v.length ≤ maxLen) : Ret Tryz.prog 13 [.int .i64 (wb : Int), .int .u32 (p : Int), .slice pmt mt.length cmt, .slice pv v.length cv] w fun u w' => ∃ ob s, u = .tuple #[s, .int .i64 (solR hp mt v).1] ∧ Gam.Own FDx B w.heap.size w' FDx.E s ob (zints (solR hp mt v).2) ∧ St FDx B w w' := by
  refine enter2 67 [(0, .int .i64 (wb : Int)), (1, .int .u32 (p : Int)), (2, .slice pmt mt.length cmt), (3, .slice pv v.length cv)] 8 9 Tryz.func13 rfl rfl rfl rfl rfl ?_; intro a hF
  have hS := St.refl hI
  have hvl2 := hvl
  have hml2 := hlmt
  simp only [maxLen] at hvl2 hml2
  refine W_sr rfl (fun K hK => ?_)
  refine sv hF (v_assign rfl) rfl ?_; clear hF a; intro a hF
  refine sv hF (v_assign rfl) rfl ?_; clear hF a; intro a hF
  refine WL_nil (hK _ _ ?_)
  clear hK K
  refine W_seq ?_
  refine W_sr rfl (fun K hK => ?_)
  refine sv hF (v_move rfl) rfl ?_; clear hF a; intro a hF
  refine sv hF (v_move rfl) rfl ?_; clear hF a; intro a hF
  refine sc hF rfl rfl rfl en31 rfl (rMay_ok B M wb p hp pmt cmt mt _ hS.inv hAmt hlmt hbmt) ?_; clear hF a; intro v w' a hv hF
  obtain ⟨rfl, hS'⟩ := hv
  replace hAmt := hAmt.st hS'
  replace hvr := hvr.st hS'
  replace hS := hS.trans hS'
  clear hS'
  obtain hc1 | hc1 : (mayM (some (wb, p)) mt) = true ∨ (mayM (some (wb, p)) mt) = false := by cases (mayM (some (wb, p)) mt) <;> simp
  · rw [hc1] at hF
    have hmay : mayM (some (wb, p)) mt = true := hc1
    have hmp := mayM_pos hmay
    obtain ⟨r0, h0⟩ : ∃ r, mt[0]? = some r := ⟨_, List.getElem?_eq_getElem (by omega)⟩
    obtain ⟨g0, o0, pr0, cr0, hg0, hk0, hrow0, -⟩ := hAmt.row h0
    have hw0 := wid_at h0
    subst hg0
    refine sv hF (v_not rfl) rfl ?_; clear hF a; intro a hF
    refine sv hF (v_move rfl) rfl ?_; clear hF a; intro a hF
    refine svg hF rfl ?_
    refine sv hF (v_move rfl) rfl ?_; clear hF a; intro a hF
    refine svg hF rfl ?_
    refine sv hF (v_lenS rfl sl22 rfl) rfl ?_; clear hF a; intro a hF
    refine svg hF rfl ?_
    refine sv hF (v_move rfl) rfl ?_; clear hF a; intro a hF
    refine svg hF rfl ?_
    refine sv hF (v_ixS sl22 rfl rfl (by decide) (by omega)) rfl ?_; clear hF a; intro a hF
    refine svg hF rfl ?_
    refine sv hF (v_load sc23 rfl hk0.c) rfl ?_; clear hF a; intro a hF
    refine svg hF rfl ?_
    refine sv hF (v_lenS rfl sl23 rfl) rfl ?_; clear hF a; intro a hF
    refine svg hF rfl ?_
    refine sb hF (v_neq rfl rfl) rfl ?_ ?_
    · clear hF a; intro hc2 a hF
      try simp only [decide_eq_true_eq, decide_eq_false_iff_not, Bool.not_eq_true', Bool.not_eq_false', Bool.not_true, Bool.not_false] at hc2
      refine sv hF (v_pickF rfl rfl) rfl ?_; clear hF a; intro a hF
      refine sv hF (v_move rfl) rfl ?_; clear hF a; intro a hF
      refine svn hF rfl rfl rfl ?_; clear hF a; intro a hF
      refine svn hF rfl rfl rfl ?_; clear hF a; intro a hF
      refine svn hF rfl rfl rfl ?_; clear hF a; intro a hF
      refine svn hF rfl rfl rfl ?_; clear hF a; intro a hF
      refine svn hF rfl rfl rfl ?_; clear hF a; intro a hF
      refine sv hF (v_pickT rfl rfl) rfl ?_; clear hF a; intro a hF
      refine WL_nil (hK _ _ ?_)
      clear hK K
      replace hF := hF.sub _ (c_ 34 rfl (c_ 9 rfl (c_ 8 rfl (c_ 0 rfl (c_ 1 rfl (c_ 2 rfl (c_ 3 rfl (n_))))))))
      refine W_ifT hF rfl ?_
      refine W_sr rfl (fun K hK => ?_)
      refine sv hF (v_assign rfl) rfl ?_; clear hF a; intro a hF
      refine sv hF (v_assign rfl) rfl ?_; clear hF a; intro a hF
      refine WL_nil (hK _ _ ?_)
      clear hK K
      replace hF := hF.sub _ (c_ 9 rfl (c_ 8 rfl (c_ 0 rfl (c_ 1 rfl (c_ 2 rfl (c_ 3 rfl (n_)))))))
      refine W_ret ?_
      refine ⟨_, _, _, hF, rfl, rfl, ?_⟩
      have hno : solR hp mt v = (1, []) := solR_bad hp (fun h => by have h1 := h.1; unfold sqM at h1; rw [hmay, hw0, Bool.true_and, decide_eq_true_iff] at h1; omega)
      rw [hno]
      exact ⟨none, _, rfl, Gam.Own.nil _ _ _ _ _, hS⟩
    · clear hF a; intro hc2 a hF
      try simp only [decide_eq_true_eq, decide_eq_false_iff_not, Bool.not_eq_true', Bool.not_eq_false', Bool.not_true, Bool.not_false] at hc2
      refine sv hF (v_pickF rfl rfl) rfl ?_; clear hF a; intro a hF
      refine sv hF (v_move rfl) rfl ?_; clear hF a; intro a hF
      refine svg hF rfl ?_
      refine sv hF (v_move rfl) rfl ?_; clear hF a; intro a hF
      refine svg hF rfl ?_
      refine sv hF (v_lenS rfl sl23 rfl) rfl ?_; clear hF a; intro a hF
      refine svg hF rfl ?_
      refine sv hF (v_move rfl) rfl ?_; clear hF a; intro a hF
      refine svg hF rfl ?_
      refine sv hF (v_lenS rfl sl22 rfl) rfl ?_; clear hF a; intro a hF
      refine svg hF rfl ?_
      refine sv hF (v_neq rfl rfl) rfl ?_; clear hF a; intro a hF
      refine sv hF (v_pickF rfl rfl) rfl ?_; clear hF a; intro a hF
      refine WL_nil (hK _ _ ?_)
      clear hK K
      replace hF := hF.sub _ (c_ 34 rfl (c_ 9 rfl (c_ 8 rfl (c_ 0 rfl (c_ 1 rfl (c_ 2 rfl (c_ 3 rfl (n_))))))))
      refine W_if hF rfl (fun hc3 => ?_) (fun hc3 => ?_)
      · skip
        try simp only [decide_eq_true_eq, decide_eq_false_iff_not, Bool.not_eq_true', Bool.not_eq_false', Bool.not_true, Bool.not_false] at hc3
        refine W_sr rfl (fun K hK => ?_)
        refine sv hF (v_assign rfl) rfl ?_; clear hF a; intro a hF
        refine sv hF (v_assign rfl) rfl ?_; clear hF a; intro a hF
        refine WL_nil (hK _ _ ?_)
        clear hK K
        replace hF := hF.sub _ (c_ 9 rfl (c_ 8 rfl (c_ 0 rfl (c_ 1 rfl (c_ 2 rfl (c_ 3 rfl (n_)))))))
        refine W_ret ?_
        refine ⟨_, _, _, hF, rfl, rfl, ?_⟩
        have hno : solR hp mt v = (1, []) := solR_bad hp (fun h => by have := h.2.1; omega)
        rw [hno]
        exact ⟨none, _, rfl, Gam.Own.nil _ _ _ _ _, hS⟩
      · skip
        try simp only [decide_eq_true_eq, decide_eq_false_iff_not, Bool.not_eq_true', Bool.not_eq_false', Bool.not_true, Bool.not_false] at hc3
        refine W_skip ?_
        refine W_seq ?_
        have hsq : sqM (some (wb, p)) mt = true := by unfold sqM; rw [hmay, hw0]; simp only [Bool.true_and]; rw [decide_eq_true_iff]; omega
        have hvm : v.length = mt.length := by omega
        clear hk0 hrow0
        refine W_sr rfl (fun K hK => ?_)
        refine sv hF (v_assign rfl) rfl ?_; clear hF a; intro a hF
        refine WL_nil (hK _ _ ?_)
        clear hK K
        replace hF := hF.sub _ (c_ 10 rfl (c_ 9 rfl (c_ 8 rfl (c_ 0 rfl (c_ 1 rfl (c_ 2 rfl (c_ 3 rfl (n_))))))))
        refine W_block ?_
        refine W_loop (fun q a w1 => ∃ (i : Nat), Fr 67 [(0, .int .i64 (wb : Int)), (1, .int .u32 (p : Int)), (2, .slice (some ⟨g0, o0, none⟩) mt.length cmt), (3, .slice pv v.length cv), (10, .int .i64 (i : Int))] a ∧ (St FDx B w w1) ∧ (Mat FDx B M w1 (some ⟨g0, o0, none⟩) cmt mt) ∧ (Row FDx B M w1 (.slice pv v.length cv) (zints v)) ∧ (∀ x ∈ v.take i, inF (some (wb, p)) x = true) ∧ (i ≤ v.length) ∧ (q + i = v.length)) (v.length) ?_ ?_
        · skip
          exact ⟨0, hF.sub _ (c_ 0 rfl (c_ 1 rfl (c_ 2 rfl (c_ 3 rfl (c_ 10 rfl (n_)))))), hS, hAmt, hvr, (fun x hx => by simp at hx), by omega, by omega⟩
        · skip
          clear hF
          clear hS hAmt hvr
          rintro q a w1 ⟨i, hF, hS, hAmt, hvr, hz, hi, hq⟩
          refine W_seq ?_
          refine W_sr rfl (fun K hK => ?_)
          refine sv hF (v_move rfl) rfl ?_; clear hF a; intro a hF
          refine sv hF (v_move rfl) rfl ?_; clear hF a; intro a hF
          refine sv hF (v_lenS rfl sl23 rfl) rfl ?_; clear hF a; intro a hF
          refine sv hF (v_lss rfl rfl) rfl ?_; clear hF a; intro a hF
          refine WL_nil (hK _ _ ?_)
          clear hK K
          replace hF := hF.sub _ (c_ 38 rfl (c_ 0 rfl (c_ 1 rfl (c_ 2 rfl (c_ 3 rfl (c_ 10 rfl (n_)))))))
          refine W_if hF rfl (fun hc4 => ?_) (fun hc4 => ?_)
          · skip
            try simp only [decide_eq_true_eq, decide_eq_false_iff_not, Bool.not_eq_true', Bool.not_eq_false', Bool.not_true, Bool.not_false] at hc4
            have hlt : i < v.length := by omega
            obtain ⟨x, hvx⟩ : ∃ z, v[i]? = some z := ⟨_, List.getElem?_eq_getElem hlt⟩
            obtain ⟨gx, ox, hgx, hkx, -⟩ := hvr.kat (zints_at hvx)
            subst hgx
            refine W_skip ?_
            refine W_seq ?_
            refine W_block ?_
            refine W_sr rfl (fun K hK => ?_)
            refine sv hF (v_move rfl) rfl ?_; clear hF a; intro a hF
            refine sv hF (v_move rfl) rfl ?_; clear hF a; intro a hF
            refine sv hF (v_move rfl) rfl ?_; clear hF a; intro a hF
            refine sv hF (v_ixS sl23 rfl rfl (by omega) (by omega)) rfl ?_; clear hF a; intro a hF
            refine sv hF (v_load sc3 rfl (by rw [toNat_c]; exact hkx.c)) rfl ?_; clear hF a; intro a hF
            refine sc hF rfl rfl rfl en39 rfl (rIn_ok B wb p x _ hS.inv (by rcases hp.w with h | h <;> omega)) ?_; clear hF a; intro v w' a hv hF
            obtain ⟨rfl, hw⟩ := hv
            obtain rfl := hw.symm
            have hS' := St.refl hS.inv
            replace hAmt := hAmt.st hS'
            replace hvr := hvr.st hS'
            replace hS := hS.trans hS'
            clear hS'
            refine sv hF (v_not rfl) rfl ?_; clear hF a; intro a hF
            refine WL_nil (hK _ _ ?_)
            clear hK K
            replace hF := hF.sub _ (c_ 47 rfl (c_ 0 rfl (c_ 1 rfl (c_ 2 rfl (c_ 3 rfl (c_ 10 rfl (n_)))))))
            refine W_if hF rfl (fun hc5 => ?_) (fun hc5 => ?_)
            · skip
              try simp only [decide_eq_true_eq, decide_eq_false_iff_not, Bool.not_eq_true', Bool.not_eq_false', Bool.not_true, Bool.not_false] at hc5
              have hin : inF (some (wb, p)) x = false := by assumption
              refine W_sr rfl (fun K hK => ?_)
              refine sv hF (v_assign rfl) rfl ?_; clear hF a; intro a hF
              refine sv hF (v_assign rfl) rfl ?_; clear hF a; intro a hF
              refine WL_nil (hK _ _ ?_)
              clear hK K
              replace hF := hF.sub _ (c_ 9 rfl (c_ 8 rfl (c_ 0 rfl (c_ 1 rfl (c_ 2 rfl (c_ 3 rfl (c_ 10 rfl (n_))))))))
              refine W_ret ?_
              refine ⟨_, _, _, hF, rfl, rfl, ?_⟩
              have hno : solR hp mt v = (1, []) := solR_bad hp (fun h => by rw [h.2.2 x (List.mem_of_getElem? hvx)] at hin; cases hin)
              rw [hno]
              exact ⟨none, _, rfl, Gam.Own.nil _ _ _ _ _, hS⟩
            · skip
              try simp only [decide_eq_true_eq, decide_eq_false_iff_not, Bool.not_eq_true', Bool.not_eq_false', Bool.not_true, Bool.not_false] at hc5
              have hin : inF (some (wb, p)) x = true := by assumption
              refine W_skip ?_
              refine W_reg rfl (fun K hK => ?_)
              refine sv hF (v_move rfl) rfl ?_; clear hF a; intro a hF
              refine sv hF (v_addI rfl rfl (by omega)) rfl ?_; clear hF a; intro a hF
              refine sv hF (v_assign rfl) rfl ?_; clear hF a; intro a hF
              refine WL_nil (hK _ _ ?_)
              clear hK K
              replace hF := hF.sub _ (c_ 10 rfl (c_ 40 rfl (c_ 39 rfl (c_ 0 rfl (c_ 1 rfl (c_ 2 rfl (c_ 3 rfl (n_))))))))
              exact ⟨q - 1, by omega, i + 1, hF.sub _ (c_ 0 rfl (c_ 1 rfl (c_ 2 rfl (c_ 3 rfl (c_ 10 rfl (n_)))))), hS, hAmt, hvr, (fun x hx => by rw [take_snoc hvx, List.mem_append, List.mem_singleton] at hx; rcases hx with hx | rfl; exact hz _ hx; exact hin), by omega, by omega⟩
          · skip
            try simp only [decide_eq_true_eq, decide_eq_false_iff_not, Bool.not_eq_true', Bool.not_eq_false', Bool.not_true, Bool.not_false] at hc4
            have hie : i = v.length := by omega
            rw [hie, List.take_length] at hz
            have hok : sqM (some (wb, p)) mt = true ∧ v.length = mt.length ∧ (∀ x ∈ v, inF (some (wb, p)) x = true) := ⟨hsq, hvm, hz⟩
            obtain ⟨-, hn1, hn20, -⟩ := sqM_Mx hsq
            refine W_exit rfl ?_
            refine W_sr rfl (fun K hK => ?_)
            refine sv hF (v_move rfl) rfl ?_; clear hF a; intro a hF
            refine sv hF (v_move rfl) rfl ?_; clear hF a; intro a hF
            refine sv hF (v_move rfl) rfl ?_; clear hF a; intro a hF
            refine sc hF rfl rfl rfl en9 rfl (rInverse_ok B M wb p hp _ cmt mt _ hS.inv (Nat.le_trans hM hS.ext.size) hAmt hlmt hbmt) ?_; clear hF a; intro v w' a hv hF
            obtain ⟨su, cu, rfl, hX, hS'⟩ := hv
            replace hAmt := hAmt.st hS'
            replace hvr := hvr.st hS'
            replace hS := hS.trans hS'
            clear hS'
            refine sv hF (v_move rfl) rfl ?_; clear hF a; intro a hF
            refine sv hF (v_ext rfl rfl) rfl ?_; clear hF a; intro a hF
            refine sv hF (v_ext rfl rfl) rfl ?_; clear hF a; intro a hF
            refine sv hF (v_assign rfl) rfl ?_; clear hF a; intro a hF
            refine sv hF (v_assign rfl) rfl ?_; clear hF a; intro a hF
            refine WL_nil (hK _ _ ?_)
            clear hK K
            replace hF := hF.sub _ (c_ 12 rfl (c_ 11 rfl (c_ 54 rfl (c_ 53 rfl (c_ 48 rfl (c_ 52 rfl (c_ 51 rfl (c_ 50 rfl (c_ 49 rfl (c_ 0 rfl (c_ 1 rfl (c_ 2 rfl (c_ 3 rfl (c_ 10 rfl (n_)))))))))))))))
            refine W_seq ?_
            refine W_sr rfl (fun K hK => ?_)
            refine sv hF (v_move rfl) rfl ?_; clear hF a; intro a hF
            refine sv hF (v_neq rfl rfl) rfl ?_; clear hF a; intro a hF
            refine WL_nil (hK _ _ ?_)
            clear hK K
            refine W_if hF rfl (fun hc6 => ?_) (fun hc6 => ?_)
            · skip
              try simp only [decide_eq_true_eq, decide_eq_false_iff_not, Bool.not_eq_true', Bool.not_eq_false', Bool.not_true, Bool.not_false] at hc6
              refine W_sr rfl (fun K hK => ?_)
              refine sv hF (v_move rfl) rfl ?_; clear hF a; intro a hF
              refine sv hF (v_assign rfl) rfl ?_; clear hF a; intro a hF
              refine sv hF (v_assign rfl) rfl ?_; clear hF a; intro a hF
              refine WL_nil (hK _ _ ?_)
              clear hK K
              refine W_ret ?_
              refine ⟨_, _, _, hF, rfl, rfl, ?_⟩
              have hno := solR_none hp hok (by assumption)
              rw [hno]
              exact ⟨none, _, rfl, Gam.Own.nil _ _ _ _ _, hS⟩
            · skip
              try simp only [decide_eq_true_eq, decide_eq_false_iff_not, Bool.not_eq_true', Bool.not_eq_false', Bool.not_true, Bool.not_false] at hc6
              have hi0 : (invR hp mt).1 = 0 := Decidable.of_not_not (by assumption)
              have hso := solR_some hp hok hi0
              have hil := len1k (invR_lens hp mt)
              refine W_skip ?_
              refine W_sr rfl (fun K hK => ?_)
              refine sv hF (v_move rfl) rfl ?_; clear hF a; intro a hF
              refine sv hF (v_move rfl) rfl ?_; clear hF a; intro a hF
              refine sv hF (v_move rfl) rfl ?_; clear hF a; intro a hF
              refine sv hF (v_move rfl) rfl ?_; clear hF a; intro a hF
              refine sc hF rfl rfl rfl en40 rfl (rApply_ok B _ wb p hp su cu (invR hp mt).2 pv cv v _ hS.inv (Nat.le_refl _) hX hil.1 hil.2 (hvr.mono (Nat.le_trans hM hS.ext.size)) (by omega)) ?_; clear hF a; intro v w' a hv hF
              obtain ⟨ob, s, rfl, hO, hS'⟩ := hv
              replace hO := hO.le hS.ext.size
              replace hAmt := hAmt.st hS'
              replace hvr := hvr.st hS'
              replace hX := (hX.st hS').mono hS'.ext.size
              replace hS := hS.trans hS'
              clear hS'
              refine sv hF (v_move rfl) rfl ?_; clear hF a; intro a hF
              refine sv hF (v_ext rfl rfl) rfl ?_; clear hF a; intro a hF
              refine sv hF (v_ext rfl rfl) rfl ?_; clear hF a; intro a hF
              refine sv hF (v_assign rfl) rfl ?_; clear hF a; intro a hF
              refine sv hF (v_assign rfl) rfl ?_; clear hF a; intro a hF
              refine WL_nil (hK _ _ ?_)
              clear hK K
              replace hF := hF.sub _ (c_ 13 rfl (c_ 65 rfl (c_ 64 rfl (c_ 58 rfl (c_ 63 rfl (c_ 62 rfl (c_ 61 rfl (c_ 60 rfl (c_ 59 rfl (c_ 56 rfl (c_ 55 rfl (c_ 12 rfl (c_ 11 rfl (c_ 54 rfl (c_ 53 rfl (c_ 48 rfl (c_ 52 rfl (c_ 51 rfl (c_ 50 rfl (c_ 49 rfl (c_ 0 rfl (c_ 1 rfl (c_ 2 rfl (c_ 3 rfl (c_ 10 rfl (n_))))))))))))))))))))))))))
              refine W_sr rfl (fun K hK => ?_)
              refine sv hF (v_move rfl) rfl ?_; clear hF a; intro a hF
              refine sv hF (v_assign rfl) rfl ?_; clear hF a; intro a hF
              refine sv hF (v_assign rfl) rfl ?_; clear hF a; intro a hF
              refine WL_nil (hK _ _ ?_)
              clear hK K
              refine W_ret ?_
              refine ⟨_, _, _, hF, rfl, rfl, ?_⟩
              rw [hso]
              exact ⟨_, _, rfl, hO, hS⟩
  · rw [hc1] at hF
    refine sv hF (v_not rfl) rfl ?_; clear hF a; intro a hF
    refine sv hF (v_move rfl) rfl ?_; clear hF a; intro a hF
    refine svn hF rfl rfl rfl ?_; clear hF a; intro a hF
    refine svn hF rfl rfl rfl ?_; clear hF a; intro a hF
    refine svn hF rfl rfl rfl ?_; clear hF a; intro a hF
    refine svn hF rfl rfl rfl ?_; clear hF a; intro a hF
    refine svn hF rfl rfl rfl ?_; clear hF a; intro a hF
    refine svn hF rfl rfl rfl ?_; clear hF a; intro a hF
    refine svn hF rfl rfl rfl ?_; clear hF a; intro a hF
    refine sv hF (v_pickT rfl rfl) rfl ?_; clear hF a; intro a hF
    refine sv hF (v_move rfl) rfl ?_; clear hF a; intro a hF
    refine svn hF rfl rfl rfl ?_; clear hF a; intro a hF
    refine svn hF rfl rfl rfl ?_; clear hF a; intro a hF
    refine svn hF rfl rfl rfl ?_; clear hF a; intro a hF
    refine svn hF rfl rfl rfl ?_; clear hF a; intro a hF
    refine svn hF rfl rfl rfl ?_; clear hF a; intro a hF
    refine sv hF (v_pickT rfl rfl) rfl ?_; clear hF a; intro a hF
    refine WL_nil (hK _ _ ?_)
    clear hK K
    replace hF := hF.sub _ (c_ 34 rfl (c_ 9 rfl (c_ 8 rfl (c_ 0 rfl (c_ 1 rfl (c_ 2 rfl (c_ 3 rfl (n_))))))))
    refine W_ifT hF rfl ?_
    refine W_sr rfl (fun K hK => ?_)
    refine sv hF (v_assign rfl) rfl ?_; clear hF a; intro a hF
    refine sv hF (v_assign rfl) rfl ?_; clear hF a; intro a hF
    refine WL_nil (hK _ _ ?_)
    clear hK K
    replace hF := hF.sub _ (c_ 9 rfl (c_ 8 rfl (c_ 0 rfl (c_ 1 rfl (c_ 2 rfl (c_ 3 rfl (n_)))))))
    refine W_ret ?_
    refine ⟨_, _, _, hF, rfl, rfl, ?_⟩
    have hno : solR hp mt v = (1, []) := solR_bad hp (fun h => by have h1 := h.1; unfold sqM at h1; rw [show mayM (some (wb, p)) mt = false by simpa using hc1] at h1; simp at h1)
    rw [hno]
    exact ⟨none, _, rfl, Gam.Own.nil _ _ _ _ _, hS⟩

end Go.Proofs.YtcnlooajjnghaaaGreat

/- The walks of gambrelref06: rows of powers. -/
set_option linter.unusedVariables false
set_option linter.unusedSimpArgs false
namespace Go.Proofs.YtcnlooajjnghaaaGreat
open Go Go.Gam


namespace FxFRef06
theorem en9 : Ent Tryz.prog 9 := ent Tryz.func9 (by kernel_rfl) (by kernel_rfl)
theorem en19 : Ent Tryz.prog 19 := ent Tryz.func19 (by kernel_rfl) (by kernel_rfl)
theorem en44 : Ent Tryz.prog 44 := ent Tryz.func44 (by kernel_rfl) (by kernel_rfl)
theorem en47 : Ent Tryz.prog 47 := ent Tryz.func47 (by kernel_rfl) (by kernel_rfl)
theorem en48 : Ent Tryz.prog 48 := ent Tryz.func48 (by kernel_rfl) (by kernel_rfl)
theorem en50 : Ent Tryz.prog 50 := ent Tryz.func50 (by kernel_rfl) (by kernel_rfl)
theorem sl22 : Sl Tryz.prog 22 23 (.slice none 0 0) 24 := sl_of Tryz.underlying22 rfl (by kernel_rfl)
theorem sl23 : Sl Tryz.prog 23 3 (.int .i64 0) 8 := sl_of Tryz.underlying23 rfl (by kernel_rfl)
end FxFRef06
open FxFRef06

theorem pw_cell {wb p : Nat} (hp : Prm wb p) (i j : Nat) : gpow (some (wb, p)) (i : Int) (j : Int) = ((pwT (some (wb, p)) i j : Nat) : Int) := (pwT_nn (fun wb' p' e => by cases e; exact hp) _ _).symm
theorem exp_cell {wb p : Nat} (hp : Prm wb p) (i j : Nat) : gexp (some (wb, p)) ((i * j : Nat) : Int) = ((isT (some (wb, p)) i j : Nat) : Int) := by
  rw [gexp_nat hp, isT_pow hp, hp.fld.pow_mul, hp.pw_pow]
theorem opt_lens {c : Bool} {n m : Nat} {f : Tb} (h : c = true → n ≤ 20 ∧ m ≤ 20) : ((if c = true then some (tab n m f) else none).getD ([] : Mtx)).length ≤ 20 ∧ ∀ r ∈ (if c = true then some (tab n m f) else none).getD ([] : Mtx), r.length ≤ 20 := by
  by_cases e : c = true
  · rw [if_pos e]
    exact ⟨by rw [Option.getD_some, tab_length]; exact (h e).1, fun r hr => by
      rw [Option.getD_some] at hr
      obtain ⟨i, _, rfl⟩ := List.mem_map.1 hr
      rw [List.length_map, List.length_range]; exact (h e).2⟩
  · rw [if_neg e]; simp
theorem rawM_lens (o : Fq) (k m : Int) : ((rawM o k m).getD []).length ≤ 20 ∧ ∀ r ∈ (rawM o k m).getD [], r.length ≤ 20 := opt_lens fun h => by
  unfold rawB at h
  rw [Bool.and_eq_true, decide_eq_true_iff] at h
  omega
theorem isalM_lens (o : Fq) (k m : Int) : ((isalM o k m).getD []).length ≤ 20 ∧ ∀ r ∈ (isalM o k m).getD [], r.length ≤ 20 := opt_lens fun h => by
  have := fitB_iff.1 h
  omega
theorem sysM_lens {wb p : Nat} (hp : Prm wb p) (k m : Int) : ((sysM hp k m).getD []).length ≤ 20 ∧ ∀ r ∈ (sysM hp k m).getD [], r.length ≤ 20 := opt_lens fun h => by
  have := fitB_iff.1 h
  omega

set_option maxRecDepth 100000 in
set_option maxHeartbeats 1000000 in
theorem rRaw_ok (B wb p : Nat) (hp : Prm wb p) (k m : Int) (w : World) (hI : Inv FDx B w) : Ret Tryz.prog 19 [.int .i64 (wb : Int), .int .u32 (p : Int), .int .i64 k, .int .i64 m] w fun v w' => ∃ ob u, v = .tuple #[u, .bool (rawM (some (wb, p)) k m).isSome] ∧ MOwn FDx B w.heap.size 0 w'.heap.size w' 23 u ob ((rawM (some (wb, p)) k m).getD []) ∧ St FDx B w w' := by
  refine enter2 51 [(0, .int .i64 (wb : Int)), (1, .int .u32 (p : Int)), (2, .int .i64 k), (3, .int .i64 m)] 8 9 Tryz.func19 rfl rfl rfl rfl rfl ?_; intro a hF
  have hS := St.refl hI
  refine W_sr rfl (fun K hK => ?_)
  refine sv hF (v_assign rfl) rfl ?_; clear hF a; intro a hF
  refine sv hF (v_assign rfl) rfl ?_; clear hF a; intro a hF
  refine WL_nil (hK _ _ ?_)
  clear hK K
  refine W_seq ?_
  refine W_sr rfl (fun K hK => ?_)
  refine sv hF (v_move rfl) rfl ?_; clear hF a; intro a hF
  refine sb hF (v_lss rfl rfl) rfl ?_ ?_
  · clear hF a; intro hc1 a hF
    try simp only [decide_eq_true_eq, decide_eq_false_iff_not, Bool.not_eq_true', Bool.not_eq_false', Bool.not_true, Bool.not_false] at hc1
    refine sv hF (v_move rfl) rfl ?_; clear hF a; intro a hF
    refine svn hF rfl rfl rfl ?_; clear hF a; intro a hF
    refine svn hF rfl rfl rfl ?_; clear hF a; intro a hF
    refine sv hF (v_pickT rfl rfl) rfl ?_; clear hF a; intro a hF
    refine sv hF (v_move rfl) rfl ?_; clear hF a; intro a hF
    refine svn hF rfl rfl rfl ?_; clear hF a; intro a hF
    refine svn hF rfl rfl rfl ?_; clear hF a; intro a hF
    refine sv hF (v_pickT rfl rfl) rfl ?_; clear hF a; intro a hF
    refine sv hF (v_move rfl) rfl ?_; clear hF a; intro a hF
    refine svn hF rfl rfl rfl ?_; clear hF a; intro a hF
    refine svn hF rfl rfl rfl ?_; clear hF a; intro a hF
    refine sv hF (v_pickT rfl rfl) rfl ?_; clear hF a; intro a hF
    refine WL_nil (hK _ _ ?_)
    clear hK K
    replace hF := hF.sub _ (c_ 27 rfl (c_ 9 rfl (c_ 8 rfl (c_ 0 rfl (c_ 1 rfl (c_ 2 rfl (c_ 3 rfl (n_))))))))
    refine W_ifT hF rfl ?_
    refine W_sr rfl (fun K hK => ?_)
    refine sv hF (v_assign rfl) rfl ?_; clear hF a; intro a hF
    refine sv hF (v_assign rfl) rfl ?_; clear hF a; intro a hF
    refine WL_nil (hK _ _ ?_)
    clear hK K
    replace hF := hF.sub _ (c_ 9 rfl (c_ 8 rfl (c_ 0 rfl (c_ 1 rfl (c_ 2 rfl (c_ 3 rfl (n_)))))))
    refine W_ret ?_
    refine ⟨_, _, _, hF, rfl, rfl, ?_⟩
    rw [rawM_no (show rawB (some (wb, p)) k m = false by unfold rawB; rw [decide_eq_false (by omega)]; rfl)]
    exact ⟨none, _, rfl, MOwn.nil _ _ _ _ _ _ _ (Nat.zero_le _), hS⟩
  · clear hF a; intro hc1 a hF
    try simp only [decide_eq_true_eq, decide_eq_false_iff_not, Bool.not_eq_true', Bool.not_eq_false', Bool.not_true, Bool.not_false] at hc1
    refine sv hF (v_move rfl) rfl ?_; clear hF a; intro a hF
    refine svg hF rfl ?_
    refine sv hF (v_move rfl) rfl ?_; clear hF a; intro a hF
    refine svg hF rfl ?_
    refine sb hF (v_gtr rfl rfl) rfl ?_ ?_
    · clear hF a; intro hc2 a hF
      try simp only [decide_eq_true_eq, decide_eq_false_iff_not, Bool.not_eq_true', Bool.not_eq_false', Bool.not_true, Bool.not_false] at hc2
      refine sv hF (v_pickF rfl rfl) rfl ?_; clear hF a; intro a hF
      refine sv hF (v_move rfl) rfl ?_; clear hF a; intro a hF
      refine svn hF rfl rfl rfl ?_; clear hF a; intro a hF
      refine svn hF rfl rfl rfl ?_; clear hF a; intro a hF
      refine sv hF (v_pickT rfl rfl) rfl ?_; clear hF a; intro a hF
      refine sv hF (v_move rfl) rfl ?_; clear hF a; intro a hF
      refine svn hF rfl rfl rfl ?_; clear hF a; intro a hF
      refine svn hF rfl rfl rfl ?_; clear hF a; intro a hF
      refine sv hF (v_pickT rfl rfl) rfl ?_; clear hF a; intro a hF
      refine WL_nil (hK _ _ ?_)
      clear hK K
      replace hF := hF.sub _ (c_ 27 rfl (c_ 9 rfl (c_ 8 rfl (c_ 0 rfl (c_ 1 rfl (c_ 2 rfl (c_ 3 rfl (n_))))))))
      refine W_ifT hF rfl ?_
      refine W_sr rfl (fun K hK => ?_)
      refine sv hF (v_assign rfl) rfl ?_; clear hF a; intro a hF
      refine sv hF (v_assign rfl) rfl ?_; clear hF a; intro a hF
      refine WL_nil (hK _ _ ?_)
      clear hK K
      replace hF := hF.sub _ (c_ 9 rfl (c_ 8 rfl (c_ 0 rfl (c_ 1 rfl (c_ 2 rfl (c_ 3 rfl (n_)))))))
      refine W_ret ?_
      refine ⟨_, _, _, hF, rfl, rfl, ?_⟩
      rw [rawM_no (show rawB (some (wb, p)) k m = false by unfold rawB; rw [decide_eq_false (by omega)]; rfl)]
      exact ⟨none, _, rfl, MOwn.nil _ _ _ _ _ _ _ (Nat.zero_le _), hS⟩
    · clear hF a; intro hc2 a hF
      try simp only [decide_eq_true_eq, decide_eq_false_iff_not, Bool.not_eq_true', Bool.not_eq_false', Bool.not_true, Bool.not_false] at hc2
      refine sv hF (v_pickF rfl rfl) rfl ?_; clear hF a; intro a hF
      refine sv hF (v_move rfl) rfl ?_; clear hF a; intro a hF
      refine svg hF rfl ?_
      refine sv hF (v_move rfl) rfl ?_; clear hF a; intro a hF
      refine svg hF rfl ?_
      refine sb hF (v_lss rfl rfl) rfl ?_ ?_
      · clear hF a; intro hc3 a hF
        try simp only [decide_eq_true_eq, decide_eq_false_iff_not, Bool.not_eq_true', Bool.not_eq_false', Bool.not_true, Bool.not_false] at hc3
        refine sv hF (v_pickF rfl rfl) rfl ?_; clear hF a; intro a hF
        refine sv hF (v_move rfl) rfl ?_; clear hF a; intro a hF
        refine svn hF rfl rfl rfl ?_; clear hF a; intro a hF
        refine svn hF rfl rfl rfl ?_; clear hF a; intro a hF
        refine sv hF (v_pickT rfl rfl) rfl ?_; clear hF a; intro a hF
        refine WL_nil (hK _ _ ?_)
        clear hK K
        replace hF := hF.sub _ (c_ 27 rfl (c_ 9 rfl (c_ 8 rfl (c_ 0 rfl (c_ 1 rfl (c_ 2 rfl (c_ 3 rfl (n_))))))))
        refine W_ifT hF rfl ?_
        refine W_sr rfl (fun K hK => ?_)
        refine sv hF (v_assign rfl) rfl ?_; clear hF a; intro a hF
        refine sv hF (v_assign rfl) rfl ?_; clear hF a; intro a hF
        refine WL_nil (hK _ _ ?_)
        clear hK K
        replace hF := hF.sub _ (c_ 9 rfl (c_ 8 rfl (c_ 0 rfl (c_ 1 rfl (c_ 2 rfl (c_ 3 rfl (n_)))))))
        refine W_ret ?_
        refine ⟨_, _, _, hF, rfl, rfl, ?_⟩
        rw [rawM_no (show rawB (some (wb, p)) k m = false by unfold rawB; rw [decide_eq_false (by omega)]; rfl)]
        exact ⟨none, _, rfl, MOwn.nil _ _ _ _ _ _ _ (Nat.zero_le _), hS⟩
      · clear hF a; intro hc3 a hF
        try simp only [decide_eq_true_eq, decide_eq_false_iff_not, Bool.not_eq_true', Bool.not_eq_false', Bool.not_true, Bool.not_false] at hc3
        refine sv hF (v_pickF rfl rfl) rfl ?_; clear hF a; intro a hF
        refine sv hF (v_move rfl) rfl ?_; clear hF a; intro a hF
        refine svg hF rfl ?_
        refine sv hF (v_move rfl) rfl ?_; clear hF a; intro a hF
        refine svg hF rfl ?_
        refine sv hF (v_gtr rfl rfl) rfl ?_; clear hF a; intro a hF
        refine sv hF (v_pickF rfl rfl) rfl ?_; clear hF a; intro a hF
        refine WL_nil (hK _ _ ?_)
        clear hK K
        replace hF := hF.sub _ (c_ 27 rfl (c_ 9 rfl (c_ 8 rfl (c_ 0 rfl (c_ 1 rfl (c_ 2 rfl (c_ 3 rfl (n_))))))))
        refine W_if hF rfl (fun hc4 => ?_) (fun hc4 => ?_)
        · skip
          try simp only [decide_eq_true_eq, decide_eq_false_iff_not, Bool.not_eq_true', Bool.not_eq_false', Bool.not_true, Bool.not_false] at hc4
          refine W_sr rfl (fun K hK => ?_)
          refine sv hF (v_assign rfl) rfl ?_; clear hF a; intro a hF
          refine sv hF (v_assign rfl) rfl ?_; clear hF a; intro a hF
          refine WL_nil (hK _ _ ?_)
          clear hK K
          replace hF := hF.sub _ (c_ 9 rfl (c_ 8 rfl (c_ 0 rfl (c_ 1 rfl (c_ 2 rfl (c_ 3 rfl (n_)))))))
          refine W_ret ?_
          refine ⟨_, _, _, hF, rfl, rfl, ?_⟩
          rw [rawM_no (show rawB (some (wb, p)) k m = false by unfold rawB; rw [decide_eq_false (by omega)]; rfl)]
          exact ⟨none, _, rfl, MOwn.nil _ _ _ _ _ _ _ (Nat.zero_le _), hS⟩
        · skip
          try simp only [decide_eq_true_eq, decide_eq_false_iff_not, Bool.not_eq_true', Bool.not_eq_false', Bool.not_true, Bool.not_false] at hc4
          have hb : rawB (some (wb, p)) k m = true := by unfold rawB; rw [decide_eq_true (by omega)]; rfl
          obtain ⟨kn, rfl⟩ : ∃ n : Nat, k = (n : Int) := ⟨k.toNat, by omega⟩
          obtain ⟨mn, rfl⟩ : ∃ n : Nat, m = (n : Int) := ⟨m.toNat, by omega⟩
          refine W_skip ?_
          refine W_sr rfl (fun K hK => ?_)
          refine sv hF (v_assign rfl) rfl ?_; clear hF a; intro a hF
          refine WL_nil (hK _ _ ?_)
          clear hK K
          replace hF := hF.sub _ (c_ 10 rfl (c_ 9 rfl (c_ 8 rfl (c_ 0 rfl (c_ 1 rfl (c_ 2 rfl (c_ 3 rfl (n_))))))))
          refine W_seq ?_
          refine W_sr rfl (fun K hK => ?_)
          refine sv hF (v_assign rfl) rfl ?_; clear hF a; intro a hF
          refine WL_nil (hK _ _ ?_)
          clear hK K
          refine W_block ?_
          refine W_loop (fun q a w1 => ∃ (i : Nat) (v10 : Value) (b10 : Option Nat), Fr 51 [(0, .int .i64 (wb : Int)), (1, .int .u32 (p : Int)), (2, .int .i64 (kn : Int)), (3, .int .i64 (mn : Int)), (10, v10), (11, .int .i64 (i : Int))] a ∧ (St FDx B w w1) ∧ (MOwn FDx B w.heap.size 0 w1.heap.size w1 23 v10 b10 ((List.range i).map (trow mn (pwT (some (wb, p)))))) ∧ (i ≤ kn) ∧ (q + i = kn)) (kn) ?_ ?_
          · skip
            exact ⟨0, _, none, hF.sub _ (c_ 0 rfl (c_ 1 rfl (c_ 2 rfl (c_ 3 rfl (c_ 10 rfl (c_ 11 rfl (n_))))))), hS, MOwn.nil _ _ _ _ _ _ _ (Nat.zero_le _), by omega, by omega⟩
          · skip
            clear hF
            clear hS
            rintro q a w1 ⟨i, v10, b10, hF, hS, hMO, hi, hq⟩
            refine W_seq ?_
            obtain ⟨KM, hKe⟩ : ∃ KM, KM = w1.heap.size := ⟨_, rfl⟩
            rw [← hKe] at hMO
            have hKs : KM ≤ w1.heap.size := by omega
            have hNK : w.heap.size ≤ KM := by have := hS.ext.size; omega
            clear hKe
            refine W_sr rfl (fun K hK => ?_)
            refine sv hF (v_move rfl) rfl ?_; clear hF a; intro a hF
            refine sv hF (v_move rfl) rfl ?_; clear hF a; intro a hF
            refine sv hF (v_lss rfl rfl) rfl ?_; clear hF a; intro a hF
            refine WL_nil (hK _ _ ?_)
            clear hK K
            replace hF := hF.sub _ (c_ 30 rfl (c_ 0 rfl (c_ 1 rfl (c_ 2 rfl (c_ 3 rfl (c_ 10 rfl (c_ 11 rfl (n_))))))))
            refine W_if hF rfl (fun hc5 => ?_) (fun hc5 => ?_)
            · skip
              try simp only [decide_eq_true_eq, decide_eq_false_iff_not, Bool.not_eq_true', Bool.not_eq_false', Bool.not_true, Bool.not_false] at hc5
              have hlt : i < kn := by omega
              refine W_skip ?_
              refine W_seq ?_
              refine W_block ?_
              refine W_sr rfl (fun K hK => ?_)
              refine sv hF (v_assign rfl) rfl ?_; clear hF a; intro a hF
              refine WL_nil (hK _ _ ?_)
              clear hK K
              replace hF := hF.sub _ (c_ 12 rfl (c_ 0 rfl (c_ 1 rfl (c_ 2 rfl (c_ 3 rfl (c_ 10 rfl (c_ 11 rfl (n_))))))))
              refine W_seq ?_
              refine W_sr rfl (fun K hK => ?_)
              refine sv hF (v_assign rfl) rfl ?_; clear hF a; intro a hF
              refine WL_nil (hK _ _ ?_)
              clear hK K
              refine W_block ?_
              refine W_loop (fun q2 a w2 => ∃ (j : Nat) (v12 : Value) (b12 : Option Nat), Fr 51 [(0, .int .i64 (wb : Int)), (1, .int .u32 (p : Int)), (2, .int .i64 (kn : Int)), (3, .int .i64 (mn : Int)), (10, v10), (11, .int .i64 (i : Int)), (12, v12), (13, .int .i64 (j : Int))] a ∧ (St FDx B w w2) ∧ (MOwn FDx B w.heap.size 0 KM w2 23 v10 b10 ((List.range i).map (trow mn (pwT (some (wb, p)))))) ∧ (KM ≤ w2.heap.size) ∧ (Gam.Own FDx B KM w2 FDx.E v12 b12 (zints ((List.range j).map fun j => (((pwT (some (wb, p))) i j : Nat) : Int)))) ∧ (j ≤ mn) ∧ (q2 + j = mn)) (mn) ?_ ?_
              · skip
                exact ⟨0, _, none, hF.sub _ (c_ 0 rfl (c_ 1 rfl (c_ 2 rfl (c_ 3 rfl (c_ 10 rfl (c_ 11 rfl (c_ 12 rfl (c_ 13 rfl (n_))))))))), hS, hMO, hKs, Gam.Own.nil _ _ _ _ _, by omega, by omega⟩
              · skip
                clear hF
                clear hS hMO hKs
                rintro q2 a w2 ⟨j, v12, b12, hF, hS, hMO, hKs, hO, hj, hq2⟩
                refine W_seq ?_
                refine W_sr rfl (fun K hK => ?_)
                refine sv hF (v_move rfl) rfl ?_; clear hF a; intro a hF
                refine sv hF (v_move rfl) rfl ?_; clear hF a; intro a hF
                refine sv hF (v_lss rfl rfl) rfl ?_; clear hF a; intro a hF
                refine WL_nil (hK _ _ ?_)
                clear hK K
                replace hF := hF.sub _ (c_ 35 rfl (c_ 0 rfl (c_ 1 rfl (c_ 2 rfl (c_ 3 rfl (c_ 10 rfl (c_ 11 rfl (c_ 12 rfl (c_ 13 rfl (n_))))))))))
                refine W_if hF rfl (fun hc6 => ?_) (fun hc6 => ?_)
                · skip
                  try simp only [decide_eq_true_eq, decide_eq_false_iff_not, Bool.not_eq_true', Bool.not_eq_false', Bool.not_true, Bool.not_false] at hc6
                  have hlt2 : j < mn := by omega
                  refine W_skip ?_
                  refine W_seq ?_
                  refine W_block ?_
                  refine W_reg rfl (fun K hK => ?_)
                  refine sv hF (v_move rfl) rfl ?_; clear hF a; intro a hF
                  refine sv hF (v_move rfl) rfl ?_; clear hF a; intro a hF
                  refine sv hF (v_move rfl) rfl ?_; clear hF a; intro a hF
                  refine sv hF (v_move rfl) rfl ?_; clear hF a; intro a hF
                  refine sv hF (v_move rfl) rfl ?_; clear hF a; intro a hF
                  refine sc hF rfl rfl rfl en44 rfl (rPow_gf B wb p (i : Int) (j : Int) _ hS.inv hp (by omega)) ?_; clear hF a; intro v w' a hv hF
                  obtain ⟨rfl, hS'⟩ := hv
                  replace hMO := hMO.st (by decide) hS'
                  replace hKs := Nat.le_trans hKs hS'.ext.size
                  replace hO := hO.st (by decide) hS'
                  replace hS := hS.trans hS'
                  clear hS'
                  rw [pw_cell hp] at hF
                  refine s_bs (D := FDx) (B := B) hF sl23 rfl rfl (by decide) (by simp [Value.cells]) (by decide) hS.inv rfl ?_; clear hF a; intro w' a hm hI' hL hF
                  replace hMO := hMO.mb0 hm
                  replace hKs := Nat.le_trans hKs hm.size
                  replace hO := hO.mb hm (fun _ _ => by simp)
                  replace hS := hS.mb0 hm
                  clear hm hI'
                  refine s_app (D := FDx) (B := B) hF rfl sl23 rfl rfl hO (hL.row (by decide)) (by simp [Value.oneCell']) (by simp; omega) (by simp [maxLen]; omega) (hKs) (by decide) hS.inv rfl ?_; clear hF a; intro v' b' w' a ho' hm hI' hb' hF
                  replace hMO := hMO.mbo hm hO (by decide) (Nat.le_refl _) (Nat.zero_le _)
                  replace hKs := Nat.le_trans hKs hm.size
                  replace hS := hS.mb hm (fun k h => Nat.le_trans (hNK) (hO.lt k h).1)
                  replace hO := ho'
                  clear hm hI' ho'
                  refine sv hF (v_assign rfl) rfl ?_; clear hF a; intro a hF
                  refine WL_nil (hK _ _ ?_)
                  clear hK K
                  replace hF := hF.sub _ (c_ 12 rfl (c_ 0 rfl (c_ 1 rfl (c_ 2 rfl (c_ 3 rfl (c_ 10 rfl (c_ 11 rfl (c_ 13 rfl (n_)))))))))
                  refine W_reg rfl (fun K hK => ?_)
                  refine sv hF (v_move rfl) rfl ?_; clear hF a; intro a hF
                  refine sv hF (v_addI rfl rfl (by omega)) rfl ?_; clear hF a; intro a hF
                  refine sv hF (v_assign rfl) rfl ?_; clear hF a; intro a hF
                  refine WL_nil (hK _ _ ?_)
                  clear hK K
                  exact ⟨q2 - 1, by omega, j + 1, _, _, hF.sub _ (c_ 0 rfl (c_ 1 rfl (c_ 2 rfl (c_ 3 rfl (c_ 10 rfl (c_ 11 rfl (c_ 12 rfl (c_ 13 rfl (n_))))))))), hS, hMO, hKs, hO.cast (by rw [List.range_succ, List.map_append]; simp [zints]), by omega, by omega⟩
                · skip
                  try simp only [decide_eq_true_eq, decide_eq_false_iff_not, Bool.not_eq_true', Bool.not_eq_false', Bool.not_true, Bool.not_false] at hc6
                  have hjm : j = mn := by omega
                  rw [hjm] at hO
                  refine W_exit rfl ?_
                  refine W_reg rfl (fun K hK => ?_)
                  refine sv hF (v_move rfl) rfl ?_; clear hF a; intro a hF
                  refine sv hF (v_move rfl) rfl ?_; clear hF a; intro a hF
                  obtain ⟨a_, c_r, rfl⟩ := hO.shape
                  refine s_bs (D := FDx) (B := B) hF sl22 rfl rfl (by decide) (by simp [Value.cells]) (by decide) hS.inv rfl ?_; clear hF a; intro w' a hm hI' hL hF
                  replace hMO := hMO.mb0 hm
                  replace hKs := Nat.le_trans hKs hm.size
                  replace hO := hO.mb hm (fun _ _ => by simp)
                  replace hS := hS.mb0 hm
                  clear hm hI'
                  replace hMO := hMO.up hKs
                  clear hKs
                  refine s_appM (D := FDx) (B := B) hF rfl sl22 rfl rfl hMO hL (.of (r := trow mn (pwT (some (wb, p))) i) hO (Nat.zero_le _)) rfl rfl (by simp; omega) (hS.ext.size) (by decide) (by decide) hS.inv rfl ?_; clear hF a; intro v' b' w' a ho' hm hI' hF
                  replace hS := hS.mb hm (fun k h => (hMO.lt k h).1)
                  have hKm := hm.size
                  replace hMO := ho'
                  clear hm hI' ho' hL
                  refine sv hF (v_assign rfl) rfl ?_; clear hF a; intro a hF
                  refine WL_nil (hK _ _ ?_)
                  clear hK K
                  replace hF := hF.sub _ (c_ 10 rfl (c_ 49 rfl (c_ 48 rfl (c_ 47 rfl (c_ 46 rfl (c_ 0 rfl (c_ 1 rfl (c_ 2 rfl (c_ 3 rfl (c_ 11 rfl (c_ 12 rfl (c_ 13 rfl (n_)))))))))))))
                  refine W_reg rfl (fun K hK => ?_)
                  refine sv hF (v_move rfl) rfl ?_; clear hF a; intro a hF
                  refine sv hF (v_addI rfl rfl (by omega)) rfl ?_; clear hF a; intro a hF
                  refine sv hF (v_assign rfl) rfl ?_; clear hF a; intro a hF
                  refine WL_nil (hK _ _ ?_)
                  clear hK K
                  exact ⟨q - 1, by omega, i + 1, _, _, hF.sub _ (c_ 0 rfl (c_ 1 rfl (c_ 2 rfl (c_ 3 rfl (c_ 10 rfl (c_ 11 rfl (n_))))))), hS, (hMO.up hKm).cast (by rw [List.range_succ, List.map_append]; rfl), by omega, by omega⟩
            · skip
              try simp only [decide_eq_true_eq, decide_eq_false_iff_not, Bool.not_eq_true', Bool.not_eq_false', Bool.not_true, Bool.not_false] at hc5
              refine W_exit rfl ?_
              refine W_sr rfl (fun K hK => ?_)
              refine sv hF (v_move rfl) rfl ?_; clear hF a; intro a hF
              refine sv hF (v_assign rfl) rfl ?_; clear hF a; intro a hF
              refine sv hF (v_assign rfl) rfl ?_; clear hF a; intro a hF
              refine WL_nil (hK _ _ ?_)
              clear hK K
              replace hF := hF.sub _ (c_ 9 rfl (c_ 8 rfl (c_ 50 rfl (c_ 0 rfl (c_ 1 rfl (c_ 2 rfl (c_ 3 rfl (c_ 10 rfl (c_ 11 rfl (n_))))))))))
              refine W_ret ?_
              refine ⟨_, _, _, hF, rfl, rfl, ?_⟩
              obtain rfl : i = kn := by omega
              rw [show rawM (some (wb, p)) (i : Int) (mn : Int) = some (tab i mn (pwT (some (wb, p)))) by unfold rawM; rw [if_pos hb]; rfl]
              exact ⟨_, _, rfl, (hMO.up hKs).cast rfl, hS⟩

set_option maxRecDepth 100000 in
set_option maxHeartbeats 1000000 in
theorem rFits_ok (wb p : Nat) (k m : Int) (w : World) : Ret Tryz.prog 47 [.int .i64 k, .int .i64 m] w fun v w' => v = .bool (fitB (some (wb, p)) k m) ∧ w' = w := by
  refine enter 25 [(0, .int .i64 k), (1, .int .i64 m)] 4 Tryz.func47 rfl rfl rfl rfl rfl ?_; intro a hF
  refine W_sr rfl (fun K hK => ?_)
  refine sv hF (v_assign rfl) rfl ?_; clear hF a; intro a hF
  refine WL_nil (hK _ _ ?_)
  clear hK K
  refine W_sr rfl (fun K hK => ?_)
  refine sv hF (v_move rfl) rfl ?_; clear hF a; intro a hF
  refine sb hF (v_geq rfl rfl) rfl ?_ ?_
  · clear hF a; intro hc1 a hF
    try simp only [decide_eq_true_eq, decide_eq_false_iff_not, Bool.not_eq_true', Bool.not_eq_false', Bool.not_true, Bool.not_false] at hc1
    refine sv hF (v_move rfl) rfl ?_; clear hF a; intro a hF
    refine svg hF rfl ?_
    refine sv hF (v_move rfl) rfl ?_; clear hF a; intro a hF
    refine svg hF rfl ?_
    refine sb hF (v_leq rfl rfl) rfl ?_ ?_
    · clear hF a; intro hc2 a hF
      try simp only [decide_eq_true_eq, decide_eq_false_iff_not, Bool.not_eq_true', Bool.not_eq_false', Bool.not_true, Bool.not_false] at hc2
      refine sv hF (v_pickT rfl rfl) rfl ?_; clear hF a; intro a hF
      refine sv hF (v_move rfl) rfl ?_; clear hF a; intro a hF
      refine svg hF rfl ?_
      refine sv hF (v_move rfl) rfl ?_; clear hF a; intro a hF
      refine svg hF rfl ?_
      refine sb hF (v_geq rfl rfl) rfl ?_ ?_
      · clear hF a; intro hc3 a hF
        try simp only [decide_eq_true_eq, decide_eq_false_iff_not, Bool.not_eq_true', Bool.not_eq_false', Bool.not_true, Bool.not_false] at hc3
        refine sv hF (v_pickT rfl rfl) rfl ?_; clear hF a; intro a hF
        refine sv hF (v_move rfl) rfl ?_; clear hF a; intro a hF
        refine svg hF rfl ?_
        refine sv hF (v_move rfl) rfl ?_; clear hF a; intro a hF
        refine svg hF rfl ?_
        refine sb hF (v_leq rfl rfl) rfl ?_ ?_
        · clear hF a; intro hc4 a hF
          try simp only [decide_eq_true_eq, decide_eq_false_iff_not, Bool.not_eq_true', Bool.not_eq_false', Bool.not_true, Bool.not_false] at hc4
          refine sv hF (v_pickT rfl rfl) rfl ?_; clear hF a; intro a hF
          refine sv hF (v_move rfl) rfl ?_; clear hF a; intro a hF
          refine svg hF rfl ?_
          refine sv hF (v_move rfl) rfl ?_; clear hF a; intro a hF
          refine svg hF rfl ?_
          refine sv hF (v_move rfl) rfl ?_; clear hF a; intro a hF
          refine svg hF rfl ?_
          refine sv hF (v_addI rfl rfl (by omega)) rfl ?_; clear hF a; intro a hF
          refine svg hF rfl ?_
          refine sv hF (v_leq rfl rfl) rfl ?_; clear hF a; intro a hF
          refine sv hF (v_pickT rfl rfl) rfl ?_; clear hF a; intro a hF
          refine sv hF (v_assign rfl) rfl ?_; clear hF a; intro a hF
          refine WL_nil (hK _ _ ?_)
          clear hK K
          replace hF := hF.sub _ (c_ 4 rfl (n_))
          refine W_ret ?_
          refine ⟨_, _, hF, rfl, ?_⟩
          refine ⟨congrArg Value.bool ?_, rfl⟩
          unfold fitB
          simp only [Option.isSome_some, Bool.true_and]
          first | (symm; rw [decide_eq_false_iff_not]; omega) | (rw [decide_eq_decide]; omega)
        · clear hF a; intro hc4 a hF
          try simp only [decide_eq_true_eq, decide_eq_false_iff_not, Bool.not_eq_true', Bool.not_eq_false', Bool.not_true, Bool.not_false] at hc4
          refine sv hF (v_pickT rfl rfl) rfl ?_; clear hF a; intro a hF
          refine sv hF (v_move rfl) rfl ?_; clear hF a; intro a hF
          refine svn hF rfl rfl rfl ?_; clear hF a; intro a hF
          refine svn hF rfl rfl rfl ?_; clear hF a; intro a hF
          refine svn hF rfl rfl rfl ?_; clear hF a; intro a hF
          refine svn hF rfl rfl rfl ?_; clear hF a; intro a hF
          refine sv hF (v_pickF rfl rfl) rfl ?_; clear hF a; intro a hF
          refine sv hF (v_assign rfl) rfl ?_; clear hF a; intro a hF
          refine WL_nil (hK _ _ ?_)
          clear hK K
          replace hF := hF.sub _ (c_ 4 rfl (n_))
          refine W_ret ?_
          refine ⟨_, _, hF, rfl, ?_⟩
          refine ⟨congrArg Value.bool ?_, rfl⟩
          unfold fitB
          simp only [Option.isSome_some, Bool.true_and]
          first | (symm; rw [decide_eq_false_iff_not]; omega) | (rw [decide_eq_decide]; omega)
      · clear hF a; intro hc3 a hF
        try simp only [decide_eq_true_eq, decide_eq_false_iff_not, Bool.not_eq_true', Bool.not_eq_false', Bool.not_true, Bool.not_false] at hc3
        refine sv hF (v_pickT rfl rfl) rfl ?_; clear hF a; intro a hF
        refine sv hF (v_move rfl) rfl ?_; clear hF a; intro a hF
        refine svn hF rfl rfl rfl ?_; clear hF a; intro a hF
        refine svn hF rfl rfl rfl ?_; clear hF a; intro a hF
        refine sv hF (v_pickF rfl rfl) rfl ?_; clear hF a; intro a hF
        refine sv hF (v_move rfl) rfl ?_; clear hF a; intro a hF
        refine svn hF rfl rfl rfl ?_; clear hF a; intro a hF
        refine svn hF rfl rfl rfl ?_; clear hF a; intro a hF
        refine svn hF rfl rfl rfl ?_; clear hF a; intro a hF
        refine svn hF rfl rfl rfl ?_; clear hF a; intro a hF
        refine sv hF (v_pickF rfl rfl) rfl ?_; clear hF a; intro a hF
        refine sv hF (v_assign rfl) rfl ?_; clear hF a; intro a hF
        refine WL_nil (hK _ _ ?_)
        clear hK K
        replace hF := hF.sub _ (c_ 4 rfl (n_))
        refine W_ret ?_
        refine ⟨_, _, hF, rfl, ?_⟩
        refine ⟨congrArg Value.bool ?_, rfl⟩
        unfold fitB
        simp only [Option.isSome_some, Bool.true_and]
        first | (symm; rw [decide_eq_false_iff_not]; omega) | (rw [decide_eq_decide]; omega)
    · clear hF a; intro hc2 a hF
      try simp only [decide_eq_true_eq, decide_eq_false_iff_not, Bool.not_eq_true', Bool.not_eq_false', Bool.not_true, Bool.not_false] at hc2
      refine sv hF (v_pickT rfl rfl) rfl ?_; clear hF a; intro a hF
      refine sv hF (v_move rfl) rfl ?_; clear hF a; intro a hF
      refine svn hF rfl rfl rfl ?_; clear hF a; intro a hF
      refine svn hF rfl rfl rfl ?_; clear hF a; intro a hF
      refine sv hF (v_pickF rfl rfl) rfl ?_; clear hF a; intro a hF
      refine sv hF (v_move rfl) rfl ?_; clear hF a; intro a hF
      refine svn hF rfl rfl rfl ?_; clear hF a; intro a hF
      refine svn hF rfl rfl rfl ?_; clear hF a; intro a hF
      refine sv hF (v_pickF rfl rfl) rfl ?_; clear hF a; intro a hF
      refine sv hF (v_move rfl) rfl ?_; clear hF a; intro a hF
      refine svn hF rfl rfl rfl ?_; clear hF a; intro a hF
      refine svn hF rfl rfl rfl ?_; clear hF a; intro a hF
      refine svn hF rfl rfl rfl ?_; clear hF a; intro a hF
      refine svn hF rfl rfl rfl ?_; clear hF a; intro a hF
      refine sv hF (v_pickF rfl rfl) rfl ?_; clear hF a; intro a hF
      refine sv hF (v_assign rfl) rfl ?_; clear hF a; intro a hF
      refine WL_nil (hK _ _ ?_)
      clear hK K
      replace hF := hF.sub _ (c_ 4 rfl (n_))
      refine W_ret ?_
      refine ⟨_, _, hF, rfl, ?_⟩
      refine ⟨congrArg Value.bool ?_, rfl⟩
      unfold fitB
      simp only [Option.isSome_some, Bool.true_and]
      first | (symm; rw [decide_eq_false_iff_not]; omega) | (rw [decide_eq_decide]; omega)
  · clear hF a; intro hc1 a hF
    try simp only [decide_eq_true_eq, decide_eq_false_iff_not, Bool.not_eq_true', Bool.not_eq_false', Bool.not_true, Bool.not_false] at hc1
    refine sv hF (v_move rfl) rfl ?_; clear hF a; intro a hF
    refine svn hF rfl rfl rfl ?_; clear hF a; intro a hF
    refine svn hF rfl rfl rfl ?_; clear hF a; intro a hF
    refine sv hF (v_pickF rfl rfl) rfl ?_; clear hF a; intro a hF
    refine sv hF (v_move rfl) rfl ?_; clear hF a; intro a hF
    refine svn hF rfl rfl rfl ?_; clear hF a; intro a hF
    refine svn hF rfl rfl rfl ?_; clear hF a; intro a hF
    refine sv hF (v_pickF rfl rfl) rfl ?_; clear hF a; intro a hF
    refine sv hF (v_move rfl) rfl ?_; clear hF a; intro a hF
    refine svn hF rfl rfl rfl ?_; clear hF a; intro a hF
    refine svn hF rfl rfl rfl ?_; clear hF a; intro a hF
    refine sv hF (v_pickF rfl rfl) rfl ?_; clear hF a; intro a hF
    refine sv hF (v_move rfl) rfl ?_; clear hF a; intro a hF
    refine svn hF rfl rfl rfl ?_; clear hF a; intro a hF
    refine svn hF rfl rfl rfl ?_; clear hF a; intro a hF
    refine svn hF rfl rfl rfl ?_; clear hF a; intro a hF
    refine svn hF rfl rfl rfl ?_; clear hF a; intro a hF
    refine sv hF (v_pickF rfl rfl) rfl ?_; clear hF a; intro a hF
    refine sv hF (v_assign rfl) rfl ?_; clear hF a; intro a hF
    refine WL_nil (hK _ _ ?_)
    clear hK K
    replace hF := hF.sub _ (c_ 4 rfl (n_))
    refine W_ret ?_
    refine ⟨_, _, hF, rfl, ?_⟩
    refine ⟨congrArg Value.bool ?_, rfl⟩
    unfold fitB
    simp only [Option.isSome_some, Bool.true_and]
    first | (symm; rw [decide_eq_false_iff_not]; omega) | (rw [decide_eq_decide]; omega)

set_option maxRecDepth 100000 in
set_option maxHeartbeats 1000000 in
theorem rIsal_ok (B wb p : Nat) (hp : Prm wb p) (k m : Int) (w : World) (hI : Inv FDx B w) : Ret Tryz.prog 23 [.int .i64 (wb : Int), .int .u32 (p : Int), .int .i64 k, .int .i64 m] w fun v w' => ∃ ob u, v = .tuple #[u, .bool (isalM (some (wb, p)) k m).isSome] ∧ MOwn FDx B w.heap.size 0 w'.heap.size w' 23 u ob ((isalM (some (wb, p)) k m).getD []) ∧ St FDx B w w' := by
  refine enter2 42 [(0, .int .i64 (wb : Int)), (1, .int .u32 (p : Int)), (2, .int .i64 k), (3, .int .i64 m)] 8 9 Tryz.func23 rfl rfl rfl rfl rfl ?_; intro a hF
  have hS := St.refl hI
  refine W_sr rfl (fun K hK => ?_)
  refine sv hF (v_assign rfl) rfl ?_; clear hF a; intro a hF
  refine sv hF (v_assign rfl) rfl ?_; clear hF a; intro a hF
  refine WL_nil (hK _ _ ?_)
  clear hK K
  refine W_seq ?_
  refine W_sr rfl (fun K hK => ?_)
  refine sv hF (v_move rfl) rfl ?_; clear hF a; intro a hF
  refine sv hF (v_move rfl) rfl ?_; clear hF a; intro a hF
  refine sc hF rfl rfl rfl en47 rfl (rFits_ok wb p k m _) ?_; clear hF a; intro v w' a hv hF
  obtain ⟨rfl, hw⟩ := hv
  obtain rfl := hw.symm
  have hS' := St.refl hS.inv
  replace hS := hS.trans hS'
  clear hS'
  refine sv hF (v_not rfl) rfl ?_; clear hF a; intro a hF
  refine WL_nil (hK _ _ ?_)
  clear hK K
  replace hF := hF.sub _ (c_ 17 rfl (c_ 9 rfl (c_ 8 rfl (c_ 0 rfl (c_ 1 rfl (c_ 2 rfl (c_ 3 rfl (n_))))))))
  refine W_if hF rfl (fun hc1 => ?_) (fun hc1 => ?_)
  · skip
    try simp only [decide_eq_true_eq, decide_eq_false_iff_not, Bool.not_eq_true', Bool.not_eq_false', Bool.not_true, Bool.not_false] at hc1
    refine W_sr rfl (fun K hK => ?_)
    refine sv hF (v_assign rfl) rfl ?_; clear hF a; intro a hF
    refine sv hF (v_assign rfl) rfl ?_; clear hF a; intro a hF
    refine WL_nil (hK _ _ ?_)
    clear hK K
    replace hF := hF.sub _ (c_ 9 rfl (c_ 8 rfl (c_ 0 rfl (c_ 1 rfl (c_ 2 rfl (c_ 3 rfl (n_)))))))
    refine W_ret ?_
    refine ⟨_, _, _, hF, rfl, rfl, ?_⟩
    rw [isalM_no (show fitB (some (wb, p)) k m = false by simpa using hc1)]
    exact ⟨none, _, rfl, MOwn.nil _ _ _ _ _ _ _ (Nat.zero_le _), hS⟩
  · skip
    try simp only [decide_eq_true_eq, decide_eq_false_iff_not, Bool.not_eq_true', Bool.not_eq_false', Bool.not_true, Bool.not_false] at hc1
    refine W_skip ?_
    have hb : fitB (some (wb, p)) k m = true := by simpa using hc1
    obtain ⟨-, hb2⟩ := fitB_iff.1 hb
    obtain ⟨kn, rfl⟩ : ∃ n : Nat, k = (n : Int) := ⟨k.toNat, by omega⟩
    obtain ⟨mn, rfl⟩ : ∃ n : Nat, m = (n : Int) := ⟨m.toNat, by omega⟩
    refine W_sr rfl (fun K hK => ?_)
    refine sv hF (v_assign rfl) rfl ?_; clear hF a; intro a hF
    refine WL_nil (hK _ _ ?_)
    clear hK K
    replace hF := hF.sub _ (c_ 10 rfl (c_ 9 rfl (c_ 8 rfl (c_ 0 rfl (c_ 1 rfl (c_ 2 rfl (c_ 3 rfl (n_))))))))
    refine W_seq ?_
    refine W_sr rfl (fun K hK => ?_)
    refine sv hF (v_assign rfl) rfl ?_; clear hF a; intro a hF
    refine WL_nil (hK _ _ ?_)
    clear hK K
    refine W_block ?_
    refine W_loop (fun q a w1 => ∃ (i : Nat) (v10 : Value) (b10 : Option Nat), Fr 42 [(0, .int .i64 (wb : Int)), (1, .int .u32 (p : Int)), (2, .int .i64 (kn : Int)), (3, .int .i64 (mn : Int)), (10, v10), (11, .int .i64 (i : Int))] a ∧ (St FDx B w w1) ∧ (MOwn FDx B w.heap.size 0 w1.heap.size w1 23 v10 b10 ((List.range i).map (trow kn (isT (some (wb, p)))))) ∧ (i ≤ mn) ∧ (q + i = mn)) (mn) ?_ ?_
    · skip
      exact ⟨0, _, none, hF.sub _ (c_ 0 rfl (c_ 1 rfl (c_ 2 rfl (c_ 3 rfl (c_ 10 rfl (c_ 11 rfl (n_))))))), hS, MOwn.nil _ _ _ _ _ _ _ (Nat.zero_le _), by omega, by omega⟩
    · skip
      clear hF
      clear hS
      rintro q a w1 ⟨i, v10, b10, hF, hS, hMO, hi, hq⟩
      refine W_seq ?_
      obtain ⟨KM, hKe⟩ : ∃ KM, KM = w1.heap.size := ⟨_, rfl⟩
      rw [← hKe] at hMO
      have hKs : KM ≤ w1.heap.size := by omega
      have hNK : w.heap.size ≤ KM := by have := hS.ext.size; omega
      clear hKe
      refine W_sr rfl (fun K hK => ?_)
      refine sv hF (v_move rfl) rfl ?_; clear hF a; intro a hF
      refine sv hF (v_move rfl) rfl ?_; clear hF a; intro a hF
      refine sv hF (v_lss rfl rfl) rfl ?_; clear hF a; intro a hF
      refine WL_nil (hK _ _ ?_)
      clear hK K
      replace hF := hF.sub _ (c_ 20 rfl (c_ 0 rfl (c_ 1 rfl (c_ 2 rfl (c_ 3 rfl (c_ 10 rfl (c_ 11 rfl (n_))))))))
      refine W_if hF rfl (fun hc2 => ?_) (fun hc2 => ?_)
      · skip
        try simp only [decide_eq_true_eq, decide_eq_false_iff_not, Bool.not_eq_true', Bool.not_eq_false', Bool.not_true, Bool.not_false] at hc2
        have hlt : i < mn := by omega
        refine W_skip ?_
        refine W_seq ?_
        refine W_block ?_
        refine W_sr rfl (fun K hK => ?_)
        refine sv hF (v_assign rfl) rfl ?_; clear hF a; intro a hF
        refine WL_nil (hK _ _ ?_)
        clear hK K
        replace hF := hF.sub _ (c_ 12 rfl (c_ 0 rfl (c_ 1 rfl (c_ 2 rfl (c_ 3 rfl (c_ 10 rfl (c_ 11 rfl (n_))))))))
        refine W_seq ?_
        refine W_sr rfl (fun K hK => ?_)
        refine sv hF (v_assign rfl) rfl ?_; clear hF a; intro a hF
        refine WL_nil (hK _ _ ?_)
        clear hK K
        refine W_block ?_
        refine W_loop (fun q2 a w2 => ∃ (j : Nat) (v12 : Value) (b12 : Option Nat), Fr 42 [(0, .int .i64 (wb : Int)), (1, .int .u32 (p : Int)), (2, .int .i64 (kn : Int)), (3, .int .i64 (mn : Int)), (10, v10), (11, .int .i64 (i : Int)), (12, v12), (13, .int .i64 (j : Int))] a ∧ (St FDx B w w2) ∧ (MOwn FDx B w.heap.size 0 KM w2 23 v10 b10 ((List.range i).map (trow kn (isT (some (wb, p)))))) ∧ (KM ≤ w2.heap.size) ∧ (Gam.Own FDx B KM w2 FDx.E v12 b12 (zints ((List.range j).map fun j => (((isT (some (wb, p))) i j : Nat) : Int)))) ∧ (j ≤ kn) ∧ (q2 + j = kn)) (kn) ?_ ?_
        · skip
          exact ⟨0, _, none, hF.sub _ (c_ 0 rfl (c_ 1 rfl (c_ 2 rfl (c_ 3 rfl (c_ 10 rfl (c_ 11 rfl (c_ 12 rfl (c_ 13 rfl (n_))))))))), hS, hMO, hKs, Gam.Own.nil _ _ _ _ _, by omega, by omega⟩
        · skip
          clear hF
          clear hS hMO hKs
          rintro q2 a w2 ⟨j, v12, b12, hF, hS, hMO, hKs, hO, hj, hq2⟩
          refine W_seq ?_
          refine W_sr rfl (fun K hK => ?_)
          refine sv hF (v_move rfl) rfl ?_; clear hF a; intro a hF
          refine sv hF (v_move rfl) rfl ?_; clear hF a; intro a hF
          refine sv hF (v_lss rfl rfl) rfl ?_; clear hF a; intro a hF
          refine WL_nil (hK _ _ ?_)
          clear hK K
          replace hF := hF.sub _ (c_ 25 rfl (c_ 0 rfl (c_ 1 rfl (c_ 2 rfl (c_ 3 rfl (c_ 10 rfl (c_ 11 rfl (c_ 12 rfl (c_ 13 rfl (n_))))))))))
          refine W_if hF rfl (fun hc3 => ?_) (fun hc3 => ?_)
          · skip
            try simp only [decide_eq_true_eq, decide_eq_false_iff_not, Bool.not_eq_true', Bool.not_eq_false', Bool.not_true, Bool.not_false] at hc3
            have hlt2 : j < kn := by omega
            have hij : i * j ≤ 20 * 20 := Nat.mul_le_mul (by omega) (by omega)
            refine W_skip ?_
            refine W_seq ?_
            refine W_block ?_
            refine W_reg rfl (fun K hK => ?_)
            refine sv hF (v_move rfl) rfl ?_; clear hF a; intro a hF
            refine sv hF (v_move rfl) rfl ?_; clear hF a; intro a hF
            refine sv hF (v_move rfl) rfl ?_; clear hF a; intro a hF
            refine sv hF (v_move rfl) rfl ?_; clear hF a; intro a hF
            refine sv hF (v_move rfl) rfl ?_; clear hF a; intro a hF
            have hje : (i : Int) * (j : Int) = ((i * j : Nat) : Int) := by simp
            refine sv hF ((v_mulI rfl rfl (by rw [hje]; omega)).as (congrArg _ hje)) rfl ?_; clear hF a; intro a hF
            refine sc hF rfl rfl rfl en50 rfl (rExp_gf B wb p ((i * j : Nat) : Int) _ hS.inv hp (by omega)) ?_; clear hF a; intro v w' a hv hF
            obtain ⟨rfl, hS'⟩ := hv
            replace hMO := hMO.st (by decide) hS'
            replace hKs := Nat.le_trans hKs hS'.ext.size
            replace hO := hO.st (by decide) hS'
            replace hS := hS.trans hS'
            clear hS'
            rw [exp_cell hp] at hF
            refine s_bs (D := FDx) (B := B) hF sl23 rfl rfl (by decide) (by simp [Value.cells]) (by decide) hS.inv rfl ?_; clear hF a; intro w' a hm hI' hL hF
            replace hMO := hMO.mb0 hm
            replace hKs := Nat.le_trans hKs hm.size
            replace hO := hO.mb hm (fun _ _ => by simp)
            replace hS := hS.mb0 hm
            clear hm hI'
            refine s_app (D := FDx) (B := B) hF rfl sl23 rfl rfl hO (hL.row (by decide)) (by simp [Value.oneCell']) (by simp; omega) (by simp [maxLen]; omega) (hKs) (by decide) hS.inv rfl ?_; clear hF a; intro v' b' w' a ho' hm hI' hb' hF
            replace hMO := hMO.mbo hm hO (by decide) (Nat.le_refl _) (Nat.zero_le _)
            replace hKs := Nat.le_trans hKs hm.size
            replace hS := hS.mb hm (fun k h => Nat.le_trans (hNK) (hO.lt k h).1)
            replace hO := ho'
            clear hm hI' ho'
            refine sv hF (v_assign rfl) rfl ?_; clear hF a; intro a hF
            refine WL_nil (hK _ _ ?_)
            clear hK K
            replace hF := hF.sub _ (c_ 12 rfl (c_ 0 rfl (c_ 1 rfl (c_ 2 rfl (c_ 3 rfl (c_ 10 rfl (c_ 11 rfl (c_ 13 rfl (n_)))))))))
            refine W_reg rfl (fun K hK => ?_)
            refine sv hF (v_move rfl) rfl ?_; clear hF a; intro a hF
            refine sv hF (v_addI rfl rfl (by omega)) rfl ?_; clear hF a; intro a hF
            refine sv hF (v_assign rfl) rfl ?_; clear hF a; intro a hF
            refine WL_nil (hK _ _ ?_)
            clear hK K
            exact ⟨q2 - 1, by omega, j + 1, _, _, hF.sub _ (c_ 0 rfl (c_ 1 rfl (c_ 2 rfl (c_ 3 rfl (c_ 10 rfl (c_ 11 rfl (c_ 12 rfl (c_ 13 rfl (n_))))))))), hS, hMO, hKs, hO.cast (by rw [List.range_succ, List.map_append]; simp [zints]), by omega, by omega⟩
          · skip
            try simp only [decide_eq_true_eq, decide_eq_false_iff_not, Bool.not_eq_true', Bool.not_eq_false', Bool.not_true, Bool.not_false] at hc3
            have hjm : j = kn := by omega
            rw [hjm] at hO
            refine W_exit rfl ?_
            refine W_reg rfl (fun K hK => ?_)
            refine sv hF (v_move rfl) rfl ?_; clear hF a; intro a hF
            refine sv hF (v_move rfl) rfl ?_; clear hF a; intro a hF
            obtain ⟨a_, c_r, rfl⟩ := hO.shape
            refine s_bs (D := FDx) (B := B) hF sl22 rfl rfl (by decide) (by simp [Value.cells]) (by decide) hS.inv rfl ?_; clear hF a; intro w' a hm hI' hL hF
            replace hMO := hMO.mb0 hm
            replace hKs := Nat.le_trans hKs hm.size
            replace hO := hO.mb hm (fun _ _ => by simp)
            replace hS := hS.mb0 hm
            clear hm hI'
            replace hMO := hMO.up hKs
            clear hKs
            refine s_appM (D := FDx) (B := B) hF rfl sl22 rfl rfl hMO hL (.of (r := trow kn (isT (some (wb, p))) i) hO (Nat.zero_le _)) rfl rfl (by simp; omega) (hS.ext.size) (by decide) (by decide) hS.inv rfl ?_; clear hF a; intro v' b' w' a ho' hm hI' hF
            replace hS := hS.mb hm (fun k h => (hMO.lt k h).1)
            have hKm := hm.size
            replace hMO := ho'
            clear hm hI' ho' hL
            refine sv hF (v_assign rfl) rfl ?_; clear hF a; intro a hF
            refine WL_nil (hK _ _ ?_)
            clear hK K
            replace hF := hF.sub _ (c_ 10 rfl (c_ 40 rfl (c_ 39 rfl (c_ 38 rfl (c_ 37 rfl (c_ 0 rfl (c_ 1 rfl (c_ 2 rfl (c_ 3 rfl (c_ 11 rfl (c_ 12 rfl (c_ 13 rfl (n_)))))))))))))
            refine W_reg rfl (fun K hK => ?_)
            refine sv hF (v_move rfl) rfl ?_; clear hF a; intro a hF
            refine sv hF (v_addI rfl rfl (by omega)) rfl ?_; clear hF a; intro a hF
            refine sv hF (v_assign rfl) rfl ?_; clear hF a; intro a hF
            refine WL_nil (hK _ _ ?_)
            clear hK K
            exact ⟨q - 1, by omega, i + 1, _, _, hF.sub _ (c_ 0 rfl (c_ 1 rfl (c_ 2 rfl (c_ 3 rfl (c_ 10 rfl (c_ 11 rfl (n_))))))), hS, (hMO.up hKm).cast (by rw [List.range_succ, List.map_append]; rfl), by omega, by omega⟩
      · skip
        try simp only [decide_eq_true_eq, decide_eq_false_iff_not, Bool.not_eq_true', Bool.not_eq_false', Bool.not_true, Bool.not_false] at hc2
        refine W_exit rfl ?_
        refine W_sr rfl (fun K hK => ?_)
        refine sv hF (v_move rfl) rfl ?_; clear hF a; intro a hF
        refine sv hF (v_assign rfl) rfl ?_; clear hF a; intro a hF
        refine sv hF (v_assign rfl) rfl ?_; clear hF a; intro a hF
        refine WL_nil (hK _ _ ?_)
        clear hK K
        replace hF := hF.sub _ (c_ 9 rfl (c_ 8 rfl (c_ 41 rfl (c_ 0 rfl (c_ 1 rfl (c_ 2 rfl (c_ 3 rfl (c_ 10 rfl (c_ 11 rfl (n_))))))))))
        refine W_ret ?_
        refine ⟨_, _, _, hF, rfl, rfl, ?_⟩
        obtain rfl : i = mn := by omega
        rw [show isalM (some (wb, p)) (kn : Int) (i : Int) = some (tab i kn (isT (some (wb, p)))) by unfold isalM; rw [if_pos hb]; rfl]
        exact ⟨_, _, rfl, (hMO.up hKs).cast rfl, hS⟩

set_option maxRecDepth 100000 in
set_option maxHeartbeats 1000000 in
theorem rSystem_ok (B wb p : Nat) (hp : Prm wb p) (k m : Int) (w : World) (hI : Inv FDx B w) : Ret Tryz.prog 21 [.int .i64 (wb : Int), .int .u32 (p : Int), .int .i64 k, .int .i64 m] w fun v w' => ∃ ob u, v = .tuple #[u, .bool (sysM hp k m).isSome] ∧ MOwn FDx B w.heap.size 0 w'.heap.size w' 23 u ob ((sysM hp k m).getD []) ∧ St FDx B w w' := by
  refine enter2 44 [(0, .int .i64 (wb : Int)), (1, .int .u32 (p : Int)), (2, .int .i64 k), (3, .int .i64 m)] 8 9 Tryz.func21 rfl rfl rfl rfl rfl ?_; intro a hF
  have hS := St.refl hI
  refine W_sr rfl (fun K hK => ?_)
  refine sv hF (v_assign rfl) rfl ?_; clear hF a; intro a hF
  refine sv hF (v_assign rfl) rfl ?_; clear hF a; intro a hF
  refine WL_nil (hK _ _ ?_)
  clear hK K
  refine W_seq ?_
  refine W_sr rfl (fun K hK => ?_)
  refine sv hF (v_move rfl) rfl ?_; clear hF a; intro a hF
  refine sv hF (v_move rfl) rfl ?_; clear hF a; intro a hF
  refine sc hF rfl rfl rfl en47 rfl (rFits_ok wb p k m _) ?_; clear hF a; intro v w' a hv hF
  obtain ⟨rfl, hw⟩ := hv
  obtain rfl := hw.symm
  have hS' := St.refl hS.inv
  replace hS := hS.trans hS'
  clear hS'
  refine sv hF (v_not rfl) rfl ?_; clear hF a; intro a hF
  refine WL_nil (hK _ _ ?_)
  clear hK K
  replace hF := hF.sub _ (c_ 17 rfl (c_ 9 rfl (c_ 8 rfl (c_ 0 rfl (c_ 1 rfl (c_ 2 rfl (c_ 3 rfl (n_))))))))
  refine W_if hF rfl (fun hc1 => ?_) (fun hc1 => ?_)
  · skip
    try simp only [decide_eq_true_eq, decide_eq_false_iff_not, Bool.not_eq_true', Bool.not_eq_false', Bool.not_true, Bool.not_false] at hc1
    refine W_sr rfl (fun K hK => ?_)
    refine sv hF (v_assign rfl) rfl ?_; clear hF a; intro a hF
    refine sv hF (v_assign rfl) rfl ?_; clear hF a; intro a hF
    refine WL_nil (hK _ _ ?_)
    clear hK K
    replace hF := hF.sub _ (c_ 9 rfl (c_ 8 rfl (c_ 0 rfl (c_ 1 rfl (c_ 2 rfl (c_ 3 rfl (n_)))))))
    refine W_ret ?_
    refine ⟨_, _, _, hF, rfl, rfl, ?_⟩
    rw [show sysM hp k m = none by unfold sysM; rw [if_neg (by simpa using hc1)]]
    exact ⟨none, _, rfl, MOwn.nil _ _ _ _ _ _ _ (Nat.zero_le _), hS⟩
  · skip
    try simp only [decide_eq_true_eq, decide_eq_false_iff_not, Bool.not_eq_true', Bool.not_eq_false', Bool.not_true, Bool.not_false] at hc1
    refine W_skip ?_
    have hb : fitB (some (wb, p)) k m = true := by simpa using hc1
    obtain ⟨-, hb2⟩ := fitB_iff.1 hb
    obtain ⟨kn, rfl⟩ : ∃ n : Nat, k = (n : Int) := ⟨k.toNat, by omega⟩
    obtain ⟨mn, rfl⟩ : ∃ n : Nat, m = (n : Int) := ⟨m.toNat, by omega⟩
    have hraw : rawM (some (wb, p)) ((kn + mn : Nat) : Int) (kn : Int) = some (tab (kn + mn) kn (pwT (some (wb, p)))) := by unfold rawM rawB; rw [if_pos (by rw [decide_eq_true (by omega)]; rfl)]; rfl
    have hinv := raw_inv hp (k := kn) (by omega) (by omega)
    have hmul := sys_mul hp (k := kn) (m := mn) (by omega) (by omega) (by omega)
    refine W_sr rfl (fun K hK => ?_)
    refine sv hF (v_move rfl) rfl ?_; clear hF a; intro a hF
    refine sv hF (v_move rfl) rfl ?_; clear hF a; intro a hF
    refine sv hF (v_move rfl) rfl ?_; clear hF a; intro a hF
    refine sv hF (v_move rfl) rfl ?_; clear hF a; intro a hF
    refine sv hF ((v_addI rfl rfl (by omega)).as (show Value.int .i64 ((kn : Int) + (mn : Int)) = .int .i64 ((kn + mn : Nat) : Int) by simp)) rfl ?_; clear hF a; intro a hF
    refine sv hF (v_move rfl) rfl ?_; clear hF a; intro a hF
    refine sc hF rfl rfl rfl en19 rfl (rRaw_ok B wb p hp ((kn + mn : Nat) : Int) (kn : Int) _ hS.inv) ?_; clear hF a; intro v w' a hv hF
    obtain ⟨obX, uX, rfl, hoX, hS'⟩ := hv
    rw [hraw] at hoX hF
    try simp only [Option.getD_some, Option.getD_none] at hoX
    obtain ⟨sX, cX, rfl, hX⟩ := hoX.mat (by decide) (Nat.zero_le _)
    clear hoX
    replace hS := hS.trans hS'
    clear hS'
    refine sv hF (v_move rfl) rfl ?_; clear hF a; intro a hF
    refine sv hF (v_ext rfl rfl) rfl ?_; clear hF a; intro a hF
    refine sv hF (v_ext rfl rfl) rfl ?_; clear hF a; intro a hF
    refine sv hF (v_assign rfl) rfl ?_; clear hF a; intro a hF
    refine sv hF (v_assign rfl) rfl ?_; clear hF a; intro a hF
    refine WL_nil (hK _ _ ?_)
    clear hK K
    replace hF := hF.sub _ (c_ 10 rfl (c_ 9 rfl (c_ 8 rfl (c_ 0 rfl (c_ 1 rfl (c_ 2 rfl (n_)))))))
    have hcap := hX.capd
    have hxl : (tab (kn + mn) kn (pwT (some (wb, p)))).length = kn + mn := tab_length _ _ _
    rw [hxl] at hcap
    have hX1 := hX.to (b := tab kn kn (pwT (some (wb, p)))) (hi := kn) (by omega) (tab_take (by omega)).symm
    have hl1 : ∀ n, n ≤ 20 → (tab n kn (pwT (some (wb, p)))).length ≤ maxLen ∧ ∀ r ∈ tab n kn (pwT (some (wb, p))), r.length ≤ maxLen := fun n hn => len20 ⟨by rw [tab_length]; exact hn, fun r hr => by obtain ⟨i, _, rfl⟩ := List.mem_map.1 hr; simp; omega⟩
    have hkl : (tab kn kn (pwT (some (wb, p)))).length = kn := tab_length _ _ _
    refine W_sr rfl (fun K hK => ?_)
    refine sv hF (v_move rfl) rfl ?_; clear hF a; intro a hF
    refine sv hF (v_move rfl) rfl ?_; clear hF a; intro a hF
    refine sv hF (v_move rfl) rfl ?_; clear hF a; intro a hF
    refine sv hF (v_move rfl) rfl ?_; clear hF a; intro a hF
    refine sv hF (v_slHi sl22 rfl rfl (by omega) (by omega)) rfl ?_; clear hF a; intro a hF
    rw [show (Value.slice sX kn cX) = .slice sX (tab kn kn (pwT (some (wb, p)))).length cX by rw [hkl]] at hF
    refine sc hF rfl rfl rfl en9 rfl (rInverse_ok B _ wb p hp _ _ (tab kn kn (pwT (some (wb, p)))) _ hS.inv (Nat.le_refl _) hX1 (hl1 _ (by omega)).1 (hl1 _ (by omega)).2) ?_; clear hF a; intro v w' a hv hF
    obtain ⟨sY, cY, rfl, hY, hS'⟩ := hv
    rw [hinv] at hY hF
    dsimp only at hY hF
    clear hX1
    replace hX := (hX.st hS').mono hS'.ext.size
    replace hS := hS.trans hS'
    clear hS'
    refine sv hF (v_move rfl) rfl ?_; clear hF a; intro a hF
    refine sv hF (v_ext rfl rfl) rfl ?_; clear hF a; intro a hF
    refine sv hF (v_ext rfl rfl) rfl ?_; clear hF a; intro a hF
    refine sv hF (v_assign rfl) rfl ?_; clear hF a; intro a hF
    refine sv hF (v_assign rfl) rfl ?_; clear hF a; intro a hF
    refine WL_nil (hK _ _ ?_)
    clear hK K
    replace hF := hF.sub _ (c_ 12 rfl (c_ 10 rfl (c_ 9 rfl (c_ 8 rfl (c_ 0 rfl (c_ 1 rfl (n_)))))))
    have hl2 : (tab kn kn (vinv hp kn)).length ≤ 1000 ∧ ∀ r ∈ tab kn kn (vinv hp kn), r.length ≤ 1000 := len1k ⟨by rw [tab_length]; omega, fun r hr => by obtain ⟨i, _, rfl⟩ := List.mem_map.1 hr; simp; omega⟩
    have hl3 : (tab (kn + mn) kn (pwT (some (wb, p)))).length ≤ 1000 ∧ ∀ r ∈ (tab (kn + mn) kn (pwT (some (wb, p)))), r.length ≤ 1000 := len1k ⟨by rw [tab_length]; omega, fun r hr => by obtain ⟨i, _, rfl⟩ := List.mem_map.1 hr; simp; omega⟩
    refine W_sr rfl (fun K hK => ?_)
    refine sv hF (v_move rfl) rfl ?_; clear hF a; intro a hF
    refine sv hF (v_move rfl) rfl ?_; clear hF a; intro a hF
    refine sv hF (v_move rfl) rfl ?_; clear hF a; intro a hF
    refine sv hF (v_move rfl) rfl ?_; clear hF a; intro a hF
    refine sc hF rfl rfl rfl en48 rfl (rMulM_ok B _ wb p hp _ _ (tab (kn + mn) kn (pwT (some (wb, p)))) _ _ (tab kn kn (vinv hp kn)) _ hS.inv (Nat.le_refl _) hX hl3.1 hl3.2 hY hl2.1 hl2.2) ?_; clear hF a; intro v w' a hv hF
    obtain ⟨ob, u, rfl, hMO, hS'⟩ := hv
    rw [hmul] at hMO hF
    simp only [Option.getD_some] at hMO
    replace hMO := hMO.le hS.ext.size (Nat.zero_le _)
    replace hS := hS.trans hS'
    clear hS'
    refine sv hF (v_ext rfl rfl) rfl ?_; clear hF a; intro a hF
    refine sv hF (v_ext rfl rfl) rfl ?_; clear hF a; intro a hF
    refine sv hF (v_assign rfl) rfl ?_; clear hF a; intro a hF
    refine sv hF (v_assign rfl) rfl ?_; clear hF a; intro a hF
    refine WL_nil (hK _ _ ?_)
    clear hK K
    replace hF := hF.sub _ (c_ 9 rfl (c_ 8 rfl (n_)))
    refine W_ret ?_
    refine ⟨_, _, _, hF, rfl, rfl, ?_⟩
    rw [show sysM hp (kn : Int) (mn : Int) = some (tab (kn + mn) kn (sysT hp kn)) by unfold sysM; rw [if_pos hb]; rfl]
    exact ⟨_, _, rfl, hMO, hS⟩

end Go.Proofs.YtcnlooajjnghaaaGreat

/- The statement VanderTells, walked: it returns true. -/
set_option linter.unusedVariables false
set_option linter.unusedSimpArgs false
namespace Go.Proofs.YtcnlooajjnghaaaGreat
open Go Go.Gam


namespace FxFVanderTells
theorem en14 : Ent Tryz.prog 14 := ent Tryz.func14 (by kernel_rfl) (by kernel_rfl)
theorem en16 : Ent Tryz.prog 16 := ent Tryz.func16 (by kernel_rfl) (by kernel_rfl)
theorem en17 : Ent Tryz.prog 17 := ent Tryz.func17 (by kernel_rfl) (by kernel_rfl)
theorem en18 : Ent Tryz.prog 18 := ent Tryz.func18 (by kernel_rfl) (by kernel_rfl)
theorem en19 : Ent Tryz.prog 19 := ent Tryz.func19 (by kernel_rfl) (by kernel_rfl)
theorem en20 : Ent Tryz.prog 20 := ent Tryz.func20 (by kernel_rfl) (by kernel_rfl)
theorem en21 : Ent Tryz.prog 21 := ent Tryz.func21 (by kernel_rfl) (by kernel_rfl)
theorem en22 : Ent Tryz.prog 22 := ent Tryz.func22 (by kernel_rfl) (by kernel_rfl)
theorem en23 : Ent Tryz.prog 23 := ent Tryz.func23 (by kernel_rfl) (by kernel_rfl)
theorem en24 : Ent Tryz.prog 24 := ent Tryz.func24 (by kernel_rfl) (by kernel_rfl)
theorem sl22 : Sl Tryz.prog 22 23 (.slice none 0 0) 24 := sl_of Tryz.underlying22 rfl (by kernel_rfl)
theorem sl23 : Sl Tryz.prog 23 3 (.int .i64 0) 8 := sl_of Tryz.underlying23 rfl (by kernel_rfl)
theorem sl30 : Sl Tryz.prog 30 23 (.slice none 0 0) 24 := sl_of Tryz.underlying30 rfl (by kernel_rfl)
end FxFVanderTells
open FxFVanderTells

set_option maxRecDepth 100000 in
set_option maxHeartbeats 1000000 in
theorem was6_some (w : World) : Ret Tryz.prog 24 [.int .i64 0, .bool true] w fun v w' => v = .bool true ∧ w' = w := by
  refine enter 18 [(0, .int .i64 0), (1, .bool true)] 4 Tryz.func24 rfl rfl rfl rfl rfl ?_; intro a hF
  refine W_sr rfl (fun K hK => ?_)
  refine sv hF (v_assign rfl) rfl ?_; clear hF a; intro a hF
  refine WL_nil (hK _ _ ?_)
  clear hK K
  refine W_sr rfl (fun K hK => ?_)
  refine sv hF (v_move rfl) rfl ?_; clear hF a; intro a hF
  refine sv hF ((v_eql rfl rfl).as (congrArg Value.bool (decide_eq_true (rfl)))) rfl ?_; clear hF a; intro a hF
  refine sv hF (v_move rfl) rfl ?_; clear hF a; intro a hF
  refine svg hF rfl ?_
  refine sv hF (v_move rfl) rfl ?_; clear hF a; intro a hF
  refine sv hF (v_pickT rfl rfl) rfl ?_; clear hF a; intro a hF
  refine sv hF (v_move rfl) rfl ?_; clear hF a; intro a hF
  refine svn hF rfl rfl rfl ?_; clear hF a; intro a hF
  refine svn hF rfl rfl rfl ?_; clear hF a; intro a hF
  refine svn hF rfl rfl rfl ?_; clear hF a; intro a hF
  refine svu hF rfl rfl ?_; clear hF a; intro a hF
  refine svu hF rfl rfl ?_; clear hF a; intro a hF
  refine svn hF rfl rfl rfl ?_; clear hF a; intro a hF
  refine sv hF (v_pickT rfl rfl) rfl ?_; clear hF a; intro a hF
  refine sv hF (v_assign rfl) rfl ?_; clear hF a; intro a hF
  refine WL_nil (hK _ _ ?_)
  clear hK K
  replace hF := hF.sub _ (c_ 4 rfl (n_))
  refine W_ret ?_
  refine ⟨_, _, hF, rfl, ?_⟩
  exact ⟨rfl, rfl⟩

set_option maxRecDepth 100000 in
set_option maxHeartbeats 1000000 in
theorem was6_none (w : World) : Ret Tryz.prog 24 [.int .i64 1, .bool false] w fun v w' => v = .bool true ∧ w' = w := by
  refine enter 18 [(0, .int .i64 1), (1, .bool false)] 4 Tryz.func24 rfl rfl rfl rfl rfl ?_; intro a hF
  refine W_sr rfl (fun K hK => ?_)
  refine sv hF (v_assign rfl) rfl ?_; clear hF a; intro a hF
  refine WL_nil (hK _ _ ?_)
  clear hK K
  refine W_sr rfl (fun K hK => ?_)
  refine sv hF (v_move rfl) rfl ?_; clear hF a; intro a hF
  refine sv hF ((v_eql rfl rfl).as (congrArg Value.bool (decide_eq_false (by decide)))) rfl ?_; clear hF a; intro a hF
  refine sv hF (v_move rfl) rfl ?_; clear hF a; intro a hF
  refine svn hF rfl rfl rfl ?_; clear hF a; intro a hF
  refine sv hF (v_pickF rfl rfl) rfl ?_; clear hF a; intro a hF
  refine sv hF (v_move rfl) rfl ?_; clear hF a; intro a hF
  refine svg hF rfl ?_
  refine sv hF (v_move rfl) rfl ?_; clear hF a; intro a hF
  refine svg hF rfl ?_
  refine sv hF ((v_eql rfl rfl).as (congrArg Value.bool (decide_eq_true (rfl)))) rfl ?_; clear hF a; intro a hF
  refine svg hF rfl ?_
  refine sv hF (v_move rfl) rfl ?_; clear hF a; intro a hF
  refine svg hF rfl ?_
  refine sv hF (v_move rfl) rfl ?_; clear hF a; intro a hF
  refine svg hF rfl ?_
  refine sv hF (v_not rfl) rfl ?_; clear hF a; intro a hF
  refine svg hF rfl ?_
  refine sv hF (v_pickT rfl rfl) rfl ?_; clear hF a; intro a hF
  refine sv hF (v_pickF rfl rfl) rfl ?_; clear hF a; intro a hF
  refine sv hF (v_assign rfl) rfl ?_; clear hF a; intro a hF
  refine WL_nil (hK _ _ ?_)
  clear hK K
  replace hF := hF.sub _ (c_ 4 rfl (n_))
  refine W_ret ?_
  refine ⟨_, _, hF, rfl, ?_⟩
  exact ⟨rfl, rfl⟩

theorem was6_ok {α : Type} (s : Option α) (b : Bool) (w : World) (h : b = s.isSome) : Ret Tryz.prog 24 [.int .i64 (errV s), .bool b] w fun v w' => v = .bool true ∧ w' = w := by
  subst h
  cases s with
  | none => exact was6_none w
  | some x => exact was6_some w

set_option maxRecDepth 100000 in
set_option maxHeartbeats 1000000 in
theorem VanderTells_ok (B : Nat) (lg : Bool) (k m : Int) (w : World) (hI : Inv FDx B w) (hk : -9223372036854775808 ≤ k ∧ k < 9223372036854775808) (hm : -9223372036854775808 ≤ m ∧ m < 9223372036854775808) : Ret Tryz.prog 4 [.bool lg, .int .i64 k, .int .i64 m] w fun v w' => v = .bool true ∧ St FDx B w w' := by
  refine enter 106 [(0, .bool lg), (1, .int .i64 k), (2, .int .i64 m)] 6 Tryz.func4 rfl rfl rfl rfl rfl ?_; intro a hF
  have hS := St.refl hI
  refine W_sr rfl (fun K hK => ?_)
  refine sv hF (v_assign rfl) rfl ?_; clear hF a; intro a hF
  refine WL_nil (hK _ _ ?_)
  clear hK K
  refine W_sr rfl (fun K hK => ?_)
  refine sc hF rfl rfl rfl en16 rfl (aw06_ok B _ hS.inv) ?_; clear hF a; intro v w' a hv hF
  obtain ⟨rfl, hS'⟩ := hv
  replace hS := hS.trans hS'
  clear hS'
  refine sv hF (v_assign rfl) rfl ?_; clear hF a; intro a hF
  refine WL_nil (hK _ _ ?_)
  clear hK K
  replace hF := hF.sub _ (c_ 7 rfl (c_ 6 rfl (c_ 0 rfl (c_ 1 rfl (c_ 2 rfl (n_))))))
  refine W_sr rfl (fun K hK => ?_)
  refine sv hF (v_move rfl) rfl ?_; clear hF a; intro a hF
  refine sc hF rfl rfl rfl en17 rfl (field6_ok B lg _ hS.inv) ?_; clear hF a; intro v w' a hv hF
  obtain ⟨fv, rfl, hf, hS'⟩ := hv
  obtain ⟨⟨wb, p⟩, hq⟩ : ∃ q, fq lg = q := ⟨_, rfl⟩
  have hq1 : (fq lg).1 = wb := by rw [hq]
  have hq2 : (fq lg).2 = p := by rw [hq]
  rw [hq] at hf
  rw [hq1, hq2] at hF
  clear hq1 hq2
  have hp : Prm wb p := hf.1
  replace hS := hS.trans hS'
  clear hS'
  refine sv hF (v_move rfl) rfl ?_; clear hF a; intro a hF
  refine sv hF (v_ext rfl rfl) rfl ?_; clear hF a; intro a hF
  refine sv hF (v_ext rfl rfl) rfl ?_; clear hF a; intro a hF
  refine sv hF (v_ext rfl rfl) rfl ?_; clear hF a; intro a hF
  refine sv hF (v_assign rfl) rfl ?_; clear hF a; intro a hF
  refine sv hF (v_assign rfl) rfl ?_; clear hF a; intro a hF
  refine sv hF (v_assign rfl) rfl ?_; clear hF a; intro a hF
  refine WL_nil (hK _ _ ?_)
  clear hK K
  replace hF := hF.sub _ (c_ 10 rfl (c_ 9 rfl (c_ 8 rfl (c_ 7 rfl (c_ 6 rfl (c_ 1 rfl (c_ 2 rfl (n_))))))))
  refine W_sr rfl (fun K hK => ?_)
  refine sv hF (v_move rfl) rfl ?_; clear hF a; intro a hF
  refine sv hF (v_move rfl) rfl ?_; clear hF a; intro a hF
  refine sv hF (v_move rfl) rfl ?_; clear hF a; intro a hF
  refine sc hF rfl rfl rfl en18 rfl (Raw_ok B (some (wb, p)) fv k m _ hS.inv hf) ?_; clear hF a; intro v w' a hv hF
  obtain ⟨obX, uX, rfl, hoX, hS'⟩ := hv
  obtain ⟨sX, cX, rfl, hX⟩ := hoX.mat (by decide) (Nat.zero_le _)
  clear hoX
  replace hf := hf.st hS'
  replace hS := hS.trans hS'
  clear hS'
  refine sv hF (v_move rfl) rfl ?_; clear hF a; intro a hF
  refine sv hF (v_ext rfl rfl) rfl ?_; clear hF a; intro a hF
  refine sv hF (v_ext rfl rfl) rfl ?_; clear hF a; intro a hF
  refine sv hF (v_assign rfl) rfl ?_; clear hF a; intro a hF
  refine sv hF (v_assign rfl) rfl ?_; clear hF a; intro a hF
  refine WL_nil (hK _ _ ?_)
  clear hK K
  replace hF := hF.sub _ (c_ 12 rfl (c_ 11 rfl (c_ 10 rfl (c_ 9 rfl (c_ 8 rfl (c_ 7 rfl (c_ 6 rfl (c_ 1 rfl (c_ 2 rfl (n_))))))))))
  refine W_sr rfl (fun K hK => ?_)
  refine sv hF (v_move rfl) rfl ?_; clear hF a; intro a hF
  refine sv hF (v_move rfl) rfl ?_; clear hF a; intro a hF
  refine sv hF (v_move rfl) rfl ?_; clear hF a; intro a hF
  refine sv hF (v_move rfl) rfl ?_; clear hF a; intro a hF
  refine sc hF rfl rfl rfl en19 rfl (rRaw_ok B wb p hp k m _ hS.inv) ?_; clear hF a; intro v w' a hv hF
  obtain ⟨obY, uY, rfl, hoY, hS'⟩ := hv
  obtain ⟨sY, cY, rfl, hY⟩ := hoY.mat (by decide) (Nat.zero_le _)
  clear hoY
  replace hf := hf.st hS'
  replace hX := (hX.st hS').mono hS'.ext.size
  replace hS := hS.trans hS'
  clear hS'
  refine sv hF (v_move rfl) rfl ?_; clear hF a; intro a hF
  refine sv hF (v_ext rfl rfl) rfl ?_; clear hF a; intro a hF
  refine sv hF (v_ext rfl rfl) rfl ?_; clear hF a; intro a hF
  refine sv hF (v_assign rfl) rfl ?_; clear hF a; intro a hF
  refine sv hF (v_assign rfl) rfl ?_; clear hF a; intro a hF
  refine WL_nil (hK _ _ ?_)
  clear hK K
  replace hF := hF.sub _ (c_ 14 rfl (c_ 13 rfl (c_ 12 rfl (c_ 11 rfl (c_ 10 rfl (c_ 9 rfl (c_ 8 rfl (c_ 7 rfl (c_ 6 rfl (c_ 1 rfl (c_ 2 rfl (n_))))))))))))
  refine W_sr rfl (fun K hK => ?_)
  refine sv hF (v_move rfl) rfl ?_; clear hF a; intro a hF
  refine sv hF (v_move rfl) rfl ?_; clear hF a; intro a hF
  refine sv hF (v_move rfl) rfl ?_; clear hF a; intro a hF
  refine sc hF rfl rfl rfl en20 rfl (System_ok B wb p hp fv k m _ hS.inv hf) ?_; clear hF a; intro v w' a hv hF
  obtain ⟨obZ, uZ, rfl, hoZ, hS'⟩ := hv
  obtain ⟨sZ, cZ, rfl, hZ⟩ := hoZ.mat (by decide) (Nat.zero_le _)
  clear hoZ
  replace hf := hf.st hS'
  replace hX := (hX.st hS').mono hS'.ext.size
  replace hY := (hY.st hS').mono hS'.ext.size
  replace hS := hS.trans hS'
  clear hS'
  refine sv hF (v_move rfl) rfl ?_; clear hF a; intro a hF
  refine sv hF (v_ext rfl rfl) rfl ?_; clear hF a; intro a hF
  refine sv hF (v_ext rfl rfl) rfl ?_; clear hF a; intro a hF
  refine sv hF (v_assign rfl) rfl ?_; clear hF a; intro a hF
  refine sv hF (v_assign rfl) rfl ?_; clear hF a; intro a hF
  refine WL_nil (hK _ _ ?_)
  clear hK K
  replace hF := hF.sub _ (c_ 16 rfl (c_ 15 rfl (c_ 14 rfl (c_ 13 rfl (c_ 12 rfl (c_ 11 rfl (c_ 10 rfl (c_ 9 rfl (c_ 8 rfl (c_ 7 rfl (c_ 6 rfl (c_ 1 rfl (c_ 2 rfl (n_))))))))))))))
  refine W_sr rfl (fun K hK => ?_)
  refine sv hF (v_move rfl) rfl ?_; clear hF a; intro a hF
  refine sv hF (v_move rfl) rfl ?_; clear hF a; intro a hF
  refine sv hF (v_move rfl) rfl ?_; clear hF a; intro a hF
  refine sv hF (v_move rfl) rfl ?_; clear hF a; intro a hF
  refine sc hF rfl rfl rfl en21 rfl (rSystem_ok B wb p hp k m _ hS.inv) ?_; clear hF a; intro v w' a hv hF
  obtain ⟨obU, uU, rfl, hoU, hS'⟩ := hv
  obtain ⟨sU, cU, rfl, hU⟩ := hoU.mat (by decide) (Nat.zero_le _)
  clear hoU
  replace hf := hf.st hS'
  replace hX := (hX.st hS').mono hS'.ext.size
  replace hY := (hY.st hS').mono hS'.ext.size
  replace hZ := (hZ.st hS').mono hS'.ext.size
  replace hS := hS.trans hS'
  clear hS'
  refine sv hF (v_move rfl) rfl ?_; clear hF a; intro a hF
  refine sv hF (v_ext rfl rfl) rfl ?_; clear hF a; intro a hF
  refine sv hF (v_ext rfl rfl) rfl ?_; clear hF a; intro a hF
  refine sv hF (v_assign rfl) rfl ?_; clear hF a; intro a hF
  refine sv hF (v_assign rfl) rfl ?_; clear hF a; intro a hF
  refine WL_nil (hK _ _ ?_)
  clear hK K
  replace hF := hF.sub _ (c_ 18 rfl (c_ 17 rfl (c_ 16 rfl (c_ 15 rfl (c_ 14 rfl (c_ 13 rfl (c_ 12 rfl (c_ 11 rfl (c_ 10 rfl (c_ 9 rfl (c_ 8 rfl (c_ 7 rfl (c_ 6 rfl (c_ 1 rfl (c_ 2 rfl (n_))))))))))))))))
  refine W_sr rfl (fun K hK => ?_)
  refine sv hF (v_move rfl) rfl ?_; clear hF a; intro a hF
  refine sv hF (v_move rfl) rfl ?_; clear hF a; intro a hF
  refine sv hF (v_move rfl) rfl ?_; clear hF a; intro a hF
  refine sc hF rfl rfl rfl en22 rfl (Isal_ok B (some (wb, p)) fv k m _ hS.inv hf) ?_; clear hF a; intro v w' a hv hF
  obtain ⟨obV, uV, rfl, hoV, hS'⟩ := hv
  obtain ⟨sV, cV, rfl, hV⟩ := hoV.mat (by decide) (Nat.zero_le _)
  clear hoV
  replace hf := hf.st hS'
  replace hX := (hX.st hS').mono hS'.ext.size
  replace hY := (hY.st hS').mono hS'.ext.size
  replace hZ := (hZ.st hS').mono hS'.ext.size
  replace hU := (hU.st hS').mono hS'.ext.size
  replace hS := hS.trans hS'
  clear hS'
  refine sv hF (v_move rfl) rfl ?_; clear hF a; intro a hF
  refine sv hF (v_ext rfl rfl) rfl ?_; clear hF a; intro a hF
  refine sv hF (v_ext rfl rfl) rfl ?_; clear hF a; intro a hF
  refine sv hF (v_assign rfl) rfl ?_; clear hF a; intro a hF
  refine sv hF (v_assign rfl) rfl ?_; clear hF a; intro a hF
  refine WL_nil (hK _ _ ?_)
  clear hK K
  replace hF := hF.sub _ (c_ 20 rfl (c_ 19 rfl (c_ 18 rfl (c_ 17 rfl (c_ 16 rfl (c_ 15 rfl (c_ 14 rfl (c_ 13 rfl (c_ 12 rfl (c_ 11 rfl (c_ 10 rfl (c_ 9 rfl (c_ 7 rfl (c_ 6 rfl (c_ 1 rfl (c_ 2 rfl (n_)))))))))))))))))
  refine W_sr rfl (fun K hK => ?_)
  refine sv hF (v_move rfl) rfl ?_; clear hF a; intro a hF
  refine sv hF (v_move rfl) rfl ?_; clear hF a; intro a hF
  refine sv hF (v_move rfl) rfl ?_; clear hF a; intro a hF
  refine sv hF (v_move rfl) rfl ?_; clear hF a; intro a hF
  refine sc hF rfl rfl rfl en23 rfl (rIsal_ok B wb p hp k m _ hS.inv) ?_; clear hF a; intro v w' a hv hF
  obtain ⟨obT, uT, rfl, hoT, hS'⟩ := hv
  obtain ⟨sT, cT, rfl, hT⟩ := hoT.mat (by decide) (Nat.zero_le _)
  clear hoT
  replace hf := hf.st hS'
  replace hX := (hX.st hS').mono hS'.ext.size
  replace hY := (hY.st hS').mono hS'.ext.size
  replace hZ := (hZ.st hS').mono hS'.ext.size
  replace hU := (hU.st hS').mono hS'.ext.size
  replace hV := (hV.st hS').mono hS'.ext.size
  replace hS := hS.trans hS'
  clear hS'
  refine sv hF (v_move rfl) rfl ?_; clear hF a; intro a hF
  refine sv hF (v_ext rfl rfl) rfl ?_; clear hF a; intro a hF
  refine sv hF (v_ext rfl rfl) rfl ?_; clear hF a; intro a hF
  refine sv hF (v_assign rfl) rfl ?_; clear hF a; intro a hF
  refine sv hF (v_assign rfl) rfl ?_; clear hF a; intro a hF
  refine WL_nil (hK _ _ ?_)
  clear hK K
  replace hF := hF.sub _ (c_ 22 rfl (c_ 21 rfl (c_ 20 rfl (c_ 19 rfl (c_ 18 rfl (c_ 17 rfl (c_ 16 rfl (c_ 15 rfl (c_ 14 rfl (c_ 13 rfl (c_ 12 rfl (c_ 11 rfl (c_ 7 rfl (c_ 6 rfl (n_)))))))))))))))
  refine W_sr rfl (fun K hK => ?_)
  refine sv hF (v_move rfl) rfl ?_; clear hF a; intro a hF
  refine sv hF (v_move rfl) rfl ?_; clear hF a; intro a hF
  refine svg hF rfl ?_
  refine sv hF (v_move rfl) rfl ?_; clear hF a; intro a hF
  refine svg hF rfl ?_
  refine sv hF (v_move rfl) rfl ?_; clear hF a; intro a hF
  refine svg hF rfl ?_
  refine sc hF rfl rfl rfl en24 rfl (was6_ok (rawM (some (wb, p)) k m) _ _ rfl) ?_; clear hF a; intro v w' a hv hF
  obtain ⟨rfl, hw⟩ := hv
  obtain rfl := hw.symm
  have hS' := St.refl hS.inv
  replace hf := hf.st hS'
  replace hX := (hX.st hS').mono hS'.ext.size
  replace hY := (hY.st hS').mono hS'.ext.size
  replace hZ := (hZ.st hS').mono hS'.ext.size
  replace hU := (hU.st hS').mono hS'.ext.size
  replace hV := (hV.st hS').mono hS'.ext.size
  replace hT := (hT.st hS').mono hS'.ext.size
  replace hS := hS.trans hS'
  clear hS'
  refine sv hF (v_pickT rfl rfl) rfl ?_; clear hF a; intro a hF
  refine sv hF (v_move rfl) rfl ?_; clear hF a; intro a hF
  refine svg hF rfl ?_
  refine sv hF (v_move rfl) rfl ?_; clear hF a; intro a hF
  refine svg hF rfl ?_
  refine sv hF (v_move rfl) rfl ?_; clear hF a; intro a hF
  refine svg hF rfl ?_
  refine sc hF rfl rfl rfl en14 rfl (Same4_t B _ _ _ _ _ _ _ _ hS.inv hX hY (len1k (rawM_lens _ _ _)).1 (len1k (rawM_lens _ _ _)).2 rfl) ?_; clear hF a; intro v w' a hv hF
  obtain ⟨rfl, hS'⟩ := hv
  replace hf := hf.st hS'
  replace hX := (hX.st hS').mono hS'.ext.size
  replace hY := (hY.st hS').mono hS'.ext.size
  replace hZ := (hZ.st hS').mono hS'.ext.size
  replace hU := (hU.st hS').mono hS'.ext.size
  replace hV := (hV.st hS').mono hS'.ext.size
  replace hT := (hT.st hS').mono hS'.ext.size
  replace hS := hS.trans hS'
  clear hS'
  refine sv hF (v_pickT rfl rfl) rfl ?_; clear hF a; intro a hF
  refine sv hF (v_move rfl) rfl ?_; clear hF a; intro a hF
  refine svg hF rfl ?_
  refine sv hF (v_move rfl) rfl ?_; clear hF a; intro a hF
  refine svg hF rfl ?_
  refine sv hF (v_move rfl) rfl ?_; clear hF a; intro a hF
  refine svg hF rfl ?_
  refine sc hF rfl rfl rfl en24 rfl (was6_ok (sysM hp k m) _ _ rfl) ?_; clear hF a; intro v w' a hv hF
  obtain ⟨rfl, hw⟩ := hv
  obtain rfl := hw.symm
  have hS' := St.refl hS.inv
  replace hf := hf.st hS'
  replace hX := (hX.st hS').mono hS'.ext.size
  replace hY := (hY.st hS').mono hS'.ext.size
  replace hZ := (hZ.st hS').mono hS'.ext.size
  replace hU := (hU.st hS').mono hS'.ext.size
  replace hV := (hV.st hS').mono hS'.ext.size
  replace hT := (hT.st hS').mono hS'.ext.size
  replace hS := hS.trans hS'
  clear hS'
  refine sv hF (v_pickT rfl rfl) rfl ?_; clear hF a; intro a hF
  refine sv hF (v_move rfl) rfl ?_; clear hF a; intro a hF
  refine svg hF rfl ?_
  refine sv hF (v_move rfl) rfl ?_; clear hF a; intro a hF
  refine svg hF rfl ?_
  refine sv hF (v_move rfl) rfl ?_; clear hF a; intro a hF
  refine svg hF rfl ?_
  refine sc hF rfl rfl rfl en14 rfl (Same4_t B _ _ _ _ _ _ _ _ hS.inv hZ hU (len1k (sysM_lens hp _ _)).1 (len1k (sysM_lens hp _ _)).2 rfl) ?_; clear hF a; intro v w' a hv hF
  obtain ⟨rfl, hS'⟩ := hv
  replace hf := hf.st hS'
  replace hX := (hX.st hS').mono hS'.ext.size
  replace hY := (hY.st hS').mono hS'.ext.size
  replace hZ := (hZ.st hS').mono hS'.ext.size
  replace hU := (hU.st hS').mono hS'.ext.size
  replace hV := (hV.st hS').mono hS'.ext.size
  replace hT := (hT.st hS').mono hS'.ext.size
  replace hS := hS.trans hS'
  clear hS'
  refine sv hF (v_pickT rfl rfl) rfl ?_; clear hF a; intro a hF
  refine sv hF (v_move rfl) rfl ?_; clear hF a; intro a hF
  refine svg hF rfl ?_
  refine sv hF (v_move rfl) rfl ?_; clear hF a; intro a hF
  refine svg hF rfl ?_
  refine sv hF (v_move rfl) rfl ?_; clear hF a; intro a hF
  refine svg hF rfl ?_
  refine sc hF rfl rfl rfl en24 rfl (was6_ok (isalM (some (wb, p)) k m) _ _ rfl) ?_; clear hF a; intro v w' a hv hF
  obtain ⟨rfl, hw⟩ := hv
  obtain rfl := hw.symm
  have hS' := St.refl hS.inv
  replace hf := hf.st hS'
  replace hX := (hX.st hS').mono hS'.ext.size
  replace hY := (hY.st hS').mono hS'.ext.size
  replace hZ := (hZ.st hS').mono hS'.ext.size
  replace hU := (hU.st hS').mono hS'.ext.size
  replace hV := (hV.st hS').mono hS'.ext.size
  replace hT := (hT.st hS').mono hS'.ext.size
  replace hS := hS.trans hS'
  clear hS'
  refine sv hF (v_pickT rfl rfl) rfl ?_; clear hF a; intro a hF
  refine sv hF (v_move rfl) rfl ?_; clear hF a; intro a hF
  refine svg hF rfl ?_
  refine sv hF (v_move rfl) rfl ?_; clear hF a; intro a hF
  refine svg hF rfl ?_
  refine sv hF (v_move rfl) rfl ?_; clear hF a; intro a hF
  refine svg hF rfl ?_
  refine sc hF rfl rfl rfl en14 rfl (Same4_t B _ _ _ _ _ _ _ _ hS.inv hV hT (len1k (isalM_lens _ _ _)).1 (len1k (isalM_lens _ _ _)).2 rfl) ?_; clear hF a; intro v w' a hv hF
  obtain ⟨rfl, hS'⟩ := hv
  replace hf := hf.st hS'
  replace hX := (hX.st hS').mono hS'.ext.size
  replace hY := (hY.st hS').mono hS'.ext.size
  replace hZ := (hZ.st hS').mono hS'.ext.size
  replace hU := (hU.st hS').mono hS'.ext.size
  replace hV := (hV.st hS').mono hS'.ext.size
  replace hT := (hT.st hS').mono hS'.ext.size
  replace hS := hS.trans hS'
  clear hS'
  refine sv hF (v_pickT rfl rfl) rfl ?_; clear hF a; intro a hF
  refine sv hF (v_assign rfl) rfl ?_; clear hF a; intro a hF
  refine WL_nil (hK _ _ ?_)
  clear hK K
  replace hF := hF.sub _ (c_ 6 rfl (n_))
  refine W_ret ?_
  refine ⟨_, _, hF, rfl, ?_⟩
  exact ⟨rfl, hS⟩

end Go.Proofs.YtcnlooajjnghaaaGreat
