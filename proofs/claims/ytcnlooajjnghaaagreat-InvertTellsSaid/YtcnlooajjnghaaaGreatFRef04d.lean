/- The walk of gambrelref04: Apply. -/
import Derived.Test.YtcnlooajjnghaaaGreatFRef04c
set_option linter.unusedVariables false
set_option linter.unusedSimpArgs false
namespace Go.Proofs.YtcnlooajjnghaaaGreat
open Go Go.Gam


namespace FxFRef04d
theorem en48 : Ent Tryz.prog 48 := ent Tryz.func48 (by kernel_rfl) (by kernel_rfl)
theorem sc23 : Scalar Tryz.prog 23 := ⟨_, Tryz.underlying23, by simp, by simp⟩
theorem sc3 : Scalar Tryz.prog 3 := ⟨_, Tryz.underlying3, by simp, by simp⟩
theorem sl22 : Sl Tryz.prog 22 23 (.slice none 0 0) 24 := sl_of Tryz.underlying22 rfl (by kernel_rfl)
theorem sl23 : Sl Tryz.prog 23 3 (.int .i64 0) 8 := sl_of Tryz.underlying23 rfl (by kernel_rfl)
end FxFRef04d
open FxFRef04d

set_option maxRecDepth 100000 in
set_option maxHeartbeats 1000000 in
theorem rApply_ok (B M wb p : Nat) (hp : Prm wb p) (pma : Option Addr) (cma : Nat) (ma : Mtx) (pl : Option Addr) (cl : Nat) (l : List Int) (w : World) (hI : Inv FDx B w) (hM : M ≤ w.heap.size) (hAma : Mat FDx B M w pma cma ma) (hlma : ma.length ≤ 1000) (hbma : ∀ r ∈ ma, r.length ≤ 1000) (hx : Row FDx B M w (.slice pl l.length cl) (zints l)) (hxl : l.length ≤ 1000) : Ret Tryz.prog 40 [.int .i64 (wb : Int), .int .u32 (p : Int), .slice pma ma.length cma, .slice pl l.length cl] w fun v w' => ∃ ob u, v = .tuple #[u, .bool (applyM (some (wb, p)) ma l).isSome] ∧ Gam.Own FDx B w.heap.size w' FDx.E u ob (zints ((applyM (some (wb, p)) ma l).getD [])) ∧ St FDx B w w' := by
  refine enter2 55 [(0, .int .i64 (wb : Int)), (1, .int .u32 (p : Int)), (2, .slice pma ma.length cma), (3, .slice pl l.length cl)] 8 9 Tryz.func40 rfl rfl rfl rfl rfl ?_; intro a hF
  have hS := St.refl hI
  refine W_sr rfl (fun K hK => ?_)
  refine sv hF (v_assign rfl) rfl ?_; clear hF a; intro a hF
  refine sv hF (v_assign rfl) rfl ?_; clear hF a; intro a hF
  refine WL_nil (hK _ _ ?_)
  clear hK K
  refine W_sr rfl (fun K hK => ?_)
  refine sv hF (v_assign rfl) rfl ?_; clear hF a; intro a hF
  refine WL_nil (hK _ _ ?_)
  clear hK K
  refine W_seq ?_
  refine W_sr rfl (fun K hK => ?_)
  refine sv hF (v_assign rfl) rfl ?_; clear hF a; intro a hF
  refine WL_nil (hK _ _ ?_)
  clear hK K
  refine W_block ?_
  refine W_loop (fun m a w1 => ∃ (i : Nat) (v10 : Value) (b10 : Option Nat), Fr 55 [(0, .int .i64 (wb : Int)), (1, .int .u32 (p : Int)), (2, .slice pma ma.length cma), (3, .slice pl l.length cl), (10, v10), (11, .int .i64 (i : Int))] a ∧ (St FDx B w w1) ∧ (Mat FDx B M w1 pma cma ma) ∧ (Row FDx B M w1 (.slice pl l.length cl) (zints l)) ∧ (MOwn FDx B w.heap.size 0 w1.heap.size w1 23 v10 b10 (colM (l.take i))) ∧ (i ≤ l.length) ∧ (m + i = l.length)) (l.length) ?_ ?_
  · skip
    exact ⟨0, _, none, hF.sub _ (c_ 0 rfl (c_ 1 rfl (c_ 2 rfl (c_ 3 rfl (c_ 10 rfl (c_ 11 rfl (n_))))))), hS, hAma, hx, MOwn.nil _ _ _ _ _ _ _ (Nat.zero_le _), by omega, by omega⟩
  · skip
    clear hF
    clear hS hAma hx
    rintro m a w1 ⟨i, v10, b10, hF, hS, hAma, hx, hMO, hi, hm⟩
    refine W_seq ?_
    obtain ⟨KM, hKe⟩ : ∃ KM, KM = w1.heap.size := ⟨_, rfl⟩
    rw [← hKe] at hMO
    have hKs : KM ≤ w1.heap.size := by omega
    have hNK : w.heap.size ≤ KM := by have := hS.ext.size; omega
    clear hKe
    refine W_sr rfl (fun K hK => ?_)
    refine sv hF (v_move rfl) rfl ?_; clear hF a; intro a hF
    refine sv hF (v_move rfl) rfl ?_; clear hF a; intro a hF
    refine sv hF (v_lenS rfl sl23 rfl) rfl ?_; clear hF a; intro a hF
    refine sv hF (v_lss rfl rfl) rfl ?_; clear hF a; intro a hF
    refine WL_nil (hK _ _ ?_)
    clear hK K
    replace hF := hF.sub _ (c_ 19 rfl (c_ 0 rfl (c_ 1 rfl (c_ 2 rfl (c_ 3 rfl (c_ 10 rfl (c_ 11 rfl (n_))))))))
    refine W_if hF rfl (fun hc1 => ?_) (fun hc1 => ?_)
    · skip
      try simp only [decide_eq_true_eq, decide_eq_false_iff_not, Bool.not_eq_true', Bool.not_eq_false', Bool.not_true, Bool.not_false] at hc1
      refine W_skip ?_
      refine W_seq ?_
      refine W_block ?_
      obtain ⟨x, hxx⟩ : ∃ z, l[i]? = some z := ⟨_, List.getElem?_eq_getElem (by omega)⟩
      obtain ⟨gx, ox, hgx, hkx, -⟩ := hx.kat (zints_at hxx)
      subst hgx
      refine W_reg rfl (fun K hK => ?_)
      refine sv hF (v_move rfl) rfl ?_; clear hF a; intro a hF
      refine sv hF (v_move rfl) rfl ?_; clear hF a; intro a hF
      refine sv hF (v_move rfl) rfl ?_; clear hF a; intro a hF
      refine sv hF (v_ixS sl23 rfl rfl (by omega) (by omega)) rfl ?_; clear hF a; intro a hF
      refine sv hF (v_load sc3 rfl (by rw [toNat_c]; exact hkx.c)) rfl ?_; clear hF a; intro a hF
      refine s_bs (D := FDx) (B := B) hF sl23 rfl rfl (by decide) (by simp [Value.cells]) (by decide) hS.inv rfl ?_; clear hF a; intro w' a hm hI' hO hF
      replace hAma := hAma.mb hm (fun _ h => by cases h)
      replace hx := hx.mb hm (fun _ h => by cases h)
      replace hMO := hMO.mb0 hm
      replace hKs := Nat.le_trans hKs hm.size
      replace hS := hS.mb0 hm
      clear hm hI'
      refine s_bs (D := FDx) (B := B) hF sl22 rfl rfl (by decide) (by simp [Value.cells]) (by decide) hS.inv rfl ?_; clear hF a; intro w' a hm hI' hL hF
      replace hAma := hAma.mb hm (fun _ h => by cases h)
      replace hx := hx.mb hm (fun _ h => by cases h)
      replace hMO := hMO.mb0 hm
      replace hKs := Nat.le_trans hKs hm.size
      replace hO := hO.mb hm (fun _ _ => by simp)
      replace hS := hS.mb0 hm
      clear hm hI'
      replace hMO := hMO.up hKs
      clear hKs
      refine s_appM (D := FDx) (B := B) hF rfl sl22 rfl rfl hMO hL (.of (r := [x]) hO (Nat.zero_le _)) rfl rfl (by rw [colM_length]; simp; omega) (hS.ext.size) (by decide) (by decide) hS.inv rfl ?_; clear hF a; intro v' b' w' a ho' hm hI' hF
      replace hAma := hAma.mb hm (fun k h => Nat.le_trans (by omega) (hMO.lt k h).1)
      replace hx := hx.mb hm (fun k h => Nat.le_trans (by omega) (hMO.lt k h).1)
      replace hS := hS.mb hm (fun k h => (hMO.lt k h).1)
      have hKm := hm.size
      replace hMO := ho'
      clear hm hI' ho' hL
      refine sv hF (v_assign rfl) rfl ?_; clear hF a; intro a hF
      refine WL_nil (hK _ _ ?_)
      clear hK K
      replace hF := hF.sub _ (c_ 10 rfl (c_ 0 rfl (c_ 1 rfl (c_ 2 rfl (c_ 3 rfl (c_ 11 rfl (n_)))))))
      refine W_reg rfl (fun K hK => ?_)
      refine sv hF (v_move rfl) rfl ?_; clear hF a; intro a hF
      refine sv hF (v_addI rfl rfl (by omega)) rfl ?_; clear hF a; intro a hF
      refine sv hF (v_assign rfl) rfl ?_; clear hF a; intro a hF
      refine WL_nil (hK _ _ ?_)
      clear hK K
      exact ⟨m - 1, by omega, i + 1, _, _, hF.sub _ (c_ 0 rfl (c_ 1 rfl (c_ 2 rfl (c_ 3 rfl (c_ 10 rfl (c_ 11 rfl (n_))))))), hS, hAma, hx, (hMO.up hKm).cast (colM_snoc hxx).symm, by omega, by omega⟩
    · skip
      try simp only [decide_eq_true_eq, decide_eq_false_iff_not, Bool.not_eq_true', Bool.not_eq_false', Bool.not_true, Bool.not_false] at hc1
      obtain rfl : i = l.length := by omega
      rw [List.take_length] at hMO
      obtain ⟨sC, cC, rfl, hAC⟩ := hMO.mat (by decide) (Nat.zero_le _)
      clear hMO
      have hcl := colM_length l
      refine W_exit rfl ?_
      refine W_sr rfl (fun K hK => ?_)
      refine sv hF (v_move rfl) rfl ?_; clear hF a; intro a hF
      refine sv hF (v_move rfl) rfl ?_; clear hF a; intro a hF
      refine sv hF (v_move rfl) rfl ?_; clear hF a; intro a hF
      refine sv hF (v_move rfl) rfl ?_; clear hF a; intro a hF
      refine sc hF rfl rfl rfl en48 rfl (rMulM_ok B _ wb p hp _ cma ma _ cC (colM l) _ hS.inv (Nat.le_refl _) (hAma.mono (by have := hS.ext.size; omega)) hlma hbma hAC (by omega) (fun r hr => by have := colM_one r hr; omega)) ?_; clear hF a; intro v w' a hv hF
      obtain ⟨ob, u, rfl, hMP, hS'⟩ := hv
      replace hS := hS.trans hS'
      clear hS'
      refine sv hF (v_move rfl) rfl ?_; clear hF a; intro a hF
      refine sv hF (v_ext rfl rfl) rfl ?_; clear hF a; intro a hF
      refine sv hF (v_ext rfl rfl) rfl ?_; clear hF a; intro a hF
      refine sv hF (v_assign rfl) rfl ?_; clear hF a; intro a hF
      refine sv hF (v_assign rfl) rfl ?_; clear hF a; intro a hF
      refine WL_nil (hK _ _ ?_)
      clear hK K
      replace hF := hF.sub _ (c_ 13 rfl (c_ 12 rfl (c_ 37 rfl (c_ 36 rfl (c_ 30 rfl (c_ 35 rfl (c_ 34 rfl (c_ 33 rfl (c_ 32 rfl (c_ 31 rfl (c_ 0 rfl (c_ 1 rfl (c_ 2 rfl (c_ 3 rfl (c_ 10 rfl (c_ 11 rfl (n_)))))))))))))))))
      obtain ⟨sm, cm, rfl, hAm⟩ := hMP.mat (by decide) (Nat.zero_le _)
      clear hMP
      obtain ⟨MM, hMMe⟩ : ∃ n, n = w'.heap.size := ⟨_, rfl⟩
      rw [← hMMe] at hAm
      have hMM : MM ≤ w'.heap.size := by omega
      have hNM : w.heap.size ≤ MM := by have := hS.ext.size; omega
      clear hMMe
      have hone := mulM_one' (o := (some (wb, p))) (a := ma) (l := l)
      refine W_sr rfl (fun K hK => ?_)
      refine sv hF (v_assign rfl) rfl ?_; clear hF a; intro a hF
      refine WL_nil (hK _ _ ?_)
      clear hK K
      refine W_seq ?_
      refine W_sr rfl (fun K hK => ?_)
      refine sv hF (v_assign rfl) rfl ?_; clear hF a; intro a hF
      refine WL_nil (hK _ _ ?_)
      clear hK K
      refine W_block ?_
      refine W_loop (fun m2 a w2 => ∃ (j : Nat) (v14 : Value) (b14 : Option Nat), Fr 55 [(12, .slice sm ((mulM (some (wb, p)) ma (colM l)).getD []).length cm), (13, .bool (mulM (some (wb, p)) ma (colM l)).isSome), (14, v14), (15, .int .i64 (j : Int))] a ∧ (St FDx B w w2) ∧ (Mat FDx B MM w2 sm cm ((mulM (some (wb, p)) ma (colM l)).getD [])) ∧ (MM ≤ w2.heap.size) ∧ (Gam.Own FDx B MM w2 FDx.E v14 b14 (zints ((((mulM (some (wb, p)) ma (colM l)).getD []).take j).map fun r => r.getD 0 0))) ∧ (j ≤ ((mulM (some (wb, p)) ma (colM l)).getD []).length) ∧ (m2 + j = ((mulM (some (wb, p)) ma (colM l)).getD []).length)) (((mulM (some (wb, p)) ma (colM l)).getD []).length) ?_ ?_
      · skip
        exact ⟨0, _, none, hF.sub _ (c_ 12 rfl (c_ 13 rfl (c_ 14 rfl (c_ 15 rfl (n_))))), hS, hAm, hMM, Gam.Own.nil _ _ _ _ _, by omega, by omega⟩
      · skip
        clear hF
        clear hS hAm hMM
        rintro m2 a w2 ⟨j, v14, b14, hF, hS, hAm, hMM, hQ, hj, hm2⟩
        refine W_seq ?_
        refine W_sr rfl (fun K hK => ?_)
        refine sv hF (v_move rfl) rfl ?_; clear hF a; intro a hF
        refine sv hF (v_move rfl) rfl ?_; clear hF a; intro a hF
        refine sv hF (v_lenS rfl sl22 rfl) rfl ?_; clear hF a; intro a hF
        refine sv hF (v_lss rfl rfl) rfl ?_; clear hF a; intro a hF
        refine WL_nil (hK _ _ ?_)
        clear hK K
        refine W_if hF rfl (fun hc2 => ?_) (fun hc2 => ?_)
        · skip
          try simp only [decide_eq_true_eq, decide_eq_false_iff_not, Bool.not_eq_true', Bool.not_eq_false', Bool.not_true, Bool.not_false] at hc2
          refine W_skip ?_
          refine W_seq ?_
          refine W_block ?_
          obtain ⟨s, hs⟩ : ∃ z, ((mulM (some (wb, p)) ma (colM l)).getD [])[j]? = some z := ⟨_, List.getElem?_eq_getElem (by omega)⟩
          obtain ⟨gm, om, ps, cs, hgm, hks, hrows, -⟩ := hAm.row hs
          subst hgm
          have hsl := hone.2 s (List.mem_of_getElem? hs)
          obtain ⟨y, hy⟩ : ∃ z, s[0]? = some z := ⟨_, List.getElem?_eq_getElem (by omega)⟩
          obtain ⟨gy, oy, hgy, hky, -⟩ := hrows.kat (zints_at hy)
          subst hgy
          refine W_reg rfl (fun K hK => ?_)
          refine sv hF (v_move rfl) rfl ?_; clear hF a; intro a hF
          refine sv hF (v_move rfl) rfl ?_; clear hF a; intro a hF
          refine sv hF (v_move rfl) rfl ?_; clear hF a; intro a hF
          refine sv hF (v_ixS sl22 rfl rfl (by omega) (by omega)) rfl ?_; clear hF a; intro a hF
          refine sv hF (v_load sc23 rfl (by rw [toNat_c]; exact hks.c)) rfl ?_; clear hF a; intro a hF
          refine sv hF (v_ixS sl23 rfl rfl (by decide) (by omega)) rfl ?_; clear hF a; intro a hF
          refine sv hF (v_load sc3 rfl (by exact hky.c)) rfl ?_; clear hF a; intro a hF
          refine s_bs (D := FDx) (B := B) hF sl23 rfl rfl (by decide) (by simp [Value.cells]) (by decide) hS.inv rfl ?_; clear hF a; intro w' a hm hI' hL hF
          replace hAm := hAm.mb hm (fun _ h => by cases h)
          replace hMM := Nat.le_trans hMM hm.size
          replace hQ := hQ.mb hm (fun _ _ => by simp)
          replace hS := hS.mb0 hm
          clear hm hI'
          refine s_app (D := FDx) (B := B) hF rfl sl23 rfl rfl hQ (hL.row (by decide)) (by simp [Value.oneCell']) (by simp; omega) (by simp [maxLen]; omega) (hMM) (by decide) hS.inv rfl ?_; clear hF a; intro v' b' w' a ho' hm hI' hb' hF
          replace hAm := hAm.mb hm (fun k h => Nat.le_trans (by omega) (hQ.lt k h).1)
          replace hMM := Nat.le_trans hMM hm.size
          replace hS := hS.mb hm (fun k h => Nat.le_trans (hNM) (hQ.lt k h).1)
          replace hQ := ho'
          clear hm hI' ho'
          refine sv hF (v_assign rfl) rfl ?_; clear hF a; intro a hF
          refine WL_nil (hK _ _ ?_)
          clear hK K
          refine W_reg rfl (fun K hK => ?_)
          refine sv hF (v_move rfl) rfl ?_; clear hF a; intro a hF
          refine sv hF (v_addI rfl rfl (by omega)) rfl ?_; clear hF a; intro a hF
          refine sv hF (v_assign rfl) rfl ?_; clear hF a; intro a hF
          refine WL_nil (hK _ _ ?_)
          clear hK K
          exact ⟨m2 - 1, by omega, j + 1, _, _, hF.sub _ (c_ 12 rfl (c_ 13 rfl (c_ 14 rfl (c_ 15 rfl (n_))))), hS, hAm, hMM, hQ.cast (by rw [map_snoc hs, getD_at hy]; simp [zints]), by omega, by omega⟩
        · skip
          try simp only [decide_eq_true_eq, decide_eq_false_iff_not, Bool.not_eq_true', Bool.not_eq_false', Bool.not_true, Bool.not_false] at hc2
          refine W_exit rfl ?_
          refine W_sr rfl (fun K hK => ?_)
          refine sv hF (v_move rfl) rfl ?_; clear hF a; intro a hF
          refine sv hF (v_move rfl) rfl ?_; clear hF a; intro a hF
          refine sv hF (v_assign rfl) rfl ?_; clear hF a; intro a hF
          refine sv hF (v_assign rfl) rfl ?_; clear hF a; intro a hF
          refine WL_nil (hK _ _ ?_)
          clear hK K
          refine W_ret ?_
          refine ⟨_, _, _, hF, rfl, rfl, ?_⟩
          obtain rfl : j = ((mulM (some (wb, p)) ma (colM l)).getD []).length := by omega
          rw [List.take_length] at hQ
          exact ⟨_, _, by rw [applyM_some], (hQ.le hNM).cast (by rw [applyM_getD]), hS⟩

end Go.Proofs.YtcnlooajjnghaaaGreat
