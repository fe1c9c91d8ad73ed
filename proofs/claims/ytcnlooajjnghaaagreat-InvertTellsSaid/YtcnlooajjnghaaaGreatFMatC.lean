/- The walks of package matrix: products. -/
import Derived.Test.YtcnlooajjnghaaaGreatFMatB
set_option linter.unusedVariables false
set_option linter.unusedSimpArgs false
namespace Go.Proofs.YtcnlooajjnghaaaGreat
open Go Go.Gam


namespace FxFMatC
theorem en56 : Ent Tryz.prog 56 := ent Tryz.func56 (by kernel_rfl) (by kernel_rfl)
theorem on3 : Gam.One Tryz.prog 3 := by unfold Gam.One; kernel_rfl
theorem sc23 : Scalar Tryz.prog 23 := ⟨_, Tryz.underlying23, by simp, by simp⟩
theorem sc3 : Scalar Tryz.prog 3 := ⟨_, Tryz.underlying3, by simp, by simp⟩
theorem sc30 : Scalar Tryz.prog 30 := ⟨_, Tryz.underlying30, by simp, by simp⟩
theorem sl22 : Sl Tryz.prog 22 23 (.slice none 0 0) 24 := sl_of Tryz.underlying22 rfl (by kernel_rfl)
theorem sl23 : Sl Tryz.prog 23 3 (.int .i64 0) 8 := sl_of Tryz.underlying23 rfl (by kernel_rfl)
theorem sl30 : Sl Tryz.prog 30 23 (.slice none 0 0) 24 := sl_of Tryz.underlying30 rfl (by kernel_rfl)
end FxFMatC
open FxFMatC

set_option maxRecDepth 100000 in
set_option maxHeartbeats 1000000 in
theorem dot_ok (B M1 M2 : Nat) (o : Fq) (fv : Value) (pr : Option Addr) (cr : Nat) (r : List Int) (pc : Option Addr) (cc : Nat) (c : List Int) (w : World) (hI : Inv FDx B w) (hf : Fo FDx B w fv o) (hr : Row FDx B M1 w (.slice pr r.length cr) (zints r)) (hc : Row FDx B M2 w (.slice pc c.length cc) (zints c)) (hrc : r.length = c.length) (hl : r.length ≤ 100000) : Ret Tryz.prog 72 [fv, .slice pr r.length cr, .slice pc c.length cc] w fun v w' => v = .int .i64 (dotN o r c : Int) ∧ St FDx B w w' := by
  refine enter 28 [(0, fv), (1, .slice pr r.length cr), (2, .slice pc c.length cc)] 6 Tryz.func72 rfl rfl rfl rfl rfl ?_; intro a hF
  have hS := St.refl hI
  refine W_sr rfl (fun K hK => ?_)
  refine sv hF (v_assign rfl) rfl ?_; clear hF a; intro a hF
  refine WL_nil (hK _ _ ?_)
  clear hK K
  refine W_sr rfl (fun K hK => ?_)
  refine sv hF (v_assign rfl) rfl ?_; clear hF a; intro a hF
  refine WL_nil (hK _ _ ?_)
  clear hK K
  refine W_seq ?_
  refine W_sr rfl (fun K hK => ?_)
  refine sv hF (v_move rfl) rfl ?_; clear hF a; intro a hF
  refine sv hF (v_lenS rfl sl23 rfl) rfl ?_; clear hF a; intro a hF
  refine sv hF (v_move rfl) rfl ?_; clear hF a; intro a hF
  refine WL_nil (hK _ _ ?_)
  clear hK K
  replace hF := hF.sub _ (c_ 12 rfl (c_ 11 rfl (c_ 10 rfl (c_ 7 rfl (c_ 6 rfl (c_ 0 rfl (c_ 2 rfl (n_))))))))
  refine W_block ?_
  refine W_loop (fun m a w1 => ∃ (i : Nat), Fr 28 [(0, fv), (2, .slice pc c.length cc), (7, .int .i64 (dotP o r c i : Int)), (10, .slice pr r.length cr), (11, .int .i64 (r.length : Int)), (12, .int .i64 (i : Int))] a ∧ (St FDx B w w1) ∧ (Fo FDx B w1 fv o) ∧ (Row FDx B M1 w1 (.slice pr r.length cr) (zints r)) ∧ (Row FDx B M2 w1 (.slice pc c.length cc) (zints c)) ∧ (i ≤ r.length) ∧ (m + i = r.length)) (r.length) ?_ ?_
  · skip
    exact ⟨0, hF.sub _ (c_ 0 rfl (c_ 2 rfl (c_ 7 rfl (c_ 10 rfl (c_ 11 rfl (c_ 12 rfl (n_))))))), hS, hf, hr, hc, by omega, by omega⟩
  · skip
    clear hF
    clear hS hf hr hc
    rintro m a w1 ⟨i, hF, hS, hf, hr, hc, hi, hm⟩
    refine W_sr rfl (fun K hK => ?_)
    refine sv hF (v_lss rfl rfl) rfl ?_; clear hF a; intro a hF
    refine WL_nil (hK _ _ ?_)
    clear hK K
    refine W_seq ?_
    refine W_if hF rfl (fun hc1 => ?_) (fun hc1 => ?_)
    · skip
      try simp only [decide_eq_true_eq, decide_eq_false_iff_not, Bool.not_eq_true', Bool.not_eq_false', Bool.not_true, Bool.not_false] at hc1
      have hlt : i < r.length := by omega
      obtain ⟨x, hx⟩ : ∃ z, r[i]? = some z := ⟨_, List.getElem?_eq_getElem hlt⟩
      obtain ⟨y, hy⟩ : ∃ z, c[i]? = some z := ⟨_, List.getElem?_eq_getElem (by omega)⟩
      obtain ⟨gx, ox, hgx, hkx, -⟩ := hr.kat (zints_at hx)
      obtain ⟨gy, oy, hgy, hky, -⟩ := hc.kat (zints_at hy)
      subst hgx hgy
      have hst := dotP_step (o := o) hx hy
      have hdl := dotN_lt hf (r.take i) (c.take i)
      refine W_skip ?_
      refine W_seq ?_
      refine W_block ?_
      refine W_sr rfl (fun K hK => ?_)
      refine sv hF (v_move rfl) rfl ?_; clear hF a; intro a hF
      refine sv hF (v_ixS sl23 rfl rfl (by omega) (by omega)) rfl ?_; clear hF a; intro a hF
      refine sv hF (v_load sc3 rfl (by first | assumption | (rw [toNat_c]; assumption) | exact KC.c (by assumption) | (rw [toNat_c]; exact KC.c (by assumption)) | exact Box.at (by assumption))) rfl ?_; clear hF a; intro a hF
      refine sv hF (v_assign rfl) rfl ?_; clear hF a; intro a hF
      refine sv hF (v_assign rfl) rfl ?_; clear hF a; intro a hF
      refine WL_nil (hK _ _ ?_)
      clear hK K
      replace hF := hF.sub _ (c_ 9 rfl (c_ 8 rfl (c_ 0 rfl (c_ 2 rfl (c_ 7 rfl (c_ 10 rfl (c_ 11 rfl (c_ 12 rfl (n_)))))))))
      refine W_reg rfl (fun K hK => ?_)
      refine sv hF (v_move rfl) rfl ?_; clear hF a; intro a hF
      refine sv hF (v_move rfl) rfl ?_; clear hF a; intro a hF
      refine sv hF (v_move rfl) rfl ?_; clear hF a; intro a hF
      refine sv hF (v_move rfl) rfl ?_; clear hF a; intro a hF
      refine sv hF (v_move rfl) rfl ?_; clear hF a; intro a hF
      refine sv hF (v_ixS sl23 rfl rfl (by omega) (by omega)) rfl ?_; clear hF a; intro a hF
      refine sv hF (v_load sc3 rfl (by first | assumption | (rw [toNat_c]; assumption) | exact KC.c (by assumption) | (rw [toNat_c]; exact KC.c (by assumption)) | exact Box.at (by assumption))) rfl ?_; clear hF a; intro a hF
      refine sc hF rfl rfl rfl en56 rfl (Mul_gf B o fv x y _ hS.inv hf) ?_; clear hF a; intro v w' a hv hF
      obtain ⟨rfl, hS'⟩ := hv
      replace hf := hf.st hS'
      replace hr := hr.st hS'
      replace hc := hc.st hS'
      replace hS := hS.trans hS'
      clear hS'
      obtain ⟨z, hz, hzl⟩ := gmul_nn hf x y
      rw [hz, Int.toNat_natCast] at hst
      rw [hz] at hF
      refine sv hF ((v_xorN (m := dotP o r c i) (n := z) rfl rfl (fits_i64 (Nat.lt_of_lt_of_le hdl (by decide))) (fits_i64 (by omega))).as (congrArg (fun (q : Nat) => Value.int .i64 (q : Int)) hst.symm)) rfl ?_; clear hF a; intro a hF
      refine sv hF (v_assign rfl) rfl ?_; clear hF a; intro a hF
      refine WL_nil (hK _ _ ?_)
      clear hK K
      replace hF := hF.sub _ (c_ 7 rfl (c_ 0 rfl (c_ 2 rfl (c_ 10 rfl (c_ 11 rfl (c_ 12 rfl (n_)))))))
      refine W_reg rfl (fun K hK => ?_)
      refine sv hF (v_addI rfl rfl (by omega)) rfl ?_; clear hF a; intro a hF
      refine sv hF (v_move rfl) rfl ?_; clear hF a; intro a hF
      refine WL_nil (hK _ _ ?_)
      clear hK K
      exact ⟨m - 1, by omega, i + 1, hF.sub _ (c_ 0 rfl (c_ 2 rfl (c_ 7 rfl (c_ 10 rfl (c_ 11 rfl (c_ 12 rfl (n_))))))), hS, hf, hr, hc, by omega, by omega⟩
    · skip
      try simp only [decide_eq_true_eq, decide_eq_false_iff_not, Bool.not_eq_true', Bool.not_eq_false', Bool.not_true, Bool.not_false] at hc1
      refine W_exit rfl ?_
      refine W_sr rfl (fun K hK => ?_)
      refine sv hF (v_move rfl) rfl ?_; clear hF a; intro a hF
      refine sv hF (v_assign rfl) rfl ?_; clear hF a; intro a hF
      refine WL_nil (hK _ _ ?_)
      clear hK K
      replace hF := hF.sub _ (c_ 6 rfl (c_ 27 rfl (c_ 0 rfl (c_ 2 rfl (c_ 7 rfl (c_ 10 rfl (c_ 11 rfl (c_ 12 rfl (n_)))))))))
      refine W_ret ?_
      refine ⟨_, _, hF, rfl, ?_⟩
      obtain rfl : i = r.length := by omega
      exact ⟨by rw [dotP_all o hrc], hS⟩

set_option maxRecDepth 100000 in
set_option maxHeartbeats 1000000 in
theorem columns_ok (B : Nat) (pmt : Option Addr) (cmt : Nat) (mt : Mtx) (w : World) (hI : Inv FDx B w) : Ret Tryz.prog 71 [.slice pmt mt.length cmt] w fun v w' => ∃ pb, v = .func (.func 85) ([] : List Value).toArray ([.pointer (some ⟨pb, 0, none⟩)] : List Value).toArray ∧ w.heap.size ≤ pb ∧ KC FDx B w' ⟨pb, 0, none⟩ (.slice pmt mt.length cmt) ∧ St FDx B w w' := by
  refine enter 4 [(0, .slice pmt mt.length cmt)] 2 Tryz.func71 rfl rfl rfl rfl rfl ?_; intro a hF
  have hS := St.refl hI
  refine W_sr rfl (fun K hK => ?_)
  refine s_boxN (D := FDx) (B := B) hF rfl (rfl) (by decide) hS.inv rfl ?_; clear hF a; intro w' a hm hI' hbx hsz hF
  replace hS := hS.mb0 hm
  clear hm hI' hsz
  have hkb := hbx.kc
  clear hbx
  refine sv hF (v_assign rfl) rfl ?_; clear hF a; intro a hF
  refine WL_nil (hK _ _ ?_)
  clear hK K
  replace hF := hF.sub _ (c_ 2 rfl (c_ 1 rfl (n_)))
  refine W_sr rfl (fun K hK => ?_)
  refine sv hF (v_mkf (cs := [.tmp 1]) (vs := [.pointer (some ⟨w.heap.size, 0, none⟩)]) rfl) rfl ?_; clear hF a; intro a hF
  refine sv hF (v_assign rfl) rfl ?_; clear hF a; intro a hF
  refine WL_nil (hK _ _ ?_)
  clear hK K
  replace hF := hF.sub _ (c_ 2 rfl (n_))
  refine W_ret ?_
  refine ⟨_, _, hF, rfl, ?_⟩
  exact ⟨w.heap.size, rfl, Nat.le_refl _, hkb, hS⟩

set_option maxRecDepth 100000 in
set_option maxHeartbeats 1000000 in
theorem columns1_ok (B M pb l : Nat) (pmt : Option Addr) (cmt : Nat) (mt : Mtx) (Z : Nat → Prop) (J Jx : Nat → World → Prop) (w0 w : World) (h0S : StZ FDx B Z w0 w) (hk : KC FDx B w ⟨pb, 0, none⟩ (.slice pmt mt.length cmt)) (hA : Mat FDx B M w pmt cmt mt) (hzp : ¬ Z pb) (hzM : ∀ k, k < M → ¬ Z k) (hZ : ∀ k, w0.heap.size ≤ k → Z k) (hMw : M ≤ w0.heap.size) (hwd : ∀ r ∈ mt, r.length = wid mt) (hml : 1 ≤ mt.length ∧ mt.length ≤ 1000) (hwl : wid mt ≤ 1000) (hJs : ∀ i A C, J i A → St FDx B A C → J i C) (hY : ∀ i x v A, ((List.range (wid mt)).map (colAt mt))[i]? = some x → J i A → StZ FDx B Z w0 A → encR FDx B x A v → YieldOk Tryz.prog l v A fun b A' => (b = true ∧ J (i + 1) A' ∧ StZ FDx B Z A A') ∨ (b = false ∧ Jx (i + 1) A')) (h0 : J 0 w) : Ret Tryz.prog 85 [.func (.yield l) #[] #[], .pointer (some ⟨pb, 0, none⟩)] w fun v A' => (J (wid mt) A' ∧ StZ FDx B Z w0 A') ∨ ∃ i, Jx i A' := by
  refine enter0 37 [(0, .func (.yield l) #[] #[]), (1, .pointer (some ⟨pb, 0, none⟩))]  Tryz.func85 rfl rfl rfl rfl rfl ?_; intro a hF
  have hS := h0S
  obtain ⟨r0, hr0⟩ : ∃ r, mt[0]? = some r := ⟨_, List.getElem?_eq_getElem (by omega)⟩
  obtain ⟨g0, o0, pr0, cr0, hg0, hk0, hrow0, hg0M⟩ := hA.row hr0
  have hw0 := wid_at hr0
  refine W_sr rfl (fun K hK => ?_)
  refine sv hF (v_load sc30 rfl hk.c) rfl ?_; clear hF a; intro a hF
  rw [hg0] at hF
  refine sv hF (v_ixS sl30 rfl rfl (by decide) (by omega)) rfl ?_; clear hF a; intro a hF
  refine sv hF (v_load sc23 rfl hk0.c) rfl ?_; clear hF a; intro a hF
  refine sv hF (v_lenS rfl sl23 rfl) rfl ?_; clear hF a; intro a hF
  refine sv hF (v_move rfl) rfl ?_; clear hF a; intro a hF
  refine WL_nil (hK _ _ ?_)
  clear hK K
  replace hF := hF.sub _ (c_ 10 rfl (c_ 9 rfl (c_ 0 rfl (c_ 1 rfl (n_)))))
  rw [← hw0] at hF
  clear hk0 hrow0
  refine W_block ?_
  refine W_loop (fun m a w1 => ∃ (j : Nat), Fr 37 [(0, .func (.yield l) #[] #[]), (1, .pointer (some ⟨pb, 0, none⟩)), (9, .int .i64 (wid mt : Int)), (10, .int .i64 (j : Int))] a ∧ (StZ FDx B Z w0 w1) ∧ (KC FDx B w1 ⟨pb, 0, none⟩ (.slice pmt mt.length cmt)) ∧ (Mat FDx B M w1 pmt cmt mt) ∧ (J j w1) ∧ (j ≤ wid mt) ∧ (m + j = wid mt)) (wid mt) ?_ ?_
  · skip
    exact ⟨0, hF.sub _ (c_ 0 rfl (c_ 1 rfl (c_ 9 rfl (c_ 10 rfl (n_))))), hS, hk, hA, h0, by omega, by omega⟩
  · skip
    clear hF
    clear hS hk hA
    rintro m a w1 ⟨j, hF, hS, hk, hA, hJ, hi, hm⟩
    obtain ⟨wJ, hwJ⟩ : ∃ x, x = w1 := ⟨_, rfl⟩
    rw [← hwJ] at hJ
    have hSJ : St FDx B wJ w1 := by rw [hwJ]; exact St.refl hS.inv
    have hz0 : w0.heap.size ≤ wJ.heap.size := by rw [hwJ]; exact hS.ext.size
    clear hwJ
    refine W_sr rfl (fun K hK => ?_)
    refine sv hF (v_lss rfl rfl) rfl ?_; clear hF a; intro a hF
    refine WL_nil (hK _ _ ?_)
    clear hK K
    refine W_seq ?_
    refine W_if hF rfl (fun hc1 => ?_) (fun hc1 => ?_)
    · skip
      try simp only [decide_eq_true_eq, decide_eq_false_iff_not, Bool.not_eq_true', Bool.not_eq_false', Bool.not_true, Bool.not_false] at hc1
      have hlt : j < wid mt := by omega
      refine W_skip ?_
      refine W_seq ?_
      refine W_block ?_
      refine W_sr rfl (fun K hK => ?_)
      refine sv hF (v_move rfl) rfl ?_; clear hF a; intro a hF
      refine sv hF (v_assign rfl) rfl ?_; clear hF a; intro a hF
      refine WL_nil (hK _ _ ?_)
      clear hK K
      replace hF := hF.sub _ (c_ 3 rfl (c_ 0 rfl (c_ 1 rfl (c_ 9 rfl (c_ 10 rfl (n_))))))
      refine W_sr rfl (fun K hK => ?_)
      refine sv hF (v_load sc30 rfl hk.c) rfl ?_; clear hF a; intro a hF
      refine sv hF (v_lenS rfl sl30 rfl) rfl ?_; clear hF a; intro a hF
      have hszJ := hSJ.ext.size
      obtain ⟨gO, hgO⟩ : ∃ g, g = w1.heap.size := ⟨_, rfl⟩
      refine s_mk (D := FDx) (B := B) (m := mt.length) hF sl23 rfl rfl rfl (by omega) (by simp only [maxLen]; omega) (by decide) hS.inv rfl ?_; clear hF a; intro w' a hm hI' hO hF
      rw [← hgO] at hO hF
      replace hO := hO.le (show wJ.heap.size ≤ gO by omega)
      replace hk := hk.mb hm (by simp)
      replace hA := hA.mb hm (fun _ h => by cases h)
      replace hSJ := hSJ.mb0 hm
      replace hS := hS.mb0 hm
      clear hm hI'
      replace hO := hO.cast (show List.replicate mt.length (Value.int .i64 0) = zints (cfill mt j 0) by rw [cfill_zero]; simp [zints])
      clear hgO hszJ
      refine sv hF (v_assign rfl) rfl ?_; clear hF a; intro a hF
      refine WL_nil (hK _ _ ?_)
      clear hK K
      replace hF := hF.sub _ (c_ 4 rfl (c_ 3 rfl (c_ 0 rfl (c_ 1 rfl (c_ 9 rfl (c_ 10 rfl (n_)))))))
      refine W_seq ?_
      refine W_sr rfl (fun K hK => ?_)
      refine sv hF (v_load sc30 rfl hk.c) rfl ?_; clear hF a; intro a hF
      refine sv hF (v_lenS rfl sl30 rfl) rfl ?_; clear hF a; intro a hF
      refine sv hF (v_move rfl) rfl ?_; clear hF a; intro a hF
      refine WL_nil (hK _ _ ?_)
      clear hK K
      replace hF := hF.sub _ (c_ 18 rfl (c_ 17 rfl (c_ 4 rfl (c_ 3 rfl (c_ 0 rfl (c_ 1 rfl (c_ 9 rfl (c_ 10 rfl (n_)))))))))
      refine W_block ?_
      refine W_loop (fun m2 a w2 => ∃ (i : Nat), Fr 37 [(0, .func (.yield l) #[] #[]), (1, .pointer (some ⟨pb, 0, none⟩)), (3, .int .i64 (j : Int)), (4, .slice (some ⟨gO, 0, none⟩) mt.length mt.length), (9, .int .i64 (wid mt : Int)), (10, .int .i64 (j : Int)), (17, .int .i64 (mt.length : Int)), (18, .int .i64 (i : Int))] a ∧ (StZ FDx B Z w0 w2) ∧ (KC FDx B w2 ⟨pb, 0, none⟩ (.slice pmt mt.length cmt)) ∧ (Mat FDx B M w2 pmt cmt mt) ∧ (St FDx B wJ w2) ∧ (Gam.Own FDx B wJ.heap.size w2 FDx.E (.slice (some ⟨gO, 0, none⟩) mt.length mt.length) (some gO) (zints (cfill mt j i))) ∧ (i ≤ mt.length) ∧ (m2 + i = mt.length)) (mt.length) ?_ ?_
      · skip
        exact ⟨0, hF.sub _ (c_ 0 rfl (c_ 1 rfl (c_ 3 rfl (c_ 4 rfl (c_ 9 rfl (c_ 10 rfl (c_ 17 rfl (c_ 18 rfl (n_))))))))), hS, hk, hA, hSJ, hO, by omega, by omega⟩
      · skip
        clear hF
        clear hS hk hA hSJ hO
        rintro m2 a w2 ⟨i, hF, hS, hk, hA, hSJ, hO, hi2, hm2⟩
        refine W_sr rfl (fun K hK => ?_)
        refine sv hF (v_lss rfl rfl) rfl ?_; clear hF a; intro a hF
        refine WL_nil (hK _ _ ?_)
        clear hK K
        refine W_seq ?_
        refine W_if hF rfl (fun hc2 => ?_) (fun hc2 => ?_)
        · skip
          try simp only [decide_eq_true_eq, decide_eq_false_iff_not, Bool.not_eq_true', Bool.not_eq_false', Bool.not_true, Bool.not_false] at hc2
          have hlt2 : i < mt.length := by omega
          obtain ⟨r, hr⟩ : ∃ r, mt[i]? = some r := ⟨_, List.getElem?_eq_getElem hlt2⟩
          obtain ⟨gr, or_, pr, cr, hgr, hkr, hrow, hgrM⟩ := hA.row hr
          have hrl := hwd r (List.mem_of_getElem? hr)
          obtain ⟨x, hx⟩ : ∃ x, r[j]? = some x := ⟨_, List.getElem?_eq_getElem (by omega)⟩
          obtain ⟨gx, ox, hgx, hkx, -⟩ := hrow.kat (zints_at hx)
          have hcl := cfill_len (j := j) (show i ≤ mt.length by omega)
          subst hgx
          refine W_skip ?_
          refine W_seq ?_
          refine W_block ?_
          refine W_sr rfl (fun K hK => ?_)
          refine sv hF (v_move rfl) rfl ?_; clear hF a; intro a hF
          refine sv hF (v_assign rfl) rfl ?_; clear hF a; intro a hF
          refine WL_nil (hK _ _ ?_)
          clear hK K
          replace hF := hF.sub _ (c_ 5 rfl (c_ 0 rfl (c_ 1 rfl (c_ 3 rfl (c_ 4 rfl (c_ 9 rfl (c_ 10 rfl (c_ 17 rfl (c_ 18 rfl (n_))))))))))
          refine W_reg rfl (fun K hK => ?_)
          refine sv hF (v_move rfl) rfl ?_; clear hF a; intro a hF
          refine sv hF (v_move rfl) rfl ?_; clear hF a; intro a hF
          refine sv hF (v_load sc30 rfl hk.c) rfl ?_; clear hF a; intro a hF
          rw [hgr] at hF
          refine sv hF (v_move rfl) rfl ?_; clear hF a; intro a hF
          refine sv hF (v_ixS sl30 rfl rfl (by omega) (by omega)) rfl ?_; clear hF a; intro a hF
          refine sv hF (v_load sc23 rfl (by rw [toNat_c]; exact hkr.c)) rfl ?_; clear hF a; intro a hF
          refine sv hF (v_move rfl) rfl ?_; clear hF a; intro a hF
          refine sv hF (v_ixS sl23 rfl rfl (by omega) (by omega)) rfl ?_; clear hF a; intro a hF
          refine sv hF (v_load sc3 rfl (by rw [toNat_c]; exact hkx.c)) rfl ?_; clear hF a; intro a hF
          refine sv hF (v_ixS sl23 rfl rfl (by omega) (by omega)) rfl ?_; clear hF a; intro a hF
          refine s_set (D := FDx) (B := B) hF on3 rfl (by rw [toNat_c, zints_length, hcl]; omega) rfl rfl hO (by decide) hS.inv ?_; intro w' hm hI' ho'
          replace hk := hk.mb hm (fun e => hzp (by cases e; exact hZ _ (Nat.le_trans hz0 (hO.lt _ rfl).1)))
          replace hA := hA.mb hm (fun k h => Nat.le_trans (by omega) (hO.lt k h).1)
          replace hSJ := hSJ.mb hm (fun k h => Nat.le_trans (Nat.le_refl _) (hO.lt k h).1)
          replace hS := hS.mb hm (fun k e => ⟨hZ k (by have := (hO.lt k e).1; omega), hO.isrow k e⟩)
          replace hO := ho'
          clear hm hI' ho'
          rw [toNat_c, Nat.zero_add, zints_set, cfill_step hr hx] at hO
          refine WL_nil (hK _ _ ?_)
          clear hK K
          replace hF := hF.sub _ (c_ 0 rfl (c_ 1 rfl (c_ 3 rfl (c_ 4 rfl (c_ 9 rfl (c_ 10 rfl (c_ 17 rfl (c_ 18 rfl (n_)))))))))
          refine W_reg rfl (fun K hK => ?_)
          refine sv hF (v_addI rfl rfl (by omega)) rfl ?_; clear hF a; intro a hF
          refine sv hF (v_move rfl) rfl ?_; clear hF a; intro a hF
          refine WL_nil (hK _ _ ?_)
          clear hK K
          exact ⟨m2 - 1, by omega, i + 1, hF.sub _ (c_ 0 rfl (c_ 1 rfl (c_ 3 rfl (c_ 4 rfl (c_ 9 rfl (c_ 10 rfl (c_ 17 rfl (c_ 18 rfl (n_))))))))), hS, hk, hA, hSJ, hO, by omega, by omega⟩
        · skip
          try simp only [decide_eq_true_eq, decide_eq_false_iff_not, Bool.not_eq_true', Bool.not_eq_false', Bool.not_true, Bool.not_false] at hc2
          refine W_exit rfl ?_
          obtain rfl : i = mt.length := by omega
          rw [cfill_all] at hO
          refine W_srY rfl (fun K hK => ?_)
          refine svI hF rfl (v_move rfl) rfl ?_; clear hF a; intro a hF
          refine svI hF rfl (v_move rfl) rfl ?_; clear hF a; intro a hF
          refine syI hF rfl rfl rfl ((hY j _ _ _ (cols_at hlt) (hJs _ _ _ hJ hSJ) hS ⟨_, hO.le (Nat.zero_le _)⟩).mono (fun b w' hb => ?_))
          rcases hb with ⟨rfl, hJ', hz⟩ | ⟨rfl, hX'⟩
          · skip
            clear hF; intro a hF
            refine WLI_of rfl ?_
            replace hk := hk.stz hz hzp
            replace hA := hA.stz hz hzM
            replace hS := hS.transZ hz
            replace hJ := hJ'
            clear hSJ hO
            refine sv hF (v_not rfl) rfl ?_; clear hF a; intro a hF
            refine WL_nil (hK _ _ ?_)
            clear hK K
            replace hF := hF.sub _ (c_ 35 rfl (c_ 34 rfl (c_ 33 rfl (c_ 32 rfl (c_ 0 rfl (c_ 1 rfl (c_ 3 rfl (c_ 4 rfl (c_ 9 rfl (c_ 10 rfl (c_ 17 rfl (c_ 18 rfl (n_)))))))))))))
            refine W_ifF hF rfl ?_
            refine W_skip ?_
            refine W_reg rfl (fun K hK => ?_)
            refine sv hF (v_addI rfl rfl (by omega)) rfl ?_; clear hF a; intro a hF
            refine sv hF (v_move rfl) rfl ?_; clear hF a; intro a hF
            refine WL_nil (hK _ _ ?_)
            clear hK K
            exact ⟨m - 1, by omega, j + 1, hF.sub _ (c_ 0 rfl (c_ 1 rfl (c_ 9 rfl (c_ 10 rfl (n_))))), hS, hk, hA, hJ, by omega, by omega⟩
          · skip
            clear hF; intro a hF
            refine WLI_of rfl ?_
            clear hSJ hO
            refine sv hF (v_not rfl) rfl ?_; clear hF a; intro a hF
            refine WL_nil (hK _ _ ?_)
            clear hK K
            replace hF := hF.sub _ (c_ 35 rfl (c_ 34 rfl (c_ 33 rfl (c_ 32 rfl (c_ 0 rfl (c_ 1 rfl (c_ 3 rfl (c_ 4 rfl (c_ 9 rfl (c_ 10 rfl (c_ 17 rfl (c_ 18 rfl (n_)))))))))))))
            refine W_ifT hF rfl ?_
            refine W_ret ?_
            refine ⟨_, hF, ?_⟩
            exact .inr ⟨_, hX'⟩
    · skip
      try simp only [decide_eq_true_eq, decide_eq_false_iff_not, Bool.not_eq_true', Bool.not_eq_false', Bool.not_true, Bool.not_false] at hc1
      refine W_exit rfl ?_
      refine ⟨_, hF, ?_⟩
      obtain rfl : j = wid mt := by omega
      exact .inl ⟨hJs _ _ _ hJ hSJ, hS⟩

theorem columns_seq (B M pb : Nat) (pmt : Option Addr) (cmt : Nat) (mt : Mtx) (Z : Nat → Prop) (w0 : World) (hk : KC FDx B w0 ⟨pb, 0, none⟩ (.slice pmt mt.length cmt)) (hA : Mat FDx B M w0 pmt cmt mt) (hzp : ¬ Z pb) (hzM : ∀ k, k < M → ¬ Z k) (hZ : ∀ k, w0.heap.size ≤ k → Z k) (hMw : M ≤ w0.heap.size) (hwd : ∀ r ∈ mt, r.length = wid mt) (hml : 1 ≤ mt.length ∧ mt.length ≤ 1000) (hwl : wid mt ≤ 1000) :
    Seq Tryz.prog FDx B 85 [.pointer (some ⟨pb, 0, none⟩)] (encR FDx B) ((List.range (wid mt)).map (colAt mt)) Z w0 := by
  intro l J Jx W hl hW hJs hY h0
  have := columns1_ok B M pb l pmt cmt mt Z J Jx w0 W hW.z (hk.st hW) (hA.st hW) hzp hzM hZ hMw hwd hml hwl hJs hY h0
  refine Calls.mono this ?_
  rintro e A' ⟨v, rfl, h⟩
  refine ⟨v, rfl, ?_⟩
  rw [show ((List.range (wid mt)).map (colAt mt)).length = wid mt by simp]
  exact h

end Go.Proofs.YtcnlooajjnghaaaGreat
