/- The walks of package matrix: whether rows are a matrix; rows copied; the identity. -/
import Derived.Test.YtcnlooajjnghaaaGreatFGfb
import Derived.Test.YtcnlooajjnghaaaGreatGMat
set_option linter.unusedVariables false
set_option linter.unusedSimpArgs false
namespace Go.Proofs.YtcnlooajjnghaaaGreat
open Go Go.Gam


namespace FxFMatA
theorem en35 : Ent Tryz.prog 35 := ent Tryz.func35 (by kernel_rfl) (by kernel_rfl)
theorem en37 : Ent Tryz.prog 37 := ent Tryz.func37 (by kernel_rfl) (by kernel_rfl)
theorem en54 : Ent Tryz.prog 54 := ent Tryz.func54 (by kernel_rfl) (by kernel_rfl)
theorem en57 : Ent Tryz.prog 57 := ent Tryz.func57 (by kernel_rfl) (by kernel_rfl)
theorem en64 : Ent Tryz.prog 64 := ent Tryz.func64 (by kernel_rfl) (by kernel_rfl)
theorem en67 : Ent Tryz.prog 67 := ent Tryz.func67 (by kernel_rfl) (by kernel_rfl)
theorem sc23 : Scalar Tryz.prog 23 := ⟨_, Tryz.underlying23, by simp, by simp⟩
theorem sc26 : Scalar Tryz.prog 26 := ⟨_, Tryz.underlying26, by simp, by simp⟩
theorem sc3 : Scalar Tryz.prog 3 := ⟨_, Tryz.underlying3, by simp, by simp⟩
theorem sc30 : Scalar Tryz.prog 30 := ⟨_, Tryz.underlying30, by simp, by simp⟩
theorem sl22 : Sl Tryz.prog 22 23 (.slice none 0 0) 24 := sl_of Tryz.underlying22 rfl (by kernel_rfl)
theorem sl23 : Sl Tryz.prog 23 3 (.int .i64 0) 8 := sl_of Tryz.underlying23 rfl (by kernel_rfl)
theorem sl30 : Sl Tryz.prog 30 23 (.slice none 0 0) 24 := sl_of Tryz.underlying30 rfl (by kernel_rfl)
end FxFMatA
open FxFMatA

set_option maxRecDepth 100000 in
set_option maxHeartbeats 1000000 in
theorem within_ok (n : Int) (w : World) : Ret Tryz.prog 54 [.int .i64 n] w fun v w' => v = .bool (decide (1 ≤ n ∧ n ≤ 20)) ∧ w' = w := by
  refine enter 9 [(0, .int .i64 n)] 2 Tryz.func54 rfl rfl rfl rfl rfl ?_; intro a hF
  refine W_sr rfl (fun K hK => ?_)
  refine sv hF (v_assign rfl) rfl ?_; clear hF a; intro a hF
  refine WL_nil (hK _ _ ?_)
  clear hK K
  refine W_sr rfl (fun K hK => ?_)
  refine sv hF (v_move rfl) rfl ?_; clear hF a; intro a hF
  refine sb hF (v_geq rfl rfl) rfl ?_ ?_
  · clear hF a; intro hc1 a hF
    try simp only [decide_eq_true_eq, decide_eq_false_iff_not, Bool.not_eq_true', Bool.not_eq_false', Bool.not_true, Bool.not_false] at hc1
    refine sv hF (v_move rfl) rfl ?_; clear hF a; intro a hF
    refine svg hF rfl ?_
    refine sv hF (v_move rfl) rfl ?_; clear hF a; intro a hF
    refine svg hF rfl ?_
    refine sv hF (v_leq rfl rfl) rfl ?_; clear hF a; intro a hF
    refine sv hF (v_pickT rfl rfl) rfl ?_; clear hF a; intro a hF
    refine sv hF (v_assign rfl) rfl ?_; clear hF a; intro a hF
    refine WL_nil (hK _ _ ?_)
    clear hK K
    replace hF := hF.sub _ (c_ 2 rfl (n_))
    refine W_ret ?_
    refine ⟨_, _, hF, rfl, ?_⟩
    exact ⟨by congr 1; first | (rw [decide_eq_decide]; omega) | (symm; rw [decide_eq_false_iff_not]; omega) | (symm; rw [decide_eq_true_iff]; omega), rfl⟩
  · clear hF a; intro hc1 a hF
    try simp only [decide_eq_true_eq, decide_eq_false_iff_not, Bool.not_eq_true', Bool.not_eq_false', Bool.not_true, Bool.not_false] at hc1
    refine sv hF (v_move rfl) rfl ?_; clear hF a; intro a hF
    refine svn hF rfl rfl rfl ?_; clear hF a; intro a hF
    refine svn hF rfl rfl rfl ?_; clear hF a; intro a hF
    refine sv hF (v_pickF rfl rfl) rfl ?_; clear hF a; intro a hF
    refine sv hF (v_assign rfl) rfl ?_; clear hF a; intro a hF
    refine WL_nil (hK _ _ ?_)
    clear hK K
    replace hF := hF.sub _ (c_ 2 rfl (n_))
    refine W_ret ?_
    refine ⟨_, _, hF, rfl, ?_⟩
    exact ⟨by congr 1; first | (rw [decide_eq_decide]; omega) | (symm; rw [decide_eq_false_iff_not]; omega) | (symm; rw [decide_eq_true_iff]; omega), rfl⟩

set_option maxRecDepth 100000 in
set_option maxHeartbeats 1000000 in
theorem May11_ok (B : Nat) (o : Fq) (fv : Value) (pf : Nat) (x : Int) (w : World) (hI : Inv FDx B w) (hf : Fo FDx B w fv o) (hk : KC FDx B w ⟨pf, 0, none⟩ fv) : Ret Tryz.prog 66 [.int .i64 x, .pointer (some ⟨pf, 0, none⟩)] w fun v w' => v = .bool (!inF o x) ∧ St FDx B w w' := by
  refine enter 12 [(0, .int .i64 x), (1, .pointer (some ⟨pf, 0, none⟩))] 3 Tryz.func66 rfl rfl rfl rfl rfl ?_; intro a hF
  have hS := St.refl hI
  refine W_sr rfl (fun K hK => ?_)
  refine sv hF (v_assign rfl) rfl ?_; clear hF a; intro a hF
  refine WL_nil (hK _ _ ?_)
  clear hK K
  refine W_sr rfl (fun K hK => ?_)
  refine sv hF (v_move rfl) rfl ?_; clear hF a; intro a hF
  refine sb hF (v_lss rfl rfl) rfl ?_ ?_
  · clear hF a; intro hc1 a hF
    try simp only [decide_eq_true_eq, decide_eq_false_iff_not, Bool.not_eq_true', Bool.not_eq_false', Bool.not_true, Bool.not_false] at hc1
    refine sv hF (v_move rfl) rfl ?_; clear hF a; intro a hF
    refine svn hF rfl rfl rfl ?_; clear hF a; intro a hF
    refine svn hF rfl rfl rfl ?_; clear hF a; intro a hF
    refine svn hF rfl rfl rfl ?_; clear hF a; intro a hF
    refine svn hF rfl rfl rfl ?_; clear hF a; intro a hF
    refine sv hF (v_pickT rfl rfl) rfl ?_; clear hF a; intro a hF
    refine sv hF (v_assign rfl) rfl ?_; clear hF a; intro a hF
    refine WL_nil (hK _ _ ?_)
    clear hK K
    replace hF := hF.sub _ (c_ 3 rfl (n_))
    refine W_ret ?_
    refine ⟨_, _, hF, rfl, ?_⟩
    exact ⟨by congr 1; unfold inF; first | (symm; rw [Bool.not_eq_true', decide_eq_false_iff_not]; omega) | (rw [← decide_not, decide_eq_decide]; omega), hS⟩
  · clear hF a; intro hc1 a hF
    try simp only [decide_eq_true_eq, decide_eq_false_iff_not, Bool.not_eq_true', Bool.not_eq_false', Bool.not_true, Bool.not_false] at hc1
    refine sv hF (v_move rfl) rfl ?_; clear hF a; intro a hF
    refine svg hF rfl ?_
    refine sv hF (v_move rfl) rfl ?_; clear hF a; intro a hF
    refine svg hF rfl ?_
    refine sv hF (v_load sc26 rfl (by first | assumption | (rw [toNat_c]; assumption) | exact KC.c (by assumption) | (rw [toNat_c]; exact KC.c (by assumption)) | exact Box.at (by assumption))) rfl ?_; clear hF a; intro a hF
    refine svg hF rfl ?_
    refine sc hF rfl rfl rfl en37 rfl (Size_ok B o fv _ hf) ?_; clear hF a; intro v w' a hv hF
    obtain ⟨rfl, hw⟩ := hv
    obtain rfl := hw.symm
    have hS' := St.refl hS.inv
    replace hS := hS.trans hS'
    clear hS'
    refine svg hF rfl ?_
    refine sv hF (v_geq rfl rfl) rfl ?_; clear hF a; intro a hF
    refine sv hF (v_pickF rfl rfl) rfl ?_; clear hF a; intro a hF
    refine sv hF (v_assign rfl) rfl ?_; clear hF a; intro a hF
    refine WL_nil (hK _ _ ?_)
    clear hK K
    replace hF := hF.sub _ (c_ 3 rfl (n_))
    refine W_ret ?_
    refine ⟨_, _, hF, rfl, ?_⟩
    exact ⟨by congr 1; unfold inF; first | (symm; rw [Bool.not_eq_true', decide_eq_false_iff_not]; omega) | (rw [← decide_not, decide_eq_decide]; omega), hS⟩

set_option maxRecDepth 100000 in
set_option maxHeartbeats 1000000 in
theorem IdxI_ok (B M : Nat) (g : FuncId) (lb : List Value) (p : Int → Bool) (pxs : Option Addr) (cxs : Nat) (xs : List Int) (w : World) (hI : Inv FDx B w) (hx : Row FDx B M w (.slice pxs xs.length cxs) (zints xs)) (hl : xs.length ≤ maxLen) (eg : Ent Tryz.prog g) (hc : ∀ x ∈ xs, ∀ w1, St FDx B w w1 → Ret Tryz.prog g (.int .i64 x :: lb) w1 fun v w' => v = .bool (p x) ∧ St FDx B w1 w') : Ret Tryz.prog 67 [.slice pxs xs.length cxs, .func (.func g) ([] : List Value).toArray (lb : List Value).toArray] w fun v w' => v = .int .i64 (idxZ p xs) ∧ St FDx B w w' := by
  refine enter 19 [(0, .slice pxs xs.length cxs), (1, .func (.func g) ([] : List Value).toArray (lb : List Value).toArray)] 4 Tryz.func67 rfl rfl rfl rfl rfl ?_; intro a hF
  have hS := St.refl hI
  have hl2 := hl
  simp only [maxLen] at hl2
  refine W_sr rfl (fun K hK => ?_)
  refine sv hF (v_assign rfl) rfl ?_; clear hF a; intro a hF
  refine WL_nil (hK _ _ ?_)
  clear hK K
  refine W_seq ?_
  refine W_sr rfl (fun K hK => ?_)
  refine sv hF (v_move rfl) rfl ?_; clear hF a; intro a hF
  refine sv hF (v_lenS rfl sl23 rfl) rfl ?_; clear hF a; intro a hF
  refine sv hF (v_move rfl) rfl ?_; clear hF a; intro a hF
  refine WL_nil (hK _ _ ?_)
  clear hK K
  replace hF := hF.sub _ (c_ 8 rfl (c_ 7 rfl (c_ 4 rfl (c_ 0 rfl (c_ 1 rfl (n_))))))
  refine W_block ?_
  refine W_loop (fun m a w1 => ∃ (i : Nat), Fr 19 [(0, .slice pxs xs.length cxs), (1, .func (.func g) ([] : List Value).toArray (lb : List Value).toArray), (7, .int .i64 (xs.length : Int)), (8, .int .i64 (i : Int))] a ∧ (St FDx B w w1) ∧ (Row FDx B M w1 (.slice pxs xs.length cxs) (zints xs)) ∧ (i ≤ xs.length) ∧ (∀ y ∈ xs.take i, p y = false) ∧ (m + i = xs.length)) (xs.length) ?_ ?_
  · skip
    exact ⟨0, hF.sub _ (c_ 0 rfl (c_ 1 rfl (c_ 7 rfl (c_ 8 rfl (n_))))), hS, hx, by omega, by simp, by omega⟩
  · skip
    clear hF
    clear hS hx
    rintro m a w1 ⟨i, hF, hS, hx, hi, hn, hm⟩
    refine W_sr rfl (fun K hK => ?_)
    refine sv hF (v_lss rfl rfl) rfl ?_; clear hF a; intro a hF
    refine WL_nil (hK _ _ ?_)
    clear hK K
    refine W_seq ?_
    refine W_if hF rfl (fun hc1 => ?_) (fun hc1 => ?_)
    · skip
      try simp only [decide_eq_true_eq, decide_eq_false_iff_not, Bool.not_eq_true', Bool.not_eq_false', Bool.not_true, Bool.not_false] at hc1
      have hlt : i < xs.length := by omega
      obtain ⟨z, hz⟩ : ∃ z, xs[i]? = some z := ⟨_, List.getElem?_eq_getElem hlt⟩
      obtain ⟨gx, ox, hgx, hkc, -⟩ := hx.kat (zints_at hz)
      subst hgx
      refine W_skip ?_
      refine W_seq ?_
      refine W_block ?_
      refine W_sr rfl (fun K hK => ?_)
      refine sv hF (v_move rfl) rfl ?_; clear hF a; intro a hF
      refine sv hF (v_assign rfl) rfl ?_; clear hF a; intro a hF
      refine WL_nil (hK _ _ ?_)
      clear hK K
      replace hF := hF.sub _ (c_ 5 rfl (c_ 0 rfl (c_ 1 rfl (c_ 7 rfl (c_ 8 rfl (n_))))))
      refine W_sr rfl (fun K hK => ?_)
      refine sv hF (v_move rfl) rfl ?_; clear hF a; intro a hF
      refine sv hF (v_move rfl) rfl ?_; clear hF a; intro a hF
      refine sv hF (v_move rfl) rfl ?_; clear hF a; intro a hF
      refine sv hF (v_ixS sl23 rfl rfl (by omega) (by omega)) rfl ?_; clear hF a; intro a hF
      refine sv hF (v_load sc3 rfl (by first | assumption | (rw [toNat_c]; assumption) | exact KC.c (by assumption) | (rw [toNat_c]; exact KC.c (by assumption)) | exact Box.at (by assumption))) rfl ?_; clear hF a; intro a hF
      refine sc hF rfl rfl rfl eg rfl (hc z (List.mem_of_getElem? hz) _ hS) ?_; clear hF a; intro v w' a hv hF
      obtain ⟨rfl, hS'⟩ := hv
      replace hx := hx.st hS'
      replace hS := hS.trans hS'
      clear hS'
      refine WL_nil (hK _ _ ?_)
      clear hK K
      replace hF := hF.sub _ (c_ 16 rfl (c_ 5 rfl (c_ 0 rfl (c_ 1 rfl (c_ 7 rfl (c_ 8 rfl (n_)))))))
      refine W_if hF rfl (fun hc2 => ?_) (fun hc2 => ?_)
      · skip
        try simp only [decide_eq_true_eq, decide_eq_false_iff_not, Bool.not_eq_true', Bool.not_eq_false', Bool.not_true, Bool.not_false] at hc2
        refine W_sr rfl (fun K hK => ?_)
        refine sv hF (v_move rfl) rfl ?_; clear hF a; intro a hF
        refine sv hF (v_assign rfl) rfl ?_; clear hF a; intro a hF
        refine WL_nil (hK _ _ ?_)
        clear hK K
        replace hF := hF.sub _ (c_ 4 rfl (c_ 0 rfl (c_ 1 rfl (c_ 7 rfl (c_ 8 rfl (n_))))))
        refine W_ret ?_
        refine ⟨_, _, hF, rfl, ?_⟩
        exact ⟨by rw [idxZ_at hn hz hc2], hS⟩
      · skip
        try simp only [decide_eq_true_eq, decide_eq_false_iff_not, Bool.not_eq_true', Bool.not_eq_false', Bool.not_true, Bool.not_false] at hc2
        refine W_skip ?_
        refine W_reg rfl (fun K hK => ?_)
        refine sv hF (v_addI rfl rfl (by omega)) rfl ?_; clear hF a; intro a hF
        refine sv hF (v_move rfl) rfl ?_; clear hF a; intro a hF
        refine WL_nil (hK _ _ ?_)
        clear hK K
        replace hF := hF.sub _ (c_ 8 rfl (c_ 18 rfl (c_ 0 rfl (c_ 1 rfl (c_ 7 rfl (n_))))))
        exact ⟨m - 1, by omega, i + 1, hF.sub _ (c_ 0 rfl (c_ 1 rfl (c_ 7 rfl (c_ 8 rfl (n_))))), hS, hx, by omega, take_snoc_no hn hz hc2, by omega⟩
    · skip
      try simp only [decide_eq_true_eq, decide_eq_false_iff_not, Bool.not_eq_true', Bool.not_eq_false', Bool.not_true, Bool.not_false] at hc1
      refine W_exit rfl ?_
      refine W_sr rfl (fun K hK => ?_)
      refine sv hF (v_assign rfl) rfl ?_; clear hF a; intro a hF
      refine WL_nil (hK _ _ ?_)
      clear hK K
      replace hF := hF.sub _ (c_ 4 rfl (c_ 0 rfl (c_ 1 rfl (c_ 7 rfl (c_ 8 rfl (n_))))))
      refine W_ret ?_
      refine ⟨_, _, hF, rfl, ?_⟩
      exact ⟨by rw [idxZ_no (p := p) (xs := xs) (by rw [List.take_of_length_le (by omega)] at hn; exact hn)], hS⟩

set_option maxRecDepth 100000 in
set_option maxHeartbeats 1000000 in
theorem AnyI_ok (B M : Nat) (g : FuncId) (lb : List Value) (p : Int → Bool) (pxs : Option Addr) (cxs : Nat) (xs : List Int) (w : World) (hI : Inv FDx B w) (hx : Row FDx B M w (.slice pxs xs.length cxs) (zints xs)) (hl : xs.length ≤ maxLen) (eg : Ent Tryz.prog g) (hc : ∀ x ∈ xs, ∀ w1, St FDx B w w1 → Ret Tryz.prog g (.int .i64 x :: lb) w1 fun v w' => v = .bool (p x) ∧ St FDx B w1 w') : Ret Tryz.prog 35 [.slice pxs xs.length cxs, .func (.func g) ([] : List Value).toArray (lb : List Value).toArray] w fun v w' => v = .bool (xs.any p) ∧ St FDx B w w' := by
  refine enter 9 [(0, .slice pxs xs.length cxs), (1, .func (.func g) ([] : List Value).toArray (lb : List Value).toArray)] 4 Tryz.func35 rfl rfl rfl rfl rfl ?_; intro a hF
  have hS := St.refl hI
  refine W_sr rfl (fun K hK => ?_)
  refine sv hF (v_assign rfl) rfl ?_; clear hF a; intro a hF
  refine WL_nil (hK _ _ ?_)
  clear hK K
  refine W_sr rfl (fun K hK => ?_)
  refine sv hF (v_move rfl) rfl ?_; clear hF a; intro a hF
  refine sv hF (v_move rfl) rfl ?_; clear hF a; intro a hF
  refine sc hF rfl rfl rfl en67 rfl (IdxI_ok B M g lb p pxs cxs xs _ hS.inv hx hl eg hc) ?_; clear hF a; intro v w' a hv hF
  obtain ⟨rfl, hS'⟩ := hv
  replace hS := hS.trans hS'
  clear hS'
  refine sv hF (v_geq rfl rfl) rfl ?_; clear hF a; intro a hF
  refine sv hF (v_assign rfl) rfl ?_; clear hF a; intro a hF
  refine WL_nil (hK _ _ ?_)
  clear hK K
  replace hF := hF.sub _ (c_ 4 rfl (n_))
  refine W_ret ?_
  refine ⟨_, _, hF, rfl, ?_⟩
  exact ⟨by rw [← idxZ_any], hS⟩

set_option maxRecDepth 100000 in
set_option maxHeartbeats 1000000 in
theorem IdxR_ok (B M : Nat) (g : FuncId) (lb : List Value) (p : List Int → Bool) (pmt : Option Addr) (cmt : Nat) (mt : Mtx) (w : World) (hI : Inv FDx B w) (hA : Mat FDx B M w pmt cmt mt) (hl : mt.length ≤ maxLen) (eg : Ent Tryz.prog g) (hc : ∀ r ∈ mt, ∀ pr cr w1, St FDx B w w1 → Row FDx B M w1 (.slice pr r.length cr) (zints r) → Ret Tryz.prog g (.slice pr r.length cr :: lb) w1 fun v w' => v = .bool (p r) ∧ St FDx B w1 w') : Ret Tryz.prog 57 [.slice pmt mt.length cmt, .func (.func g) ([] : List Value).toArray (lb : List Value).toArray] w fun v w' => v = .int .i64 (idxZ p mt) ∧ St FDx B w w' := by
  refine enter 19 [(0, .slice pmt mt.length cmt), (1, .func (.func g) ([] : List Value).toArray (lb : List Value).toArray)] 4 Tryz.func57 rfl rfl rfl rfl rfl ?_; intro a hF
  have hS := St.refl hI
  have hl2 := hl
  simp only [maxLen] at hl2
  refine W_sr rfl (fun K hK => ?_)
  refine sv hF (v_assign rfl) rfl ?_; clear hF a; intro a hF
  refine WL_nil (hK _ _ ?_)
  clear hK K
  refine W_seq ?_
  refine W_sr rfl (fun K hK => ?_)
  refine sv hF (v_move rfl) rfl ?_; clear hF a; intro a hF
  refine sv hF (v_lenS rfl sl30 rfl) rfl ?_; clear hF a; intro a hF
  refine sv hF (v_move rfl) rfl ?_; clear hF a; intro a hF
  refine WL_nil (hK _ _ ?_)
  clear hK K
  replace hF := hF.sub _ (c_ 8 rfl (c_ 7 rfl (c_ 4 rfl (c_ 0 rfl (c_ 1 rfl (n_))))))
  refine W_block ?_
  refine W_loop (fun m a w1 => ∃ (i : Nat), Fr 19 [(0, .slice pmt mt.length cmt), (1, .func (.func g) ([] : List Value).toArray (lb : List Value).toArray), (7, .int .i64 (mt.length : Int)), (8, .int .i64 (i : Int))] a ∧ (St FDx B w w1) ∧ (Mat FDx B M w1 pmt cmt mt) ∧ (i ≤ mt.length) ∧ (∀ y ∈ mt.take i, p y = false) ∧ (m + i = mt.length)) (mt.length) ?_ ?_
  · skip
    exact ⟨0, hF.sub _ (c_ 0 rfl (c_ 1 rfl (c_ 7 rfl (c_ 8 rfl (n_))))), hS, hA, by omega, by simp, by omega⟩
  · skip
    clear hF
    clear hS hA
    rintro m a w1 ⟨i, hF, hS, hA, hi, hn, hm⟩
    refine W_sr rfl (fun K hK => ?_)
    refine sv hF (v_lss rfl rfl) rfl ?_; clear hF a; intro a hF
    refine WL_nil (hK _ _ ?_)
    clear hK K
    refine W_seq ?_
    refine W_if hF rfl (fun hc1 => ?_) (fun hc1 => ?_)
    · skip
      try simp only [decide_eq_true_eq, decide_eq_false_iff_not, Bool.not_eq_true', Bool.not_eq_false', Bool.not_true, Bool.not_false] at hc1
      have hlt : i < mt.length := by omega
      obtain ⟨r, hr⟩ : ∃ z, mt[i]? = some z := ⟨_, List.getElem?_eq_getElem hlt⟩
      obtain ⟨gx, ox, pr, cr, hgx, hkc, hrow, -⟩ := hA.row hr
      subst hgx
      refine W_skip ?_
      refine W_seq ?_
      refine W_block ?_
      refine W_sr rfl (fun K hK => ?_)
      refine sv hF (v_move rfl) rfl ?_; clear hF a; intro a hF
      refine sv hF (v_assign rfl) rfl ?_; clear hF a; intro a hF
      refine WL_nil (hK _ _ ?_)
      clear hK K
      replace hF := hF.sub _ (c_ 5 rfl (c_ 0 rfl (c_ 1 rfl (c_ 7 rfl (c_ 8 rfl (n_))))))
      refine W_sr rfl (fun K hK => ?_)
      refine sv hF (v_move rfl) rfl ?_; clear hF a; intro a hF
      refine sv hF (v_move rfl) rfl ?_; clear hF a; intro a hF
      refine sv hF (v_move rfl) rfl ?_; clear hF a; intro a hF
      refine sv hF (v_ixS sl30 rfl rfl (by omega) (by omega)) rfl ?_; clear hF a; intro a hF
      refine sv hF (v_load sc23 rfl (by first | assumption | (rw [toNat_c]; assumption) | exact KC.c (by assumption) | (rw [toNat_c]; exact KC.c (by assumption)) | exact Box.at (by assumption))) rfl ?_; clear hF a; intro a hF
      refine sc hF rfl rfl rfl eg rfl (hc r (List.mem_of_getElem? hr) pr cr _ hS hrow) ?_; clear hF a; intro v w' a hv hF
      obtain ⟨rfl, hS'⟩ := hv
      replace hA := hA.st hS'
      replace hS := hS.trans hS'
      clear hS'
      refine WL_nil (hK _ _ ?_)
      clear hK K
      replace hF := hF.sub _ (c_ 16 rfl (c_ 5 rfl (c_ 0 rfl (c_ 1 rfl (c_ 7 rfl (c_ 8 rfl (n_)))))))
      refine W_if hF rfl (fun hc2 => ?_) (fun hc2 => ?_)
      · skip
        try simp only [decide_eq_true_eq, decide_eq_false_iff_not, Bool.not_eq_true', Bool.not_eq_false', Bool.not_true, Bool.not_false] at hc2
        refine W_sr rfl (fun K hK => ?_)
        refine sv hF (v_move rfl) rfl ?_; clear hF a; intro a hF
        refine sv hF (v_assign rfl) rfl ?_; clear hF a; intro a hF
        refine WL_nil (hK _ _ ?_)
        clear hK K
        replace hF := hF.sub _ (c_ 4 rfl (c_ 0 rfl (c_ 1 rfl (c_ 7 rfl (c_ 8 rfl (n_))))))
        refine W_ret ?_
        refine ⟨_, _, hF, rfl, ?_⟩
        exact ⟨by rw [idxZ_at hn hr hc2], hS⟩
      · skip
        try simp only [decide_eq_true_eq, decide_eq_false_iff_not, Bool.not_eq_true', Bool.not_eq_false', Bool.not_true, Bool.not_false] at hc2
        refine W_skip ?_
        refine W_reg rfl (fun K hK => ?_)
        refine sv hF (v_addI rfl rfl (by omega)) rfl ?_; clear hF a; intro a hF
        refine sv hF (v_move rfl) rfl ?_; clear hF a; intro a hF
        refine WL_nil (hK _ _ ?_)
        clear hK K
        replace hF := hF.sub _ (c_ 8 rfl (c_ 18 rfl (c_ 0 rfl (c_ 1 rfl (c_ 7 rfl (n_))))))
        exact ⟨m - 1, by omega, i + 1, hF.sub _ (c_ 0 rfl (c_ 1 rfl (c_ 7 rfl (c_ 8 rfl (n_))))), hS, hA, by omega, take_snoc_no hn hr hc2, by omega⟩
    · skip
      try simp only [decide_eq_true_eq, decide_eq_false_iff_not, Bool.not_eq_true', Bool.not_eq_false', Bool.not_true, Bool.not_false] at hc1
      refine W_exit rfl ?_
      refine W_sr rfl (fun K hK => ?_)
      refine sv hF (v_assign rfl) rfl ?_; clear hF a; intro a hF
      refine WL_nil (hK _ _ ?_)
      clear hK K
      replace hF := hF.sub _ (c_ 4 rfl (c_ 0 rfl (c_ 1 rfl (c_ 7 rfl (c_ 8 rfl (n_))))))
      refine W_ret ?_
      refine ⟨_, _, hF, rfl, ?_⟩
      exact ⟨by rw [idxZ_no (p := p) (xs := mt) (by rw [List.take_of_length_le (by omega)] at hn; exact hn)], hS⟩

set_option maxRecDepth 100000 in
set_option maxHeartbeats 1000000 in
theorem AnyR_ok (B M : Nat) (g : FuncId) (lb : List Value) (p : List Int → Bool) (pmt : Option Addr) (cmt : Nat) (mt : Mtx) (w : World) (hI : Inv FDx B w) (hA : Mat FDx B M w pmt cmt mt) (hl : mt.length ≤ maxLen) (eg : Ent Tryz.prog g) (hc : ∀ r ∈ mt, ∀ pr cr w1, St FDx B w w1 → Row FDx B M w1 (.slice pr r.length cr) (zints r) → Ret Tryz.prog g (.slice pr r.length cr :: lb) w1 fun v w' => v = .bool (p r) ∧ St FDx B w1 w') : Ret Tryz.prog 64 [.slice pmt mt.length cmt, .func (.func g) ([] : List Value).toArray (lb : List Value).toArray] w fun v w' => v = .bool (mt.any p) ∧ St FDx B w w' := by
  refine enter 9 [(0, .slice pmt mt.length cmt), (1, .func (.func g) ([] : List Value).toArray (lb : List Value).toArray)] 4 Tryz.func64 rfl rfl rfl rfl rfl ?_; intro a hF
  have hS := St.refl hI
  refine W_sr rfl (fun K hK => ?_)
  refine sv hF (v_assign rfl) rfl ?_; clear hF a; intro a hF
  refine WL_nil (hK _ _ ?_)
  clear hK K
  refine W_sr rfl (fun K hK => ?_)
  refine sv hF (v_move rfl) rfl ?_; clear hF a; intro a hF
  refine sv hF (v_move rfl) rfl ?_; clear hF a; intro a hF
  refine sc hF rfl rfl rfl en57 rfl (IdxR_ok B M g lb p pmt cmt mt _ hS.inv hA hl eg hc) ?_; clear hF a; intro v w' a hv hF
  obtain ⟨rfl, hS'⟩ := hv
  replace hS := hS.trans hS'
  clear hS'
  refine sv hF (v_geq rfl rfl) rfl ?_; clear hF a; intro a hF
  refine sv hF (v_assign rfl) rfl ?_; clear hF a; intro a hF
  refine WL_nil (hK _ _ ?_)
  clear hK K
  replace hF := hF.sub _ (c_ 4 rfl (n_))
  refine W_ret ?_
  refine ⟨_, _, hF, rfl, ?_⟩
  exact ⟨by rw [← idxZ_any], hS⟩

set_option maxRecDepth 100000 in
set_option maxHeartbeats 1000000 in
theorem May1_ok (B M : Nat) (o : Fq) (fv : Value) (pf pa : Nat) (sa : Option Addr) (ca : Nat) (mt : Mtx) (r0 : List Int) (pr : Option Addr) (cr : Nat) (r : List Int) (w : World) (hI : Inv FDx B w) (hf : Fo FDx B w fv o) (hkf : KC FDx B w ⟨pf, 0, none⟩ fv) (hka : KC FDx B w ⟨pa, 0, none⟩ (.slice sa mt.length ca)) (hA : Mat FDx B M w sa ca mt) (h0 : mt[0]? = some r0) (hr : Row FDx B M w (.slice pr r.length cr) (zints r)) (hrl : r.length ≤ maxLen) : Ret Tryz.prog 65 [.slice pr r.length cr, .pointer (some ⟨pa, 0, none⟩), .pointer (some ⟨pf, 0, none⟩)] w fun v w' => v = .bool ((fun r => decide (r.length ≠ r0.length) || r.any fun x => !inF o x) r) ∧ St FDx B w w' := by
  refine enter 17 [(0, .slice pr r.length cr), (1, .pointer (some ⟨pa, 0, none⟩)), (2, .pointer (some ⟨pf, 0, none⟩))] 4 Tryz.func65 rfl rfl rfl rfl rfl ?_; intro a hF
  have hS := St.refl hI
  obtain ⟨g0, o0, pr0, cr0, hg0, hk0, hrow0, -⟩ := hA.row h0
  subst hg0
  have hml := (List.getElem?_eq_some_iff.1 h0).1
  refine W_sr rfl (fun K hK => ?_)
  refine sv hF (v_assign rfl) rfl ?_; clear hF a; intro a hF
  refine WL_nil (hK _ _ ?_)
  clear hK K
  refine W_sr rfl (fun K hK => ?_)
  refine sv hF (v_move rfl) rfl ?_; clear hF a; intro a hF
  refine sv hF (v_lenS rfl sl23 rfl) rfl ?_; clear hF a; intro a hF
  refine sv hF (v_load sc30 rfl (by first | assumption | (rw [toNat_c]; assumption) | exact KC.c (by assumption) | (rw [toNat_c]; exact KC.c (by assumption)) | exact Box.at (by assumption))) rfl ?_; clear hF a; intro a hF
  refine sv hF (v_ixS sl30 rfl rfl (by decide) (by omega)) rfl ?_; clear hF a; intro a hF
  refine sv hF (v_load sc23 rfl hk0.c) rfl ?_; clear hF a; intro a hF
  refine sv hF (v_lenS rfl sl23 rfl) rfl ?_; clear hF a; intro a hF
  refine sb hF (v_neq rfl rfl) rfl ?_ ?_
  · clear hF a; intro hc1 a hF
    try simp only [decide_eq_true_eq, decide_eq_false_iff_not, Bool.not_eq_true', Bool.not_eq_false', Bool.not_true, Bool.not_false] at hc1
    refine sv hF (v_move rfl) rfl ?_; clear hF a; intro a hF
    refine svn hF rfl rfl rfl ?_; clear hF a; intro a hF
    refine svn hF rfl rfl rfl ?_; clear hF a; intro a hF
    refine svn hF rfl rfl rfl ?_; clear hF a; intro a hF
    refine sv hF (v_pickT rfl rfl) rfl ?_; clear hF a; intro a hF
    refine sv hF (v_assign rfl) rfl ?_; clear hF a; intro a hF
    refine WL_nil (hK _ _ ?_)
    clear hK K
    replace hF := hF.sub _ (c_ 4 rfl (n_))
    refine W_ret ?_
    refine ⟨_, _, hF, rfl, ?_⟩
    have hd : decide (r.length ≠ r0.length) = true := by rw [decide_eq_true_iff]; omega
    exact ⟨by simp only [hd, Bool.true_or], hS⟩
  · clear hF a; intro hc1 a hF
    try simp only [decide_eq_true_eq, decide_eq_false_iff_not, Bool.not_eq_true', Bool.not_eq_false', Bool.not_true, Bool.not_false] at hc1
    refine sv hF (v_move rfl) rfl ?_; clear hF a; intro a hF
    refine svg hF rfl ?_
    refine sv hF (v_move rfl) rfl ?_; clear hF a; intro a hF
    refine svg hF rfl ?_
    refine sv hF (v_mkf (cs := [.tmp 2]) (vs := [.pointer (some ⟨pf, 0, none⟩)]) rfl) rfl ?_; clear hF a; intro a hF
    refine svg hF rfl ?_
    refine sc hF rfl rfl rfl en35 rfl (AnyI_ok B M 66 [.pointer (some ⟨pf, 0, none⟩)] (fun x => !inF o x) pr cr r _ hS.inv hr hrl (ent Tryz.func66 (by kernel_rfl) (by kernel_rfl)) (fun x _ w1 hs => May11_ok B o fv pf x w1 hs.inv (hf.st (hS.trans hs)) (hkf.st (hS.trans hs)))) ?_; clear hF a; intro v w' a hv hF
    obtain ⟨rfl, hS'⟩ := hv
    replace hS := hS.trans hS'
    clear hS'
    refine sv hF (v_pickF rfl rfl) rfl ?_; clear hF a; intro a hF
    refine sv hF (v_assign rfl) rfl ?_; clear hF a; intro a hF
    refine WL_nil (hK _ _ ?_)
    clear hK K
    replace hF := hF.sub _ (c_ 4 rfl (n_))
    refine W_ret ?_
    refine ⟨_, _, hF, rfl, ?_⟩
    have hd : decide (r.length ≠ r0.length) = false := by rw [decide_eq_false_iff_not]; omega
    exact ⟨by simp only [hd, Bool.false_or], hS⟩

set_option maxRecDepth 100000 in
set_option maxHeartbeats 1000000 in
theorem May_ok (B M : Nat) (o : Fq) (fv : Value) (pmt : Option Addr) (cmt : Nat) (mt : Mtx) (w : World) (hI : Inv FDx B w) (hf : Fo FDx B w fv o) (hA : Mat FDx B M w pmt cmt mt) (hl : mt.length ≤ maxLen) (hb : ∀ r ∈ mt, r.length ≤ maxLen) : Ret Tryz.prog 34 [fv, .slice pmt mt.length cmt] w fun v w' => v = .bool (mayM o mt) ∧ St FDx B w w' := by
  refine enter 21 [(0, fv), (1, .slice pmt mt.length cmt)] 4 Tryz.func34 rfl rfl rfl rfl rfl ?_; intro a hF
  have hS := St.refl hI
  have hl2 := hl
  simp only [maxLen] at hl2
  refine W_sr rfl (fun K hK => ?_)
  refine s_boxN (D := FDx) (B := B) hF rfl (hf.cells1) (by decide) hS.inv rfl ?_; clear hF a; intro w' a hm hI' hbf hsz hF
  replace hf := hf.mb hm
  replace hA := hA.mb hm (fun _ h => by cases h)
  replace hS := hS.mb0 hm
  clear hm hI' hsz
  obtain ⟨pf, hpf⟩ : ∃ pf, pf = w.heap.size := ⟨_, rfl⟩
  rw [← hpf] at hbf hF
  obtain ⟨pa, hpa⟩ : ∃ pa, pa = w'.heap.size := ⟨_, rfl⟩
  refine s_boxN (D := FDx) (B := B) hF rfl (rfl) (by decide) hS.inv rfl ?_; clear hF a; intro w' a hm hI' hba hsz hF
  replace hf := hf.mb hm
  replace hA := hA.mb hm (fun _ h => by cases h)
  replace hbf := hbf.mb hm (by simp)
  replace hS := hS.mb0 hm
  clear hm hI' hsz
  rw [← hpa] at hba hF
  have hkf := hbf.kc
  have hka := hba.kc
  clear hba hbf
  refine sv hF (v_assign rfl) rfl ?_; clear hF a; intro a hF
  refine WL_nil (hK _ _ ?_)
  clear hK K
  replace hF := hF.sub _ (c_ 4 rfl (c_ 3 rfl (c_ 2 rfl (n_))))
  refine W_seq ?_
  refine W_sr rfl (fun K hK => ?_)
  refine sv hF (v_load sc30 rfl hka.c) rfl ?_; clear hF a; intro a hF
  refine sv hF (v_lenS rfl sl30 rfl) rfl ?_; clear hF a; intro a hF
  refine sc hF rfl rfl rfl en54 rfl (within_ok (mt.length : Int) _) ?_; clear hF a; intro v w' a hv hF
  obtain ⟨rfl, hw⟩ := hv
  obtain rfl := hw.symm
  have hS' := St.refl hS.inv
  replace hf := hf.st hS'
  replace hA := hA.st hS'
  replace hkf := hkf.st hS'
  replace hka := hka.st hS'
  replace hS := hS.trans hS'
  clear hS'
  refine sb hF (v_not rfl) rfl ?_ ?_
  · clear hF a; intro hc1 a hF
    try simp only [decide_eq_true_eq, decide_eq_false_iff_not, Bool.not_eq_true', Bool.not_eq_false', Bool.not_true, Bool.not_false] at hc1
    refine sv hF (v_move rfl) rfl ?_; clear hF a; intro a hF
    refine svn hF rfl rfl rfl ?_; clear hF a; intro a hF
    refine svn hF rfl rfl rfl ?_; clear hF a; intro a hF
    refine svn hF rfl rfl rfl ?_; clear hF a; intro a hF
    refine svn hF rfl rfl rfl ?_; clear hF a; intro a hF
    refine svn hF rfl rfl rfl ?_; clear hF a; intro a hF
    refine svn hF rfl rfl rfl ?_; clear hF a; intro a hF
    refine sv hF (v_pickT rfl rfl) rfl ?_; clear hF a; intro a hF
    refine WL_nil (hK _ _ ?_)
    clear hK K
    replace hF := hF.sub _ (c_ 16 rfl (c_ 4 rfl (c_ 3 rfl (c_ 2 rfl (n_)))))
    refine W_ifT hF rfl ?_
    refine W_sr rfl (fun K hK => ?_)
    refine sv hF (v_assign rfl) rfl ?_; clear hF a; intro a hF
    refine WL_nil (hK _ _ ?_)
    clear hK K
    replace hF := hF.sub _ (c_ 4 rfl (c_ 3 rfl (c_ 2 rfl (n_))))
    refine W_ret ?_
    refine ⟨_, _, hF, rfl, ?_⟩
    have hno : mayM o mt = false := mayM_no (fun h => by omega)
    rw [hno]
    exact ⟨rfl, hS⟩
  · clear hF a; intro hc1 a hF
    try simp only [decide_eq_true_eq, decide_eq_false_iff_not, Bool.not_eq_true', Bool.not_eq_false', Bool.not_true, Bool.not_false] at hc1
    refine sv hF (v_move rfl) rfl ?_; clear hF a; intro a hF
    refine svg hF rfl ?_
    have hm20 : 1 ≤ mt.length ∧ mt.length ≤ 20 := by omega
    obtain ⟨r0, h0⟩ : ∃ r, mt[0]? = some r := ⟨_, List.getElem?_eq_getElem (by omega)⟩
    obtain ⟨g0, o0, pr0, cr0, hg0, hk0, hrow0, -⟩ := hA.row h0
    subst hg0
    refine sv hF (v_load sc30 rfl hka.c) rfl ?_; clear hF a; intro a hF
    refine svg hF rfl ?_
    refine sv hF (v_ixS sl30 rfl rfl (by decide) (by omega)) rfl ?_; clear hF a; intro a hF
    refine svg hF rfl ?_
    refine sv hF (v_load sc23 rfl hk0.c) rfl ?_; clear hF a; intro a hF
    refine svg hF rfl ?_
    refine sv hF (v_lenS rfl sl23 rfl) rfl ?_; clear hF a; intro a hF
    refine svg hF rfl ?_
    refine sc hF rfl rfl rfl en54 rfl (within_ok (r0.length : Int) _) ?_; clear hF a; intro v w' a hv hF
    obtain ⟨rfl, hw⟩ := hv
    obtain rfl := hw.symm
    have hS' := St.refl hS.inv
    replace hf := hf.st hS'
    replace hA := hA.st hS'
    replace hkf := hkf.st hS'
    replace hka := hka.st hS'
    replace hS := hS.trans hS'
    clear hS'
    refine svg hF rfl ?_
    refine sv hF (v_not rfl) rfl ?_; clear hF a; intro a hF
    refine sv hF (v_pickF rfl rfl) rfl ?_; clear hF a; intro a hF
    refine WL_nil (hK _ _ ?_)
    clear hK K
    replace hF := hF.sub _ (c_ 16 rfl (c_ 4 rfl (c_ 3 rfl (c_ 2 rfl (n_)))))
    refine W_if hF rfl (fun hc2 => ?_) (fun hc2 => ?_)
    · skip
      try simp only [decide_eq_true_eq, decide_eq_false_iff_not, Bool.not_eq_true', Bool.not_eq_false', Bool.not_true, Bool.not_false] at hc2
      refine W_sr rfl (fun K hK => ?_)
      refine sv hF (v_assign rfl) rfl ?_; clear hF a; intro a hF
      refine WL_nil (hK _ _ ?_)
      clear hK K
      replace hF := hF.sub _ (c_ 4 rfl (c_ 3 rfl (c_ 2 rfl (n_))))
      refine W_ret ?_
      refine ⟨_, _, hF, rfl, ?_⟩
      have hno : mayM o mt = false := mayM_no (fun h => by rw [wid_at h0] at h; omega)
      rw [hno]
      exact ⟨rfl, hS⟩
    · skip
      try simp only [decide_eq_true_eq, decide_eq_false_iff_not, Bool.not_eq_true', Bool.not_eq_false', Bool.not_true, Bool.not_false] at hc2
      refine W_skip ?_
      refine W_sr rfl (fun K hK => ?_)
      refine sv hF (v_load sc30 rfl hka.c) rfl ?_; clear hF a; intro a hF
      refine sv hF (v_mkf (cs := [.tmp 3, .tmp 2]) (vs := [.pointer (some ⟨pa, 0, none⟩), .pointer (some ⟨pf, 0, none⟩)]) rfl) rfl ?_; clear hF a; intro a hF
      refine sc hF rfl rfl rfl en64 rfl (AnyR_ok B M 65 [.pointer (some ⟨pa, 0, none⟩), .pointer (some ⟨pf, 0, none⟩)] (fun r => decide (r.length ≠ r0.length) || r.any fun x => !inF o x) _ cmt mt _ hS.inv hA hl (ent Tryz.func65 (by kernel_rfl) (by kernel_rfl)) (fun r hr pr cr w1 hs hrow => May1_ok B M o fv pf pa _ cmt mt r0 pr cr r w1 hs.inv (hf.st hs) (hkf.st hs) (hka.st hs) (hA.st hs) h0 hrow (hb r hr))) ?_; clear hF a; intro v w' a hv hF
      obtain ⟨rfl, hS'⟩ := hv
      replace hf := hf.st hS'
      replace hA := hA.st hS'
      replace hkf := hkf.st hS'
      replace hka := hka.st hS'
      replace hS := hS.trans hS'
      clear hS'
      refine sv hF (v_not rfl) rfl ?_; clear hF a; intro a hF
      refine sv hF (v_assign rfl) rfl ?_; clear hF a; intro a hF
      refine WL_nil (hK _ _ ?_)
      clear hK K
      replace hF := hF.sub _ (c_ 4 rfl (n_))
      refine W_ret ?_
      refine ⟨_, _, hF, rfl, ?_⟩
      have hr20 : 1 ≤ r0.length ∧ r0.length ≤ 20 := by omega
      exact ⟨by rw [← mayM_eq h0 hm20.2 hr20], hS⟩

end Go.Proofs.YtcnlooajjnghaaaGreat
