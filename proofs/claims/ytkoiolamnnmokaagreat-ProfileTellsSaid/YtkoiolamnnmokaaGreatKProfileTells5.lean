/- Texts of the claim ProfileTells (part 5), put together in the order of their imports. -/
import Derived.Test.YtkoiolamnnmokaaGreatKProfileTells4
import Derived.Scope
/- The walks of package matrix: whether rows are a matrix; rows copied; the identity. -/
set_option linter.unusedVariables false
set_option linter.unusedSimpArgs false
namespace Go.Proofs.YtkoiolamnnmokaaGreat
open Go Go.Gam
namespace FxFMatA
theorem en38 : Ent Tryz.prog 38 := ent Tryz.func38 (by kernel_rfl) (by kernel_rfl)
theorem en71 : Ent Tryz.prog 71 := ent Tryz.func71 (by kernel_rfl) (by kernel_rfl)
theorem en73 : Ent Tryz.prog 73 := ent Tryz.func73 (by kernel_rfl) (by kernel_rfl)
theorem en75 : Ent Tryz.prog 75 := ent Tryz.func75 (by kernel_rfl) (by kernel_rfl)
theorem en78 : Ent Tryz.prog 78 := ent Tryz.func78 (by kernel_rfl) (by kernel_rfl)
theorem en101 : Ent Tryz.prog 101 := ent Tryz.func101 (by kernel_rfl) (by kernel_rfl)
theorem sc3 : Scalar Tryz.prog 3 := ⟨_, Tryz.underlying3, by simp, by simp⟩
theorem sc36 : Scalar Tryz.prog 36 := ⟨_, Tryz.underlying36, by simp, by simp⟩
theorem sc42 : Scalar Tryz.prog 42 := ⟨_, Tryz.underlying42, by simp, by simp⟩
theorem sc53 : Scalar Tryz.prog 53 := ⟨_, Tryz.underlying53, by simp, by simp⟩
theorem sl36 : Sl Tryz.prog 36 53 (.slice none 0 0) 24 := sl_of Tryz.underlying36 rfl (by kernel_rfl)
theorem sl53 : Sl Tryz.prog 53 3 (.int .i64 0) 8 := sl_of Tryz.underlying53 rfl (by kernel_rfl)
end FxFMatA
open FxFMatA
set_option maxRecDepth 100000 in
set_option maxHeartbeats 1000000 in
theorem within_ok (n : Int) (w : World) : Ret Tryz.prog 38 [.int .i64 n] w fun v w' => v = .bool (decide (1 ≤ n ∧ n ≤ 20)) ∧ w' = w := by
 refine enter 9 [(0, .int .i64 n)] 2 Tryz.func38 rfl rfl rfl rfl rfl ?_; intro a hF
 refine W_sr rfl fun K hK => ?_
 refine svw hK hF (v_assign rfl) rfl ?_; clear hF a hK K; intro a hF
 refine W_sr rfl fun K hK => ?_
 refine sv hF (v_move rfl) rfl ?_; clear hF a; intro a hF
 refine sb hF (v_geq rfl rfl) rfl ?_ ?_
 ·
  clear hF a; intro hc1 a hF
  try simp only [dcl] at hc1
  refine sv hF (v_move rfl) rfl ?_; clear hF a; intro a hF
  refine svg hF rfl ?_
  refine sv hF (v_move rfl) rfl ?_; clear hF a; intro a hF
  refine svg hF rfl ?_
  refine sv3w hK hF (v_leq rfl rfl) (v_pickT rfl rfl) (v_assign rfl) rfl rfl rfl ?_; clear hF a hK K; intro a hF
  replace hF := hF.sub _ (c_ 2 rfl (n_))
  refine W_ret ?_
  refine ⟨_, _, hF, rfl, ?_⟩
  exact ⟨by congr 1; first | (rw [decide_eq_decide]; omega) | (symm; rw [decide_eq_false_iff_not]; omega) | (symm; rw [decide_eq_true_iff]; omega), rfl⟩
 ·
  clear hF a; intro hc1 a hF
  try simp only [dcl] at hc1
  refine sv hF (v_move rfl) rfl ?_; clear hF a; intro a hF
  refine svn2 hF rfl rfl rfl rfl rfl rfl ?_; clear hF a; intro a hF
  refine sv2w hK hF (v_pickF rfl rfl) (v_assign rfl) rfl rfl ?_; clear hF a hK K; intro a hF
  replace hF := hF.sub _ (c_ 2 rfl (n_))
  refine W_ret ?_
  refine ⟨_, _, hF, rfl, ?_⟩
  exact ⟨by congr 1; first | (rw [decide_eq_decide]; omega) | (symm; rw [decide_eq_false_iff_not]; omega) | (symm; rw [decide_eq_true_iff]; omega), rfl⟩
set_option maxRecDepth 100000 in
set_option maxHeartbeats 1000000 in
theorem May11_ok (B : Nat) (o : Fq) (fv : Value) (pf : Nat) (x : Int) (w : World) (hI : Inv FDx B w) (hf : Fo FDx B w fv o) (hk : KC FDx B w ⟨pf, 0, none⟩ fv) : Ret Tryz.prog 74 [.int .i64 x, .pointer (some ⟨pf, 0, none⟩)] w fun v w' => v = .bool (!inF o x) ∧ St FDx B w w' := by
 refine enter 12 [(0, .int .i64 x), (1, .pointer (some ⟨pf, 0, none⟩))] 3 Tryz.func74 rfl rfl rfl rfl rfl ?_; intro a hF
 have hS := St.refl hI
 refine W_sr rfl fun K hK => ?_
 refine svw hK hF (v_assign rfl) rfl ?_; clear hF a hK K; intro a hF
 refine W_sr rfl fun K hK => ?_
 refine sv hF (v_move rfl) rfl ?_; clear hF a; intro a hF
 refine sb hF (v_lss rfl rfl) rfl ?_ ?_
 ·
  clear hF a; intro hc1 a hF
  try simp only [dcl] at hc1
  refine sv hF (v_move rfl) rfl ?_; clear hF a; intro a hF
  refine svn4 hF rfl rfl rfl rfl rfl rfl rfl rfl rfl rfl rfl rfl ?_; clear hF a; intro a hF
  refine sv2w hK hF (v_pickT rfl rfl) (v_assign rfl) rfl rfl ?_; clear hF a hK K; intro a hF
  replace hF := hF.sub _ (c_ 3 rfl (n_))
  refine W_ret ?_
  refine ⟨_, _, hF, rfl, ?_⟩
  exact ⟨by congr 1; unfold inF; first | (symm; rw [Bool.not_eq_true', decide_eq_false_iff_not]; omega) | (rw [← decide_not, decide_eq_decide]; omega), hS⟩
 ·
  clear hF a; intro hc1 a hF
  try simp only [dcl] at hc1
  refine sv hF (v_move rfl) rfl ?_; clear hF a; intro a hF
  refine svg hF rfl ?_
  refine sv hF (v_move rfl) rfl ?_; clear hF a; intro a hF
  refine svg hF rfl ?_
  refine sv hF (v_load sc42 rfl (by first | assumption | (rw [toNat_c]; assumption) | exact KC.c (by assumption) | (rw [toNat_c]; exact KC.c (by assumption)) | exact Box.at (by assumption))) rfl ?_; clear hF a; intro a hF
  refine svg hF rfl ?_
  refine sc hF rfl rfl rfl en75 rfl (Size_ok B o fv _ hf) ?_; clear hF a; intro v w' a hv hF
  obtain ⟨rfl, hw⟩ := hv
  obtain rfl := hw.symm
  have hS' := St.refl hS.inv
  replace hS := hS.trans hS'
  clear hS'
  refine svg hF rfl ?_
  refine sv3w hK hF (v_geq rfl rfl) (v_pickF rfl rfl) (v_assign rfl) rfl rfl rfl ?_; clear hF a hK K; intro a hF
  replace hF := hF.sub _ (c_ 3 rfl (n_))
  refine W_ret ?_
  refine ⟨_, _, hF, rfl, ?_⟩
  exact ⟨by congr 1; unfold inF; first | (symm; rw [Bool.not_eq_true', decide_eq_false_iff_not]; omega) | (rw [← decide_not, decide_eq_decide]; omega), hS⟩
set_option maxRecDepth 100000 in
set_option maxHeartbeats 1000000 in
theorem IdxI_ok (B M : Nat) (g : FuncId) (lb : List Value) (p : Int → Bool) (pxs : Option Addr) (cxs : Nat) (xs : List Int) (w : World) (hI : Inv FDx B w) (hx : Row FDx B M w (.slice pxs xs.length cxs) (zints xs)) (hl : xs.length ≤ maxLen) (eg : Ent Tryz.prog g) (hc : ∀ x ∈ xs, ∀ w1, St FDx B w w1 → Ret Tryz.prog g (.int .i64 x :: lb) w1 fun v w' => v = .bool (p x) ∧ St FDx B w1 w') : Ret Tryz.prog 101 [.slice pxs xs.length cxs, .func (.func g) ([] : List Value).toArray (lb : List Value).toArray] w fun v w' => v = .int .i64 (idxZ p xs) ∧ St FDx B w w' := by
 refine enter 19 [(0, .slice pxs xs.length cxs), (1, .func (.func g) ([] : List Value).toArray (lb : List Value).toArray)] 4 Tryz.func101 rfl rfl rfl rfl rfl ?_; intro a hF
 have hS := St.refl hI
 have hl2 := hl
 simp only [maxLen] at hl2
 refine W_sr rfl fun K hK => ?_
 refine svw hK hF (v_assign rfl) rfl ?_; clear hF a hK K; intro a hF
 refine W_seq ?_
 refine W_sr rfl fun K hK => ?_
 refine sv3w hK hF (v_move rfl) (v_lenS rfl sl53 rfl) (v_move rfl) rfl rfl rfl ?_; clear hF a hK K; intro a hF
 replace hF := hF.sub _ (c_ 8 rfl (c_ 7 rfl (c_ 4 rfl (c_ 0 rfl (c_ 1 rfl (n_))))))
 refine W_block ?_
 refine W_loop (fun m a w1 => ∃ (i : Nat), Fr 19 [(0, .slice pxs xs.length cxs), (1, .func (.func g) ([] : List Value).toArray (lb : List Value).toArray), (7, .int .i64 (xs.length : Int)), (8, .int .i64 (i : Int))] a ∧ (St FDx B w w1) ∧ (Row FDx B M w1 (.slice pxs xs.length cxs) (zints xs)) ∧ (i ≤ xs.length) ∧ (∀ y ∈ xs.take i, p y = false) ∧ (m + i = xs.length)) (xs.length) ?_ ?_
 ·
  skip
  exact ⟨0, hF.sub _ (c_ 0 rfl (c_ 1 rfl (c_ 7 rfl (c_ 8 rfl (n_))))), hS, hx, by omega, by simp, by omega⟩
 ·
  skip
  clear hF
  clear hS hx
  rintro m a w1 ⟨i, hF, hS, hx, hi, hn, hm⟩
  refine W_sr rfl fun K hK => ?_
  refine svw hK hF (v_lss rfl rfl) rfl ?_; clear hF a hK K; intro a hF
  refine W_seq ?_
  refine W_if hF rfl (fun hc1 => ?_) (fun hc1 => ?_)
  ·
   skip
   try simp only [dcl] at hc1
   have hlt : i < xs.length := by omega
   obtain ⟨z, hz⟩ : ∃ z, xs[i]? = some z := ⟨_, List.getElem?_eq_getElem hlt⟩
   obtain ⟨gx, ox, hgx, hkc, -⟩ := hx.kat (zints_at hz)
   subst hgx
   refine W_skip ?_
   refine W_seq ?_
   refine W_block ?_
   refine W_sr rfl fun K hK => ?_
   refine sv2w hK hF (v_move rfl) (v_assign rfl) rfl rfl ?_; clear hF a hK K; intro a hF
   replace hF := hF.sub _ (c_ 5 rfl (c_ 0 rfl (c_ 1 rfl (c_ 7 rfl (c_ 8 rfl (n_))))))
   refine W_sr rfl fun K hK => ?_
   refine sv4 hF (v_move rfl) (v_move rfl) (v_move rfl) (v_ixS sl53 rfl rfl (by omega) (by omega)) rfl rfl rfl rfl ?_; clear hF a; intro a hF
   refine sv hF (v_load sc3 rfl (by first | assumption | (rw [toNat_c]; assumption) | exact KC.c (by assumption) | (rw [toNat_c]; exact KC.c (by assumption)) | exact Box.at (by assumption))) rfl ?_; clear hF a; intro a hF
   refine sc hF rfl rfl rfl eg rfl (hc z (List.mem_of_getElem? hz) _ hS) ?_; clear hF a; intro v w' a hv hF
   obtain ⟨rfl, hS'⟩ := hv
   replace hx := hx.st hS'
   replace hS := hS.trans hS'
   clear hS'
   refine wn hK ?_
   clear hK K
   replace hF := hF.sub _ (c_ 16 rfl (c_ 5 rfl (c_ 0 rfl (c_ 1 rfl (c_ 7 rfl (c_ 8 rfl (n_)))))))
   refine W_if hF rfl (fun hc2 => ?_) (fun hc2 => ?_)
   ·
    skip
    try simp only [dcl] at hc2
    refine W_sr rfl fun K hK => ?_
    refine sv2w hK hF (v_move rfl) (v_assign rfl) rfl rfl ?_; clear hF a hK K; intro a hF
    replace hF := hF.sub _ (c_ 4 rfl (c_ 0 rfl (c_ 1 rfl (c_ 7 rfl (c_ 8 rfl (n_))))))
    refine W_ret ?_
    refine ⟨_, _, hF, rfl, ?_⟩
    exact ⟨by rw [idxZ_at hn hz hc2], hS⟩
   ·
    skip
    try simp only [dcl] at hc2
    refine W_skip ?_
    refine W_reg rfl fun K hK => ?_
    refine sv2w hK hF (v_addI rfl rfl (by omega)) (v_move rfl) rfl rfl ?_; clear hF a hK K; intro a hF
    replace hF := hF.sub _ (c_ 8 rfl (c_ 18 rfl (c_ 0 rfl (c_ 1 rfl (c_ 7 rfl (n_))))))
    exact ⟨m - 1, by omega, i + 1, hF.sub _ (c_ 0 rfl (c_ 1 rfl (c_ 7 rfl (c_ 8 rfl (n_))))), hS, hx, by omega, take_snoc_no hn hz hc2, by omega⟩
  ·
   skip
   try simp only [dcl] at hc1
   refine W_exit rfl ?_
   refine W_sr rfl fun K hK => ?_
   refine svw hK hF (v_assign rfl) rfl ?_; clear hF a hK K; intro a hF
   replace hF := hF.sub _ (c_ 4 rfl (c_ 0 rfl (c_ 1 rfl (c_ 7 rfl (c_ 8 rfl (n_))))))
   refine W_ret ?_
   refine ⟨_, _, hF, rfl, ?_⟩
   exact ⟨by rw [idxZ_no (p := p) (xs := xs) (by rw [List.take_of_length_le (by omega)] at hn; exact hn)], hS⟩
set_option maxRecDepth 100000 in
set_option maxHeartbeats 1000000 in
theorem AnyI_ok (B M : Nat) (g : FuncId) (lb : List Value) (p : Int → Bool) (pxs : Option Addr) (cxs : Nat) (xs : List Int) (w : World) (hI : Inv FDx B w) (hx : Row FDx B M w (.slice pxs xs.length cxs) (zints xs)) (hl : xs.length ≤ maxLen) (eg : Ent Tryz.prog g) (hc : ∀ x ∈ xs, ∀ w1, St FDx B w w1 → Ret Tryz.prog g (.int .i64 x :: lb) w1 fun v w' => v = .bool (p x) ∧ St FDx B w1 w') : Ret Tryz.prog 73 [.slice pxs xs.length cxs, .func (.func g) ([] : List Value).toArray (lb : List Value).toArray] w fun v w' => v = .bool (xs.any p) ∧ St FDx B w w' := by
 refine enter 9 [(0, .slice pxs xs.length cxs), (1, .func (.func g) ([] : List Value).toArray (lb : List Value).toArray)] 4 Tryz.func73 rfl rfl rfl rfl rfl ?_; intro a hF
 have hS := St.refl hI
 refine W_sr rfl fun K hK => ?_
 refine svw hK hF (v_assign rfl) rfl ?_; clear hF a hK K; intro a hF
 refine W_sr rfl fun K hK => ?_
 refine sv2 hF (v_move rfl) (v_move rfl) rfl rfl ?_; clear hF a; intro a hF
 refine sc hF rfl rfl rfl en101 rfl (IdxI_ok B M g lb p pxs cxs xs _ hS.inv hx hl eg hc) ?_; clear hF a; intro v w' a hv hF
 obtain ⟨rfl, hS'⟩ := hv
 replace hS := hS.trans hS'
 clear hS'
 refine sv2w hK hF (v_geq rfl rfl) (v_assign rfl) rfl rfl ?_; clear hF a hK K; intro a hF
 replace hF := hF.sub _ (c_ 4 rfl (n_))
 refine W_ret ?_
 refine ⟨_, _, hF, rfl, ?_⟩
 exact ⟨by rw [← idxZ_any], hS⟩
set_option maxRecDepth 100000 in
set_option maxHeartbeats 1000000 in
theorem IdxR_ok (B M : Nat) (g : FuncId) (lb : List Value) (p : List Int → Bool) (pmt : Option Addr) (cmt : Nat) (mt : Mtx) (w : World) (hI : Inv FDx B w) (hA : Mat FDx B M w pmt cmt mt) (hl : mt.length ≤ maxLen) (eg : Ent Tryz.prog g) (hc : ∀ r ∈ mt, ∀ pr cr w1, St FDx B w w1 → Row FDx B M w1 (.slice pr r.length cr) (zints r) → Ret Tryz.prog g (.slice pr r.length cr :: lb) w1 fun v w' => v = .bool (p r) ∧ St FDx B w1 w') : Ret Tryz.prog 78 [.slice pmt mt.length cmt, .func (.func g) ([] : List Value).toArray (lb : List Value).toArray] w fun v w' => v = .int .i64 (idxZ p mt) ∧ St FDx B w w' := by
 refine enter 19 [(0, .slice pmt mt.length cmt), (1, .func (.func g) ([] : List Value).toArray (lb : List Value).toArray)] 4 Tryz.func78 rfl rfl rfl rfl rfl ?_; intro a hF
 have hS := St.refl hI
 have hl2 := hl
 simp only [maxLen] at hl2
 refine W_sr rfl fun K hK => ?_
 refine svw hK hF (v_assign rfl) rfl ?_; clear hF a hK K; intro a hF
 refine W_seq ?_
 refine W_sr rfl fun K hK => ?_
 refine sv3w hK hF (v_move rfl) (v_lenS rfl sl36 rfl) (v_move rfl) rfl rfl rfl ?_; clear hF a hK K; intro a hF
 replace hF := hF.sub _ (c_ 8 rfl (c_ 7 rfl (c_ 4 rfl (c_ 0 rfl (c_ 1 rfl (n_))))))
 refine W_block ?_
 refine W_loop (fun m a w1 => ∃ (i : Nat), Fr 19 [(0, .slice pmt mt.length cmt), (1, .func (.func g) ([] : List Value).toArray (lb : List Value).toArray), (7, .int .i64 (mt.length : Int)), (8, .int .i64 (i : Int))] a ∧ (St FDx B w w1) ∧ (Mat FDx B M w1 pmt cmt mt) ∧ (i ≤ mt.length) ∧ (∀ y ∈ mt.take i, p y = false) ∧ (m + i = mt.length)) (mt.length) ?_ ?_
 ·
  skip
  exact ⟨0, hF.sub _ (c_ 0 rfl (c_ 1 rfl (c_ 7 rfl (c_ 8 rfl (n_))))), hS, hA, by omega, by simp, by omega⟩
 ·
  skip
  clear hF
  clear hS hA
  rintro m a w1 ⟨i, hF, hS, hA, hi, hn, hm⟩
  refine W_sr rfl fun K hK => ?_
  refine svw hK hF (v_lss rfl rfl) rfl ?_; clear hF a hK K; intro a hF
  refine W_seq ?_
  refine W_if hF rfl (fun hc1 => ?_) (fun hc1 => ?_)
  ·
   skip
   try simp only [dcl] at hc1
   have hlt : i < mt.length := by omega
   obtain ⟨r, hr⟩ : ∃ z, mt[i]? = some z := ⟨_, List.getElem?_eq_getElem hlt⟩
   obtain ⟨gx, ox, pr, cr, hgx, hkc, hrow, -⟩ := hA.row hr
   subst hgx
   refine W_skip ?_
   refine W_seq ?_
   refine W_block ?_
   refine W_sr rfl fun K hK => ?_
   refine sv2w hK hF (v_move rfl) (v_assign rfl) rfl rfl ?_; clear hF a hK K; intro a hF
   replace hF := hF.sub _ (c_ 5 rfl (c_ 0 rfl (c_ 1 rfl (c_ 7 rfl (c_ 8 rfl (n_))))))
   refine W_sr rfl fun K hK => ?_
   refine sv4 hF (v_move rfl) (v_move rfl) (v_move rfl) (v_ixS sl36 rfl rfl (by omega) (by omega)) rfl rfl rfl rfl ?_; clear hF a; intro a hF
   refine sv hF (v_load sc53 rfl (by first | assumption | (rw [toNat_c]; assumption) | exact KC.c (by assumption) | (rw [toNat_c]; exact KC.c (by assumption)) | exact Box.at (by assumption))) rfl ?_; clear hF a; intro a hF
   refine sc hF rfl rfl rfl eg rfl (hc r (List.mem_of_getElem? hr) pr cr _ hS hrow) ?_; clear hF a; intro v w' a hv hF
   obtain ⟨rfl, hS'⟩ := hv
   replace hA := hA.st hS'
   replace hS := hS.trans hS'
   clear hS'
   refine wn hK ?_
   clear hK K
   replace hF := hF.sub _ (c_ 16 rfl (c_ 5 rfl (c_ 0 rfl (c_ 1 rfl (c_ 7 rfl (c_ 8 rfl (n_)))))))
   refine W_if hF rfl (fun hc2 => ?_) (fun hc2 => ?_)
   ·
    skip
    try simp only [dcl] at hc2
    refine W_sr rfl fun K hK => ?_
    refine sv2w hK hF (v_move rfl) (v_assign rfl) rfl rfl ?_; clear hF a hK K; intro a hF
    replace hF := hF.sub _ (c_ 4 rfl (c_ 0 rfl (c_ 1 rfl (c_ 7 rfl (c_ 8 rfl (n_))))))
    refine W_ret ?_
    refine ⟨_, _, hF, rfl, ?_⟩
    exact ⟨by rw [idxZ_at hn hr hc2], hS⟩
   ·
    skip
    try simp only [dcl] at hc2
    refine W_skip ?_
    refine W_reg rfl fun K hK => ?_
    refine sv2w hK hF (v_addI rfl rfl (by omega)) (v_move rfl) rfl rfl ?_; clear hF a hK K; intro a hF
    replace hF := hF.sub _ (c_ 8 rfl (c_ 18 rfl (c_ 0 rfl (c_ 1 rfl (c_ 7 rfl (n_))))))
    exact ⟨m - 1, by omega, i + 1, hF.sub _ (c_ 0 rfl (c_ 1 rfl (c_ 7 rfl (c_ 8 rfl (n_))))), hS, hA, by omega, take_snoc_no hn hr hc2, by omega⟩
  ·
   skip
   try simp only [dcl] at hc1
   refine W_exit rfl ?_
   refine W_sr rfl fun K hK => ?_
   refine svw hK hF (v_assign rfl) rfl ?_; clear hF a hK K; intro a hF
   replace hF := hF.sub _ (c_ 4 rfl (c_ 0 rfl (c_ 1 rfl (c_ 7 rfl (c_ 8 rfl (n_))))))
   refine W_ret ?_
   refine ⟨_, _, hF, rfl, ?_⟩
   exact ⟨by rw [idxZ_no (p := p) (xs := mt) (by rw [List.take_of_length_le (by omega)] at hn; exact hn)], hS⟩
set_option maxRecDepth 100000 in
set_option maxHeartbeats 1000000 in
theorem AnyR_ok (B M : Nat) (g : FuncId) (lb : List Value) (p : List Int → Bool) (pmt : Option Addr) (cmt : Nat) (mt : Mtx) (w : World) (hI : Inv FDx B w) (hA : Mat FDx B M w pmt cmt mt) (hl : mt.length ≤ maxLen) (eg : Ent Tryz.prog g) (hc : ∀ r ∈ mt, ∀ pr cr w1, St FDx B w w1 → Row FDx B M w1 (.slice pr r.length cr) (zints r) → Ret Tryz.prog g (.slice pr r.length cr :: lb) w1 fun v w' => v = .bool (p r) ∧ St FDx B w1 w') : Ret Tryz.prog 71 [.slice pmt mt.length cmt, .func (.func g) ([] : List Value).toArray (lb : List Value).toArray] w fun v w' => v = .bool (mt.any p) ∧ St FDx B w w' := by
 refine enter 9 [(0, .slice pmt mt.length cmt), (1, .func (.func g) ([] : List Value).toArray (lb : List Value).toArray)] 4 Tryz.func71 rfl rfl rfl rfl rfl ?_; intro a hF
 have hS := St.refl hI
 refine W_sr rfl fun K hK => ?_
 refine svw hK hF (v_assign rfl) rfl ?_; clear hF a hK K; intro a hF
 refine W_sr rfl fun K hK => ?_
 refine sv2 hF (v_move rfl) (v_move rfl) rfl rfl ?_; clear hF a; intro a hF
 refine sc hF rfl rfl rfl en78 rfl (IdxR_ok B M g lb p pmt cmt mt _ hS.inv hA hl eg hc) ?_; clear hF a; intro v w' a hv hF
 obtain ⟨rfl, hS'⟩ := hv
 replace hS := hS.trans hS'
 clear hS'
 refine sv2w hK hF (v_geq rfl rfl) (v_assign rfl) rfl rfl ?_; clear hF a hK K; intro a hF
 replace hF := hF.sub _ (c_ 4 rfl (n_))
 refine W_ret ?_
 refine ⟨_, _, hF, rfl, ?_⟩
 exact ⟨by rw [← idxZ_any], hS⟩
set_option maxRecDepth 100000 in
set_option maxHeartbeats 1000000 in
theorem May1_ok (B M : Nat) (o : Fq) (fv : Value) (pf pa : Nat) (sa : Option Addr) (ca : Nat) (mt : Mtx) (r0 : List Int) (pr : Option Addr) (cr : Nat) (r : List Int) (w : World) (hI : Inv FDx B w) (hf : Fo FDx B w fv o) (hkf : KC FDx B w ⟨pf, 0, none⟩ fv) (hka : KC FDx B w ⟨pa, 0, none⟩ (.slice sa mt.length ca)) (hA : Mat FDx B M w sa ca mt) (h0 : mt[0]? = some r0) (hr : Row FDx B M w (.slice pr r.length cr) (zints r)) (hrl : r.length ≤ maxLen) : Ret Tryz.prog 72 [.slice pr r.length cr, .pointer (some ⟨pa, 0, none⟩), .pointer (some ⟨pf, 0, none⟩)] w fun v w' => v = .bool ((fun r => decide (r.length ≠ r0.length) || r.any fun x => !inF o x) r) ∧ St FDx B w w' := by
 refine enter 17 [(0, .slice pr r.length cr), (1, .pointer (some ⟨pa, 0, none⟩)), (2, .pointer (some ⟨pf, 0, none⟩))] 4 Tryz.func72 rfl rfl rfl rfl rfl ?_; intro a hF
 have hS := St.refl hI
 obtain ⟨g0, o0, pr0, cr0, hg0, hk0, hrow0, -⟩ := hA.row h0
 subst hg0
 have hml := (List.getElem?_eq_some_iff.1 h0).1
 refine W_sr rfl fun K hK => ?_
 refine svw hK hF (v_assign rfl) rfl ?_; clear hF a hK K; intro a hF
 refine W_sr rfl fun K hK => ?_
 refine sv2 hF (v_move rfl) (v_lenS rfl sl53 rfl) rfl rfl ?_; clear hF a; intro a hF
 refine sv hF (v_load sc36 rfl (by first | assumption | (rw [toNat_c]; assumption) | exact KC.c (by assumption) | (rw [toNat_c]; exact KC.c (by assumption)) | exact Box.at (by assumption))) rfl ?_; clear hF a; intro a hF
 refine sv3 hF (v_ixS sl36 rfl rfl (by decide) (by omega)) (v_load sc53 rfl hk0.c) (v_lenS rfl sl53 rfl) rfl rfl rfl ?_; clear hF a; intro a hF
 refine sb hF (v_neq rfl rfl) rfl ?_ ?_
 ·
  clear hF a; intro hc1 a hF
  try simp only [dcl] at hc1
  refine sv hF (v_move rfl) rfl ?_; clear hF a; intro a hF
  refine svn3 hF rfl rfl rfl rfl rfl rfl rfl rfl rfl ?_; clear hF a; intro a hF
  refine sv2w hK hF (v_pickT rfl rfl) (v_assign rfl) rfl rfl ?_; clear hF a hK K; intro a hF
  replace hF := hF.sub _ (c_ 4 rfl (n_))
  refine W_ret ?_
  refine ⟨_, _, hF, rfl, ?_⟩
  have hd : decide (r.length ≠ r0.length) = true := by rw [decide_eq_true_iff]; omega
  exact ⟨by simp only [hd, Bool.true_or], hS⟩
 ·
  clear hF a; intro hc1 a hF
  try simp only [dcl] at hc1
  refine sv hF (v_move rfl) rfl ?_; clear hF a; intro a hF
  refine svg hF rfl ?_
  refine sv hF (v_move rfl) rfl ?_; clear hF a; intro a hF
  refine svg hF rfl ?_
  refine sv hF (v_mkf (cs := [.tmp 2]) (vs := [.pointer (some ⟨pf, 0, none⟩)]) rfl) rfl ?_; clear hF a; intro a hF
  refine svg hF rfl ?_
  refine sc hF rfl rfl rfl en73 rfl (AnyI_ok B M 74 [.pointer (some ⟨pf, 0, none⟩)] (fun x => !inF o x) pr cr r _ hS.inv hr hrl (ent Tryz.func74 (by kernel_rfl) (by kernel_rfl)) (fun x _ w1 hs => May11_ok B o fv pf x w1 hs.inv (hf.st (hS.trans hs)) (hkf.st (hS.trans hs)))) ?_; clear hF a; intro v w' a hv hF
  obtain ⟨rfl, hS'⟩ := hv
  replace hS := hS.trans hS'
  clear hS'
  refine sv2w hK hF (v_pickF rfl rfl) (v_assign rfl) rfl rfl ?_; clear hF a hK K; intro a hF
  replace hF := hF.sub _ (c_ 4 rfl (n_))
  refine W_ret ?_
  refine ⟨_, _, hF, rfl, ?_⟩
  have hd : decide (r.length ≠ r0.length) = false := by rw [decide_eq_false_iff_not]; omega
  exact ⟨by simp only [hd, Bool.false_or], hS⟩
set_option maxRecDepth 100000 in
set_option maxHeartbeats 1000000 in
theorem May_ok (B M : Nat) (o : Fq) (fv : Value) (pmt : Option Addr) (cmt : Nat) (mt : Mtx) (w : World) (hI : Inv FDx B w) (hf : Fo FDx B w fv o) (hA : Mat FDx B M w pmt cmt mt) (hl : mt.length ≤ maxLen) (hb : ∀ r ∈ mt, r.length ≤ maxLen) : Ret Tryz.prog 37 [fv, .slice pmt mt.length cmt] w fun v w' => v = .bool (mayM o mt) ∧ St FDx B w w' := by
 refine enter 21 [(0, fv), (1, .slice pmt mt.length cmt)] 4 Tryz.func37 rfl rfl rfl rfl rfl ?_; intro a hF
 have hS := St.refl hI
 have hl2 := hl
 simp only [maxLen] at hl2
 refine W_sr rfl fun K hK => ?_
 refine s_boxN (D := FDx) (B := B) hF rfl (hf.cells1) (by decide) hS.inv rfl ?_; clear hF a; intro w' a hm hI' hbf hsz hF
 replace hf := hf.mb hm
 replace hA := hA.mb hm (fun _ h => by cases h)
 replace hS := hS.mb0 hm
 clear hm hI' hsz
 obtain ⟨pf, hpf⟩ : ∃ pf, pf = w.heap.size := ⟨_, rfl⟩
 rw [← hpf] at hbf hF
 obtain ⟨pa, hpa⟩ : ∃ pa, pa = w'.heap.size := ⟨_, rfl⟩
 refine s_boxN (D := FDx) (B := B) hF rfl (rfl) (by decide) hS.inv rfl ?_; clear hF a; intro w' a hm hI' hba hsz hF
 replace hf := hf.mb hm
 replace hA := hA.mb hm (fun _ h => by cases h)
 replace hbf := hbf.mb hm (by simp)
 replace hS := hS.mb0 hm
 clear hm hI' hsz
 rw [← hpa] at hba hF
 have hkf := hbf.kc
 have hka := hba.kc
 clear hba hbf
 refine svw hK hF (v_assign rfl) rfl ?_; clear hF a hK K; intro a hF
 replace hF := hF.sub _ (c_ 4 rfl (c_ 3 rfl (c_ 2 rfl (n_))))
 refine W_seq ?_
 refine W_sr rfl fun K hK => ?_
 refine sv2 hF (v_load sc36 rfl hka.c) (v_lenS rfl sl36 rfl) rfl rfl ?_; clear hF a; intro a hF
 refine sc hF rfl rfl rfl en38 rfl (within_ok (mt.length : Int) _) ?_; clear hF a; intro v w' a hv hF
 obtain ⟨rfl, hw⟩ := hv
 obtain rfl := hw.symm
 have hS' := St.refl hS.inv
 replace hf := hf.st hS'
 replace hA := hA.st hS'
 replace hkf := hkf.st hS'
 replace hka := hka.st hS'
 replace hS := hS.trans hS'
 clear hS'
 refine sb hF (v_not rfl) rfl ?_ ?_
 ·
  clear hF a; intro hc1 a hF
  try simp only [dcl] at hc1
  refine sv hF (v_move rfl) rfl ?_; clear hF a; intro a hF
  refine svn5 hF rfl rfl rfl rfl rfl rfl rfl rfl rfl rfl rfl rfl rfl rfl rfl ?_; clear hF a; intro a hF
  refine svn hF rfl rfl rfl ?_; clear hF a; intro a hF
  refine svw hK hF (v_pickT rfl rfl) rfl ?_; clear hF a hK K; intro a hF
  replace hF := hF.sub _ (c_ 16 rfl (c_ 4 rfl (c_ 3 rfl (c_ 2 rfl (n_)))))
  refine W_ifT hF rfl ?_
  refine W_sr rfl fun K hK => ?_
  refine svw hK hF (v_assign rfl) rfl ?_; clear hF a hK K; intro a hF
  replace hF := hF.sub _ (c_ 4 rfl (c_ 3 rfl (c_ 2 rfl (n_))))
  refine W_ret ?_
  refine ⟨_, _, hF, rfl, ?_⟩
  have hno : mayM o mt = false := mayM_no (fun h => by omega)
  rw [hno]
  exact ⟨rfl, hS⟩
 ·
  clear hF a; intro hc1 a hF
  try simp only [dcl] at hc1
  refine sv hF (v_move rfl) rfl ?_; clear hF a; intro a hF
  refine svg hF rfl ?_
  have hm20 : 1 ≤ mt.length ∧ mt.length ≤ 20 := by omega
  obtain ⟨r0, h0⟩ : ∃ r, mt[0]? = some r := ⟨_, List.getElem?_eq_getElem (by omega)⟩
  obtain ⟨g0, o0, pr0, cr0, hg0, hk0, hrow0, -⟩ := hA.row h0
  subst hg0
  refine sv hF (v_load sc36 rfl hka.c) rfl ?_; clear hF a; intro a hF
  refine svg hF rfl ?_
  refine sv hF (v_ixS sl36 rfl rfl (by decide) (by omega)) rfl ?_; clear hF a; intro a hF
  refine svg hF rfl ?_
  refine sv hF (v_load sc53 rfl hk0.c) rfl ?_; clear hF a; intro a hF
  refine svg hF rfl ?_
  refine sv hF (v_lenS rfl sl53 rfl) rfl ?_; clear hF a; intro a hF
  refine svg hF rfl ?_
  refine sc hF rfl rfl rfl en38 rfl (within_ok (r0.length : Int) _) ?_; clear hF a; intro v w' a hv hF
  obtain ⟨rfl, hw⟩ := hv
  obtain rfl := hw.symm
  have hS' := St.refl hS.inv
  replace hf := hf.st hS'
  replace hA := hA.st hS'
  replace hkf := hkf.st hS'
  replace hka := hka.st hS'
  replace hS := hS.trans hS'
  clear hS'
  refine svg hF rfl ?_
  refine sv2w hK hF (v_not rfl) (v_pickF rfl rfl) rfl rfl ?_; clear hF a hK K; intro a hF
  replace hF := hF.sub _ (c_ 16 rfl (c_ 4 rfl (c_ 3 rfl (c_ 2 rfl (n_)))))
  refine W_if hF rfl (fun hc2 => ?_) (fun hc2 => ?_)
  ·
   skip
   try simp only [dcl] at hc2
   refine W_sr rfl fun K hK => ?_
   refine svw hK hF (v_assign rfl) rfl ?_; clear hF a hK K; intro a hF
   replace hF := hF.sub _ (c_ 4 rfl (c_ 3 rfl (c_ 2 rfl (n_))))
   refine W_ret ?_
   refine ⟨_, _, hF, rfl, ?_⟩
   have hno : mayM o mt = false := mayM_no (fun h => by rw [wid_at h0] at h; omega)
   rw [hno]
   exact ⟨rfl, hS⟩
  ·
   skip
   try simp only [dcl] at hc2
   refine W_skip ?_
   refine W_sr rfl fun K hK => ?_
   refine sv2 hF (v_load sc36 rfl hka.c) (v_mkf (cs := [.tmp 3, .tmp 2]) (vs := [.pointer (some ⟨pa, 0, none⟩), .pointer (some ⟨pf, 0, none⟩)]) rfl) rfl rfl ?_; clear hF a; intro a hF
   refine sc hF rfl rfl rfl en71 rfl (AnyR_ok B M 72 [.pointer (some ⟨pa, 0, none⟩), .pointer (some ⟨pf, 0, none⟩)] (fun r => decide (r.length ≠ r0.length) || r.any fun x => !inF o x) _ cmt mt _ hS.inv hA hl (ent Tryz.func72 (by kernel_rfl) (by kernel_rfl)) (fun r hr pr cr w1 hs hrow => May1_ok B M o fv pf pa _ cmt mt r0 pr cr r w1 hs.inv (hf.st hs) (hkf.st hs) (hka.st hs) (hA.st hs) h0 hrow (hb r hr))) ?_; clear hF a; intro v w' a hv hF
   obtain ⟨rfl, hS'⟩ := hv
   replace hf := hf.st hS'
   replace hA := hA.st hS'
   replace hkf := hkf.st hS'
   replace hka := hka.st hS'
   replace hS := hS.trans hS'
   clear hS'
   refine sv2w hK hF (v_not rfl) (v_assign rfl) rfl rfl ?_; clear hF a hK K; intro a hF
   replace hF := hF.sub _ (c_ 4 rfl (n_))
   refine W_ret ?_
   refine ⟨_, _, hF, rfl, ?_⟩
   have hr20 : 1 ≤ r0.length ∧ r0.length ≤ 20 := by omega
   exact ⟨by rw [← mayM_eq h0 hm20.2 hr20], hS⟩
end Go.Proofs.YtkoiolamnnmokaaGreat

/- Sums of products in a field; matrices as tables of numbers; what products, rows picked and joined tell. No program in sight. -/
namespace Go.Gam
open Px
def xsum : Nat → (Nat → Nat) → Nat
  | 0, _ => 0
  | n + 1, f => xsum n f ^^^ f n
theorem xsum_congr {f g : Nat → Nat} : ∀ {n : Nat}, (∀ i, i < n → f i = g i) → xsum n f = xsum n g
  | 0, _ => rfl
  | n + 1, h => by rw [xsum, xsum, xsum_congr (fun i hi => h i (by omega)), h n (by omega)]
theorem xsum_lt {k : Nat} {f : Nat → Nat} : ∀ {n : Nat}, (∀ i, i < n → f i < 2 ^ k) → xsum n f < 2 ^ k
  | 0, _ => Nat.two_pow_pos _
  | n + 1, h => Px.xor_lt (xsum_lt fun i hi => h i (by omega)) (h n (by omega))
theorem xor4 (a b c d : Nat) : (a ^^^ b) ^^^ (c ^^^ d) = (a ^^^ c) ^^^ (b ^^^ d) := by
  rw [Nat.xor_assoc, Nat.xor_assoc, ← Nat.xor_assoc b c d, Nat.xor_comm b c, Nat.xor_assoc c b d]
theorem xsum_xor (f g : Nat → Nat) : ∀ n, xsum n (fun i => f i ^^^ g i) = xsum n f ^^^ xsum n g
  | 0 => by simp [xsum]
  | n + 1 => by rw [xsum, xsum, xsum, xsum_xor f g n, xor4]
theorem xsum_zero : ∀ n, xsum n (fun _ => 0) = 0
  | 0 => rfl
  | n + 1 => by rw [xsum, xsum_zero n]; rfl
theorem xsum_zero' {n : Nat} {f : Nat → Nat} (h : ∀ i, i < n → f i = 0) : xsum n f = 0 := by rw [xsum_congr h, xsum_zero]
theorem xsum_single {f : Nat → Nat} {i : Nat} : ∀ {n : Nat}, i < n → (∀ j, j < n → j ≠ i → f j = 0) → xsum n f = f i
  | 0, h, _ => by omega
  | n + 1, h, h2 => by
    rw [xsum]
    by_cases hn : i = n
    · subst hn; rw [xsum_zero' fun j hj => h2 j (by omega) (by omega), Nat.zero_xor]
    · rw [xsum_single (by omega) (fun j hj => h2 j (by omega)), h2 n (by omega) (by omega), Nat.xor_zero]
theorem xsum_add (f : Nat → Nat) (m : Nat) : ∀ n, xsum (m + n) f = xsum m f ^^^ xsum n (fun i => f (m + i))
  | 0 => by rw [Nat.add_zero, xsum, Nat.xor_zero]
  | n + 1 => by rw [← Nat.add_assoc, xsum, xsum_add f m n, xsum, Nat.xor_assoc]
theorem xsum_comm (f : Nat → Nat → Nat) (m : Nat) : ∀ n, xsum n (fun i => xsum m (f i)) = xsum m (fun j => xsum n (fun i => f i j))
  | 0 => (xsum_zero m).symm
  | n + 1 => by
    rw [xsum, xsum_comm f m n, ← xsum_xor]
    exact xsum_congr fun j _ => rfl
theorem mul_xsum (F : Fld) (c : Nat) (f : Nat → Nat) : ∀ n, F.mul c (xsum n f) = xsum n (fun i => F.mul c (f i))
  | 0 => F.mul_zero c
  | n + 1 => by rw [xsum, F.dist, mul_xsum F c f n, xsum]
theorem xsum_mul (F : Fld) (c : Nat) (f : Nat → Nat) (n : Nat) : F.mul (xsum n f) c = xsum n (fun i => F.mul (f i) c) := by
  rw [F.comm, mul_xsum]; exact xsum_congr fun i _ => F.comm _ _
/-! ### tables -/
def Mx (w n m : Nat) (a : Mtx) : Prop := a.length = n ∧ ∀ r ∈ a, r.length = m ∧ ∀ x ∈ r, 0 ≤ x ∧ x < ((2 ^ w : Nat) : Int)
def en (a : Mtx) (i j : Nat) : Nat := ((a.getD i []).getD j 0).toNat
def tab (n m : Nat) (f : Nat → Nat → Nat) : Mtx := (List.range n).map fun i => (List.range m).map fun j => (f i j : Int)
theorem getD_of {α : Type} {l : List α} {i : Nat} {d : α} (h : i < l.length) : l.getD i d = l[i] := by rw [List.getD_eq_getElem?_getD, List.getElem?_eq_getElem h]; rfl
theorem Mx.num {w n m : Nat} {a : Mtx} (h : Mx w n m a) {i j : Nat} (hi : i < n) (hj : j < m) : ∃ r, a[i]? = some r ∧ r.length = m ∧ r[j]? = some (en a i j : Int) ∧ en a i j < 2 ^ w := by
  obtain ⟨rfl, h2⟩ := h
  have hr := h2 a[i] (List.getElem_mem hi)
  have hj' : j < a[i].length := by omega
  have hx := hr.2 a[i][j] (List.getElem_mem hj')
  have he : en a i j = a[i][j].toNat := by unfold en; rw [getD_of hi, getD_of hj']
  refine ⟨a[i], List.getElem?_eq_getElem hi, hr.1, ?_, by omega⟩
  rw [List.getElem?_eq_getElem hj']
  congr 1; omega
theorem Mx.lt {w n m : Nat} {a : Mtx} (h : Mx w n m a) {i j : Nat} (hi : i < n) (hj : j < m) : en a i j < 2 ^ w := let ⟨_, _, _, _, h⟩ := h.num hi hj; h
theorem Mx.ext {w n m : Nat} {a b : Mtx} (ha : Mx w n m a) (hb : Mx w n m b) (h : ∀ i j, i < n → j < m → en a i j = en b i j) : a = b := by
  apply List.ext_getElem?
  intro i
  by_cases hi : i < n
  · have hia : i < a.length := by rw [ha.1]; exact hi
    have hib : i < b.length := by rw [hb.1]; exact hi
    rw [List.getElem?_eq_getElem hia, List.getElem?_eq_getElem hib]
    congr 1
    apply List.ext_getElem?
    intro j
    have la := (ha.2 a[i] (List.getElem_mem hia)).1
    have lb := (hb.2 b[i] (List.getElem_mem hib)).1
    by_cases hj : j < m
    · obtain ⟨r, h1, _, h2, _⟩ := ha.num hi hj
      obtain ⟨s, h3, _, h4, _⟩ := hb.num hi hj
      rw [List.getElem?_eq_getElem hia] at h1
      rw [List.getElem?_eq_getElem hib] at h3
      obtain rfl := Option.some.inj h1
      obtain rfl := Option.some.inj h3
      rw [h2, h4, h i j hi hj]
    · rw [List.getElem?_eq_none (by omega), List.getElem?_eq_none (by omega)]
  · have := ha.1; have := hb.1
    rw [List.getElem?_eq_none (by omega), List.getElem?_eq_none (by omega)]
theorem tab_length (n m : Nat) (f : Nat → Nat → Nat) : (tab n m f).length = n := by simp [tab]
theorem tab_at {n m i : Nat} {f : Nat → Nat → Nat} (hi : i < n) : (tab n m f)[i]? = some ((List.range m).map fun j => (f i j : Int)) := by simp [tab, hi]
theorem en_tab {n m i j : Nat} {f : Nat → Nat → Nat} (hi : i < n) (hj : j < m) : en (tab n m f) i j = f i j := by
  unfold en
  rw [List.getD_eq_getElem?_getD, List.getD_eq_getElem?_getD, tab_at hi]
  simp [hj]
theorem Mx.tab {w n m : Nat} {f : Nat → Nat → Nat} (h : ∀ i j, i < n → j < m → f i j < 2 ^ w) : Mx w n m (tab n m f) := by
  refine ⟨tab_length _ _ _, fun r hr => ?_⟩
  obtain ⟨i, hi, rfl⟩ := List.mem_map.1 hr
  rw [List.mem_range] at hi
  refine ⟨by simp, fun x hx => ?_⟩
  obtain ⟨j, hj, rfl⟩ := List.mem_map.1 hx
  rw [List.mem_range] at hj
  have := h i j hi hj
  exact ⟨by omega, by omega⟩
theorem Mx.eq_tab {w n m : Nat} {a : Mtx} (h : Mx w n m a) : a = Gam.tab n m (en a) := h.ext (Mx.tab fun i j hi hj => h.lt hi hj) fun i j hi hj => (en_tab hi hj).symm
theorem tab_congr {n m : Nat} {f g : Nat → Nat → Nat} (h : ∀ i j, i < n → j < m → f i j = g i j) : tab n m f = tab n m g := by
  unfold tab
  refine List.map_congr_left fun i hi => List.map_congr_left fun j hj => ?_
  rw [List.mem_range] at hi hj
  rw [h i j hi hj]
theorem Mx.wid {w n m : Nat} {a : Mtx} (h : Mx w n m a) (hn : 0 < n) : wid a = m := by
  obtain ⟨r, hr⟩ : ∃ r, a[0]? = some r := ⟨_, List.getElem?_eq_getElem (by rw [h.1]; exact hn)⟩
  rw [wid_at hr]
  exact (h.2 r (List.mem_of_getElem? hr)).1
section
variable {wb p : Nat}
theorem mayM_Mx {a : Mtx} (h : mayM (some (wb, p)) a = true) : Mx wb a.length (wid a) a ∧ 1 ≤ a.length ∧ a.length ≤ 20 ∧ 1 ≤ wid a ∧ wid a ≤ 20 := by
  obtain ⟨h1, h2, h3, h4, h5⟩ := mayM_pos h
  exact ⟨⟨rfl, fun r hr => ⟨(h5 r hr).1, fun x hx => inF_some.1 ((h5 r hr).2 x hx)⟩⟩, h1, h2, h3, h4⟩
theorem Mx.may {n m : Nat} {a : Mtx} (h : Mx wb n m a) (h1 : 1 ≤ n) (h2 : n ≤ 20) (h3 : 1 ≤ m) (h4 : m ≤ 20) : mayM (some (wb, p)) a = true := by
  have hw := h.wid (by omega)
  exact mayM_of (by rw [h.1]; exact h1) (by rw [h.1]; exact h2) (by omega) (by omega) fun r hr => ⟨by rw [hw]; exact (h.2 r hr).1, fun x hx => inF_some.2 ((h.2 r hr).2 x hx)⟩
theorem gmul_num (h : Prm wb p) {x y : Nat} (hx : x < 2 ^ wb) (hy : y < 2 ^ wb) : gmul (some (wb, p)) (x : Int) (y : Int) = (h.fld.mul x y : Int) := gmul_in hx hy
theorem dotP_sum (h : Prm wb p) {r c : List Int} {f g : Nat → Nat} : ∀ n, (∀ i, i < n → r[i]? = some (f i : Int) ∧ c[i]? = some (g i : Int) ∧ f i < 2 ^ wb ∧ g i < 2 ^ wb) →
    dotP (some (wb, p)) r c n = xsum n fun i => h.fld.mul (f i) (g i)
  | 0, _ => rfl
  | n + 1, hn => by
    obtain ⟨h1, h2, h3, h4⟩ := hn n (by omega)
    rw [dotP_step h1 h2, dotP_sum h n (fun i hi => hn i (by omega)), gmul_num h h3 h4, Int.toNat_natCast]
    rfl
theorem colAt_num {n m w : Nat} {b : Mtx} (hb : Mx w n m b) {i j : Nat} (hi : i < n) (hj : j < m) : (colAt b j)[i]? = some (en b i j : Int) := by
  obtain ⟨r, h1, _, h2, _⟩ := hb.num hi hj
  exact colAt_at h1 h2
theorem dotN_num (h : Prm wb p) {n m k : Nat} {a b : Mtx} (ha : Mx wb n m a) (hb : Mx wb m k b) {i j : Nat} {r : List Int} (hi : a[i]? = some r) (hj : j < k) :
    dotN (some (wb, p)) r (colAt b j) = xsum m fun l => h.fld.mul (en a i l) (en b l j) := by
  have hin : i < n := by rw [← ha.1]; exact (List.getElem?_eq_some_iff.1 hi).1
  have hr := (ha.2 r (List.mem_of_getElem? hi)).1
  have hc : r.length = (colAt b j).length := by rw [colAt_length, hb.1, hr]
  rw [← dotP_all _ hc, hr]
  refine dotP_sum h m fun l hl => ?_
  obtain ⟨r', h1, _, h2, h3⟩ := ha.num hin hl
  rw [hi] at h1
  obtain rfl := Option.some.inj h1
  exact ⟨h2, colAt_num hb hl hj, h3, hb.lt hl hj⟩
theorem mulM_tab (h : Prm wb p) {n m k : Nat} {a b : Mtx} (ha : Mx wb n m a) (hb : Mx wb m k b) (hn : 1 ≤ n ∧ n ≤ 20) (hm : 1 ≤ m ∧ m ≤ 20) (hk : 1 ≤ k ∧ k ≤ 20) :
    mulM (some (wb, p)) a b = some (tab n k fun i j => xsum m fun l => h.fld.mul (en a i l) (en b l j)) := by
  rw [mulM_t (ha.may hn.1 hn.2 hm.1 hm.2) (hb.may hm.1 hm.2 hk.1 hk.2) (by rw [ha.wid (by omega), hb.1])]
  congr 1
  have hw := hb.wid (show 0 < m by omega)
  unfold tab
  apply List.ext_getElem?
  intro i
  by_cases hi : i < n
  · have hia : i < a.length := by rw [ha.1]; exact hi
    rw [List.getElem?_map, List.getElem?_eq_getElem hia, List.getElem?_map, List.getElem?_range hi]
    show some _ = some _
    congr 1
    unfold mulRow
    rw [hw]
    refine List.map_congr_left fun j hj => ?_
    rw [List.mem_range] at hj
    rw [dotN_num h ha hb (List.getElem?_eq_getElem hia) hj]
  · have := ha.1
    rw [List.getElem?_eq_none (by simp; omega), List.getElem?_eq_none (by simp; omega)]
theorem idM_tab (n : Nat) : idM n = tab n n fun i j => if i = j then 1 else 0 := by
  unfold idM tab
  refine List.map_congr_left fun i _ => List.map_congr_left fun j _ => ?_
  by_cases h : i = j <;> simp [h]
theorem identM_of {n : Nat} (h : 1 ≤ n ∧ n ≤ 20) : identM (n : Int) = idM n := by unfold identM; rw [if_pos (by omega), Int.toNat_natCast]
/-! ### rows picked, joined -/
/-! ### columns -/
/-! ### no matrix -/
theorem len20 {a : Mtx} (h : a.length ≤ 20 ∧ ∀ r ∈ a, r.length ≤ 20) : a.length ≤ maxLen ∧ ∀ r ∈ a, r.length ≤ maxLen := ⟨Nat.le_trans h.1 (by decide), fun r hr => Nat.le_trans (h.2 r hr) (by decide)⟩
theorem len1k {a : Mtx} (h : a.length ≤ 20 ∧ ∀ r ∈ a, r.length ≤ 20) : a.length ≤ 1000 ∧ ∀ r ∈ a, r.length ≤ 1000 := ⟨Nat.le_trans h.1 (by decide), fun r hr => Nat.le_trans (h.2 r hr) (by decide)⟩
theorem Mat.two {D : FD} {B N cap : Nat} {w : World} {E2 : TypeId} {sa : Option Addr} {b : Option Nat} {u v : Value} {r s : List Int} (h : Own D B N w E2 (.slice sa 2 cap) b [u, v]) (hE : E2 ≠ D.T) (hr : Row D B w.heap.size w u (zints r)) (hs : Row D B w.heap.size w v (zints s)) : Mat D B w.heap.size w sa cap [r, s] :=
  ⟨[u, v], rfl, h.row hE, fun j v' r' hv hr' => by
    match j with
    | 0 => simp at hv hr'; subst hv; subst hr'; exact hr
    | 1 => simp at hv hr'; subst hv; subst hr'; exact hs
    | j + 2 => simp at hv⟩
def Dj (b c : Option Nat) : Prop := ∀ k, b = some k → c ≠ some k
def zpart (v : List Nat) (h i : Nat) : List Int := (List.range i).map fun j => ((v.getD (h + j) 0 : Nat) : Int)
def zsum (v : List Nat) (h i : Nat) : List Int := (List.range i).map fun j => ((v.getD j 0 ^^^ v.getD (h + j) 0 : Nat) : Int)
def zmods (v : List Nat) (n i : Nat) : List Int := ((v.take i).map fun x => ((x % n : Nat) : Int))
end
end Go.Gam

/- Rows reduced by their first columns; inverses, ranks, what is solved; rows of powers. No program in sight. -/
namespace Go.Gam
open Px
abbrev Tb := Nat → Nat → Nat
def I1 : Tb := fun i j => if i = j then 1 else 0
namespace Fld
variable (F : Fld)
def Bd (f : Tb) : Prop := ∀ i j, f i j < 2 ^ F.w
def mm (m : Nat) (f g : Tb) : Tb := fun i j => xsum m fun l => F.mul (f i l) (g l j)
theorem mm_bd (m : Nat) (f g : Tb) : F.Bd (F.mm m f g) := fun i j => xsum_lt fun l _ => F.lt _ _
theorem I1_bd : F.Bd I1 := fun i j => by unfold I1; have := F.one_lt; split <;> omega
theorem mm_assoc (m k : Nat) (f g h : Tb) (i j : Nat) : F.mm k (F.mm m f g) h i j = F.mm m f (F.mm k g h) i j := by
  unfold mm
  rw [xsum_congr (fun l _ => xsum_mul F (h l j) _ m), xsum_comm (fun l s => F.mul (F.mul (f i s) (g s l)) (h l j))]
  exact xsum_congr fun s _ => by rw [mul_xsum]; exact xsum_congr fun l _ => F.assoc _ _ _
theorem mm_congr {m : Nat} {f f' g g' : Tb} {i j : Nat} (hf : ∀ l, l < m → f i l = f' i l) (hg : ∀ l, l < m → g l j = g' l j) : F.mm m f g i j = F.mm m f' g' i j :=
  xsum_congr fun l hl => by rw [hf l hl, hg l hl]
theorem mm_idl {n : Nat} {f : Tb} {i j : Nat} (hi : i < n) (h : f i j < 2 ^ F.w) : F.mm n I1 f i j = f i j := by
  unfold mm
  rw [xsum_single hi (fun s hs hne => by unfold I1; rw [if_neg (Ne.symm hne), F.zero_mul])]
  unfold I1; rw [if_pos rfl]; exact F.one _ h
theorem mm_idr {n : Nat} {f : Tb} {i j : Nat} (hj : j < n) (h : f i j < 2 ^ F.w) : F.mm n f I1 i j = f i j := by
  unfold mm
  rw [xsum_single hj (fun s hs hne => by unfold I1; rw [if_neg hne, F.mul_zero])]
  unfold I1; rw [if_pos rfl]; exact F.mul_one _ h
/-! ### one step -/
def sw (t k i : Nat) : Nat := if i = t then k else if i = k then t else i
theorem sw_sw (t k i : Nat) : sw t k (sw t k i) = i := by unfold sw; split <;> split <;> (try split) <;> omega
theorem sw_lt {t k i n : Nat} (ht : t < n) (hk : k < n) (hi : i < n) : sw t k i < n := by unfold sw; split <;> (try split) <;> omega
def op (t k s : Nat) (v : Nat → Nat) (f : Tb) : Tb := fun i j => if i = t then F.mul (f k j) s else f (sw t k i) j ^^^ F.mul (v i) (F.mul (f k j) s)
def po (t k s : Nat) (v : Nat → Nat) (f : Tb) : Tb := fun i j => if i = k then F.mul (f t j) s else f (sw t k i) j ^^^ F.mul (v (sw t k i)) (f t j)
theorem op_bd (t k s : Nat) (v : Nat → Nat) {f : Tb} (h : F.Bd f) : F.Bd (F.op t k s v f) := fun i j => by
  unfold op; split
  · exact F.lt _ _
  · exact Px.xor_lt (h _ _) (F.lt _ _)
theorem po_bd (t k s : Nat) (v : Nat → Nat) {f : Tb} (h : F.Bd f) : F.Bd (F.po t k s v f) := fun i j => by
  unfold po; split
  · exact F.lt _ _
  · exact Px.xor_lt (h _ _) (F.lt _ _)
theorem po_op {t k s s' : Nat} (v : Nat → Nat) {f : Tb} (h : F.Bd f) (hs : F.mul s s' = 1) (i j : Nat) : F.po t k s' v (F.op t k s v f) i j = f i j := by
  have e1 : F.op t k s v f t j = F.mul (f k j) s := by unfold op; rw [if_pos rfl]
  unfold po
  rw [e1]
  by_cases hi : i = k
  · rw [if_pos hi, F.assoc, hs, F.mul_one _ (h _ _), hi]
  · rw [if_neg hi]
    have hne : sw t k i ≠ t := by unfold sw; split <;> (try split) <;> omega
    unfold op
    rw [if_neg hne, sw_sw, Nat.xor_assoc, Nat.xor_self, Nat.xor_zero]
theorem op_po {t k s s' : Nat} (v : Nat → Nat) {f : Tb} (h : F.Bd f) (hs : F.mul s s' = 1) (i j : Nat) : F.op t k s v (F.po t k s' v f) i j = f i j := by
  have e1 : F.mul (F.po t k s' v f k j) s = f t j := by unfold po; rw [if_pos rfl, F.assoc, F.comm s', hs, F.mul_one _ (h _ _)]
  unfold op
  rw [e1]
  by_cases hi : i = t
  · rw [if_pos hi, hi]
  · rw [if_neg hi]
    have hne : sw t k i ≠ k := by unfold sw; split <;> (try split) <;> omega
    unfold po
    rw [if_neg hne, sw_sw, Nat.xor_assoc, Nat.xor_self, Nat.xor_zero]
theorem op_mm {t k s n m : Nat} (v : Nat → Nat) (f g : Tb) (i j : Nat) : F.op t k s v (F.mm m f g) i j = F.mm m (F.op t k s v f) g i j := by
  have e : ∀ a : Nat, F.mul (xsum m fun l => F.mul (f a l) (g l j)) s = xsum m fun l => F.mul (F.mul (f a l) s) (g l j) := fun a => by
    rw [xsum_mul]; exact xsum_congr fun l _ => by rw [F.assoc, F.comm (g l j), ← F.assoc]
  unfold op mm
  by_cases hi : i = t
  · rw [if_pos hi, e]; exact xsum_congr fun l _ => by dsimp only; rw [if_pos hi]
  · rw [if_neg hi, e, mul_xsum, ← xsum_xor]
    exact xsum_congr fun l _ => by dsimp only; rw [if_neg hi, F.dist_r, F.assoc (v i)]
theorem po_mm {t k s n m : Nat} (v : Nat → Nat) (f g : Tb) (i j : Nat) : F.po t k s v (F.mm m f g) i j = F.mm m (F.po t k s v f) g i j := by
  unfold po mm
  by_cases hi : i = k
  · rw [if_pos hi, xsum_mul]; exact xsum_congr fun l _ => by dsimp only; rw [if_pos hi, F.assoc, F.comm (g l j), ← F.assoc]
  · rw [if_neg hi, mul_xsum, ← xsum_xor]
    exact xsum_congr fun l _ => by dsimp only; rw [if_neg hi, F.dist_r, F.assoc (v _)]
/-! ### rows reduced -/
def piv (f : Tb) (n c : Nat) : Nat → Nat → Option Nat
  | _, 0 => none
  | t, d + 1 => if f t c ≠ 0 then some t else piv f n c (t + 1) d
theorem piv_some {f : Tb} {n c k : Nat} : ∀ {t d : Nat}, piv f n c t d = some k → t ≤ k ∧ k < t + d ∧ f k c ≠ 0 ∧ ∀ i, t ≤ i → i < k → f i c = 0
  | _, 0, h => by cases h
  | t, d + 1, h => by
    unfold piv at h
    split at h
    · rename_i h0
      obtain rfl := Option.some.inj h
      exact ⟨Nat.le_refl _, by omega, h0, fun i h1 h2 => by omega⟩
    · rename_i h0
      obtain ⟨h1, h2, h3, h4⟩ := piv_some h
      refine ⟨by omega, by omega, h3, fun i h5 h6 => ?_⟩
      by_cases e : i = t
      · subst e; simpa using h0
      · exact h4 i (by omega) h6
theorem piv_none {f : Tb} {n c : Nat} : ∀ {t d : Nat}, piv f n c t d = none → ∀ i, t ≤ i → i < t + d → f i c = 0
  | _, 0, _, i, h1, h2 => by omega
  | t, d + 1, h, i, h1, h2 => by
    unfold piv at h
    split at h
    · cases h
    · rename_i h0
      by_cases e : i = t
      · subst e; simpa using h0
      · exact piv_none h i (by omega) (by omega)
theorem piv_is {f : Tb} {n c k : Nat} : ∀ {t d : Nat}, t ≤ k → k < t + d → f k c ≠ 0 → (∀ i, t ≤ i → i < k → f i c = 0) → piv f n c t d = some k
  | _, 0, h1, h2, _, _ => by omega
  | t, d + 1, h1, h2, h3, h4 => by
    unfold piv
    by_cases e : t = k
    · subst e; rw [if_pos h3]
    · rw [if_neg (by simpa using h4 t (Nat.le_refl _) (by omega))]
      exact piv_is (by omega) (by omega) h3 fun i h5 h6 => h4 i (by omega) h6
theorem piv_no {f : Tb} {n c : Nat} : ∀ {t d : Nat}, (∀ i, t ≤ i → i < t + d → f i c = 0) → piv f n c t d = none
  | _, 0, _ => rfl
  | t, d + 1, h => by
    unfold piv
    rw [if_neg (by simpa using h t (Nat.le_refl _) (by omega))]
    exact piv_no fun i h1 h2 => h i (by omega) (by omega)
def stp (f : Tb) (n c t : Nat) : Tb × Nat :=
  match piv f n c t (n - t) with
  | none => (f, t)
  | some k => (F.op t k (F.inv (f k c)) (fun i => f (sw t k i) c) f, t + 1)
def red (n : Nat) (f : Tb) : Nat → Tb × Nat
  | 0 => (f, 0)
  | c + 1 => F.stp (red n f c).1 n c (red n f c).2
structure Iv (n : Nat) (E E' : Tb) : Prop where
  bd : F.Bd E
  bd' : F.Bd E'
  r : ∀ i j, i < n → j < n → F.mm n E E' i j = I1 i j
  l : ∀ i j, i < n → j < n → F.mm n E' E i j = I1 i j
theorem Iv.id (n : Nat) : F.Iv n I1 I1 := ⟨F.I1_bd, F.I1_bd, fun i j hi hj => F.mm_idl hi (F.I1_bd _ _), fun i j hi hj => F.mm_idl hi (F.I1_bd _ _)⟩
theorem Iv.mul {n : Nat} {E E' G G' : Tb} (h : F.Iv n E E') (k : F.Iv n G G') : F.Iv n (F.mm n E G) (F.mm n G' E') := by
  refine ⟨F.mm_bd _ _ _, F.mm_bd _ _ _, fun i j hi hj => ?_, fun i j hi hj => ?_⟩
  · rw [mm_assoc, F.mm_congr (f' := E) (g' := E') (fun _ _ => rfl) (fun l hl => ?_)]
    · exact h.r i j hi hj
    · rw [← mm_assoc, F.mm_congr (f' := I1) (g' := E') (fun s hs => k.r l s hl hs) (fun _ _ => rfl), F.mm_idl hl (h.bd' _ _)]
  · rw [mm_assoc, F.mm_congr (f' := G') (g' := G) (fun _ _ => rfl) (fun l hl => ?_)]
    · exact k.l i j hi hj
    · rw [← mm_assoc, F.mm_congr (f' := I1) (g' := G) (fun s hs => h.l l s hl hs) (fun _ _ => rfl), F.mm_idl hl (k.bd _ _)]
theorem Iv.op {n t k s s' : Nat} (v : Nat → Nat) (ht : t < n) (hk : k < n) (hs : F.mul s s' = 1) : F.Iv n (F.op t k s v I1) (F.po t k s' v I1) := by
  refine ⟨F.op_bd _ _ _ _ F.I1_bd, F.po_bd _ _ _ _ F.I1_bd, fun i j hi hj => ?_, fun i j hi hj => ?_⟩
  · rw [← F.op_mm (n := n)]
    have e : ∀ a, a < n → F.mm n I1 (F.po t k s' v I1) a j = F.po t k s' v I1 a j := fun a ha => F.mm_idl ha (F.po_bd _ _ _ _ F.I1_bd _ _)
    rw [show F.op t k s v (F.mm n I1 (F.po t k s' v I1)) i j = F.op t k s v (F.po t k s' v I1) i j by
      unfold Fld.op; rw [e k hk, e _ (sw_lt ht hk hi)]]
    exact F.op_po v F.I1_bd hs i j
  · rw [← F.po_mm (n := n)]
    have e : ∀ a, a < n → F.mm n I1 (F.op t k s v I1) a j = F.op t k s v I1 a j := fun a ha => F.mm_idl ha (F.op_bd _ _ _ _ F.I1_bd _ _)
    rw [show F.po t k s' v (F.mm n I1 (F.op t k s v I1)) i j = F.po t k s' v (F.op t k s v I1) i j by
      unfold Fld.po; rw [e t ht, e _ (sw_lt ht hk hi)]]
    exact F.po_op v F.I1_bd hs i j
structure Red (n c : Nat) (f g : Tb) (t : Nat) : Prop where
  bd : F.Bd g
  tn : t ≤ n
  tc : t ≤ c
  ex : ∃ E E', F.Iv n E E' ∧ ∀ i j, i < n → g i j = F.mm n E f i j
  pv : ∃ p : Nat → Nat, (∀ r, r < t → p r < c ∧ ∀ i, i < n → g i (p r) = I1 i r) ∧ (t = c → ∀ r, r < t → p r = r)
  zr : ∀ i j, t ≤ i → i < n → j < c → g i j = 0
theorem red_ok {n : Nat} {f : Tb} (hf : F.Bd f) : ∀ c, F.Red n c f (F.red n f c).1 (F.red n f c).2
  | 0 => ⟨hf, Nat.zero_le _, Nat.le_refl _, ⟨I1, I1, Iv.id F n, fun i j hi => (F.mm_idl hi (hf _ _)).symm⟩, ⟨fun r => r, fun r h => by simp [red] at h, fun _ r h => by simp [red] at h⟩, fun i j _ _ h => by omega⟩
  | c + 1 => by
    have ih := red_ok (n := n) hf c
    show F.Red n (c + 1) f (F.stp _ n c _).1 (F.stp _ n c _).2
    generalize (F.red n f c).1 = g at ih ⊢
    generalize (F.red n f c).2 = t at ih ⊢
    obtain ⟨hb, htn, htc, ⟨E, E', hE, he⟩, ⟨p, hp, hpe⟩, hz⟩ := ih
    unfold stp
    cases hk : piv g n c t (n - t) with
    | none =>
      have h0 := piv_none hk
      refine ⟨hb, htn, by simp; omega, ⟨E, E', hE, he⟩, ⟨p, fun r hr => ⟨by have := (hp r hr).1; omega, (hp r hr).2⟩, fun e => by simp at e; omega⟩, fun i j h1 h2 h3 => ?_⟩
      by_cases e : j = c
      · subst e; exact h0 i h1 (by omega)
      · exact hz i j h1 h2 (by omega)
    | some k =>
      obtain ⟨k1, k2, k3, k4⟩ := piv_some hk
      have hkn : k < n := by omega
      have htn' : t < n := by omega
      have hs := F.inv_mul (hb k c) k3
      refine ⟨F.op_bd _ _ _ _ hb, by simp; omega, by simp; omega, ⟨F.mm n (F.op t k (F.inv (g k c)) (fun i => g (sw t k i) c) I1) E, F.mm n E' (F.po t k (g k c) (fun i => g (sw t k i) c) I1), (Iv.op F _ htn' hkn hs).mul F hE, fun i j hi => ?_⟩, ⟨fun r => if r = t then c else p r, fun r hr => ?_, fun e r hr => ?_⟩, fun i j h1 h2 h3 => ?_⟩
      · rw [mm_assoc, ← F.op_mm (n := n)]
        have e : ∀ a, a < n → F.mm n I1 (F.mm n E f) a j = g a j := fun a ha => by rw [F.mm_idl ha (F.mm_bd _ _ _ _ _), he a j ha]
        dsimp only
        unfold Fld.op; rw [e k hkn, e _ (sw_lt htn' hkn hi)]
      · by_cases e : r = t
        · subst e
          simp only [if_true]
          refine ⟨by omega, fun i hi => ?_⟩
          unfold Fld.op I1
          have h1 : F.mul (g k c) (F.inv (g k c)) = 1 := F.mul_inv (hb k c) k3
          split
          · exact h1
          · rw [h1, F.mul_one _ (hb _ _), Nat.xor_self]
        · simp only [if_neg e]
          have hr' : r < t := by simp at hr; omega
          obtain ⟨q1, q2⟩ := hp r hr'
          refine ⟨by omega, fun i hi => ?_⟩
          have hkr : g k (p r) = 0 := by rw [q2 k hkn]; unfold I1; rw [if_neg (by omega)]
          unfold Fld.op
          rw [hkr, F.zero_mul, F.mul_zero, Nat.xor_zero]
          split
          · rename_i h; unfold I1; rw [if_neg (by omega)]
          · rename_i h
            rw [q2 _ (sw_lt htn' hkn hi)]
            unfold I1 sw
            rw [if_neg h]
            split
            · rename_i h5; rw [if_neg (by omega), if_neg (by omega)]
            · rfl
      · simp at e
        by_cases h : r = t
        · simp only [if_pos h]; omega
        · simp only [if_neg h]; exact hpe (by omega) r (by simp at hr; omega)
      · dsimp only at h1 ⊢
        have hne : i ≠ t := by omega
        unfold Fld.op
        rw [if_neg hne]
        by_cases e : j = c
        · subst e
          rw [F.mul_inv (hb k j) k3, F.mul_one _ (hb _ _), Nat.xor_self]
        · rw [hz k j k1 hkn (by omega), F.zero_mul, F.mul_zero, Nat.xor_zero]
          refine hz _ j ?_ (sw_lt htn' hkn h2) (by omega)
          unfold sw; split <;> (try split) <;> omega
/-! ### inverses -/
def bes (n : Nat) (f g : Tb) : Tb := fun i j => if j < n then f i j else g i (j - n)
theorem bes_bd {n : Nat} {f g : Tb} (hf : F.Bd f) (hg : F.Bd g) : F.Bd (bes n f g) := fun i j => by unfold bes; split; exact hf _ _; exact hg _ _
def iv (n : Nat) (f : Tb) : Option Tb := if (F.red n (bes n f I1) n).2 < n then none else some fun i j => (F.red n (bes n f I1) n).1 i (n + j)
theorem iv_some {n : Nat} {f g : Tb} (hf : F.Bd f) (h : F.iv n f = some g) : F.Iv n f g := by
  unfold iv at h
  split at h
  · cases h
  · rename_i hn
    obtain rfl := Option.some.inj h
    have hr := F.red_ok (n := n) (bes_bd F (n := n) hf F.I1_bd) n
    generalize (F.red n (bes n f I1) n).1 = g at hr ⊢
    generalize (F.red n (bes n f I1) n).2 = t at hr hn
    obtain ⟨hb, htn, htc, ⟨E, E', hE, he⟩, ⟨p, hp, hpe⟩, hz⟩ := hr
    obtain rfl : t = n := by omega
    have hg : ∀ i j, i < t → j < t → g i (t + j) = E i j := fun i j hi hj => by
      rw [he i _ hi]
      refine Eq.trans (xsum_congr (g := fun l => F.mul (E i l) (I1 l j)) fun l _ => ?_) (F.mm_idr (f := E) (i := i) hj (hE.bd _ _))
      unfold bes; rw [if_neg (by omega), show t + j - t = j by omega]
    have hEf : ∀ i j, i < t → j < t → F.mm t E f i j = I1 i j := fun i j hi hj => by
      have := (hp j hj).2 i hi
      rw [hpe rfl j hj, he i j hi, F.mm_congr (f' := E) (g' := f) (fun _ _ => rfl) (fun l _ => by unfold bes; rw [if_pos hj])] at this
      exact this
    have hfE : ∀ i j, i < t → j < t → f i j = E' i j := fun i j hi hj => by
      have h1 : F.mm t E' (F.mm t E f) i j = E' i j := by
        rw [F.mm_congr (f' := E') (g' := I1) (fun _ _ => rfl) (fun l hl => hEf l j hl hj)]; exact F.mm_idr hj (hE.bd' _ _)
      rw [← mm_assoc, F.mm_congr (f' := I1) (g' := f) (fun l hl => hE.l i l hi hl) (fun _ _ => rfl), F.mm_idl hi (hf _ _)] at h1
      exact h1
    refine ⟨hf, fun i j => hb _ _, fun i j hi hj => ?_, fun i j hi hj => ?_⟩
    · rw [F.mm_congr (f' := E') (g' := E) (fun l hl => hfE i l hi hl) (fun l hl => hg l j hl hj)]; exact hE.l i j hi hj
    · rw [F.mm_congr (f' := E) (g' := f) (fun l hl => hg i l hi hl) (fun _ _ => rfl)]; exact hEf i j hi hj
theorem iv_none {n : Nat} {f : Tb} (hf : F.Bd f) (h : F.iv n f = none) : ∃ y : Nat → Nat, (∀ i, y i < 2 ^ F.w) ∧ (∃ i, i < n ∧ y i ≠ 0) ∧ ∀ j, j < n → (xsum n fun l => F.mul (y l) (f l j)) = 0 := by
  unfold iv at h
  split at h
  · rename_i hn
    have hr := F.red_ok (n := n) (bes_bd F (n := n) hf F.I1_bd) n
    generalize (F.red n (bes n f I1) n).1 = g at hr
    generalize (F.red n (bes n f I1) n).2 = t at hr hn
    obtain ⟨hb, htn, htc, ⟨E, E', hE, he⟩, -, hz⟩ := hr
    refine ⟨E t, hE.bd t, ?_, fun j hj => ?_⟩
    · refine Classical.byContradiction fun hno => ?_
      have h0 : ∀ l, l < n → E t l = 0 := fun l hl => Classical.byContradiction fun h => hno ⟨l, hl, h⟩
      have h1 := hE.r t t hn hn
      unfold mm I1 at h1
      rw [if_pos rfl, xsum_zero' fun l hl => by rw [h0 l hl, F.zero_mul]] at h1
      cases h1
    · have := hz t j (Nat.le_refl _) hn hj
      rw [he t j hn, F.mm_congr (f' := E) (g' := f) (fun _ _ => rfl) (fun l _ => by unfold bes; rw [if_pos hj])] at this
      exact this
  · cases h
theorem Iv.uniq {n : Nat} {f g h : Tb} (hg : F.Iv n f g) (hh : F.Bd h) (hr : ∀ i j, i < n → j < n → F.mm n f h i j = I1 i j) : ∀ i j, i < n → j < n → h i j = g i j := fun i j hi hj => by
  have h1 : F.mm n g (F.mm n f h) i j = g i j := by
    rw [F.mm_congr (f' := g) (g' := I1) (fun _ _ => rfl) (fun l hl => hr l j hl hj)]; exact F.mm_idr hj (hg.bd' _ _)
  rw [← mm_assoc, F.mm_congr (f' := I1) (g' := h) (fun l hl => hg.l i l hi hl) (fun _ _ => rfl), F.mm_idl hi (hh _ _)] at h1
  exact h1
theorem Iv.left {n : Nat} {f g : Tb} (h : F.Iv n f g) {y : Nat → Nat} (hy : ∀ i, y i < 2 ^ F.w) (h0 : ∀ j, j < n → (xsum n fun l => F.mul (y l) (f l j)) = 0) : ∀ i, i < n → y i = 0 := fun i hi => by
  have h1 : F.mm n (F.mm n (fun _ => y) f) g 0 i = y i := by
    rw [mm_assoc, F.mm_congr (f' := fun _ => y) (g' := I1) (fun _ _ => rfl) (fun l hl => h.r l i hl hi)]; exact F.mm_idr hi (hy _)
  rw [← h1]
  exact xsum_zero' fun l hl => by rw [show F.mm n (fun _ => y) f 0 l = 0 from h0 l hl, F.zero_mul]
theorem iv_of {n : Nat} {f : Tb} (hf : F.Bd f) (h : ∀ y : Nat → Nat, (∀ i, y i < 2 ^ F.w) → (∀ j, j < n → (xsum n fun l => F.mul (y l) (f l j)) = 0) → ∀ i, i < n → y i = 0) : ∃ g, F.iv n f = some g := by
  cases hi : F.iv n f with
  | some g => exact ⟨g, rfl⟩
  | none =>
    obtain ⟨y, h1, ⟨i, h2, h3⟩, h4⟩ := F.iv_none hf hi
    exact absurd (h y h1 h4 i h2) h3
theorem iv_of_Iv {n : Nat} {f g : Tb} (h : F.Iv n f g) : ∃ g', F.iv n f = some g' := F.iv_of h.bd fun y h1 h2 => h.left F h1 h2
def tr (f : Tb) : Tb := fun i j => f j i
theorem mm_tr (n : Nat) (f g : Tb) (i j : Nat) : F.mm n (tr f) (tr g) i j = F.mm n g f j i := xsum_congr fun l _ => F.comm _ _
theorem Iv.tr {n : Nat} {f g : Tb} (h : F.Iv n f g) : F.Iv n (Fld.tr f) (Fld.tr g) :=
  ⟨fun i j => h.bd j i, fun i j => h.bd' j i, fun i j hi hj => by rw [mm_tr, h.l j i hj hi]; unfold I1; simp only [eq_comm], fun i j hi hj => by rw [mm_tr, h.r j i hj hi]; unfold I1; simp only [eq_comm]⟩
theorem iv_ofR {n : Nat} {f : Tb} (hf : F.Bd f) (h : ∀ y : Nat → Nat, (∀ i, y i < 2 ^ F.w) → (∀ j, j < n → (xsum n fun l => F.mul (f j l) (y l)) = 0) → ∀ i, i < n → y i = 0) : ∃ g, F.iv n f = some g := by
  obtain ⟨g, hg⟩ := F.iv_of (n := n) (f := tr f) (fun i j => hf j i) (fun y h1 h2 => h y h1 fun j hj => by rw [← h2 j hj]; exact xsum_congr fun l _ => F.comm _ _)
  have := F.iv_some (fun i j => hf j i) hg
  exact F.iv_of_Iv (this.tr F)
theorem Iv.right {n : Nat} {f g : Tb} (h : F.Iv n f g) {y : Nat → Nat} (hy : ∀ i, y i < 2 ^ F.w) (h0 : ∀ j, j < n → (xsum n fun l => F.mul (f j l) (y l)) = 0) : ∀ i, i < n → y i = 0 :=
  (h.tr F).left F hy fun j hj => by rw [← h0 j hj]; exact xsum_congr fun l _ => F.comm _ _
theorem iv_congr {n : Nat} {f g : Tb} (hf : F.Bd f) (hg : F.Bd g) (h : ∀ i j, i < n → j < n → f i j = g i j) : (F.iv n f).isSome = (F.iv n g).isSome := by
  have key : ∀ {f g : Tb}, F.Bd f → F.Bd g → (∀ i j, i < n → j < n → f i j = g i j) → (F.iv n f).isSome = true → (F.iv n g).isSome = true := fun {f g} hf hg h hs => by
    obtain ⟨x, hx⟩ := Option.isSome_iff_exists.1 hs
    have hi := F.iv_some hf hx
    obtain ⟨y, hy⟩ := F.iv_of_Iv (n := n) (f := g) (g := x) ⟨hg, hi.bd', fun i j hi' hj => by rw [← hi.r i j hi' hj]; exact F.mm_congr (fun l hl => (h i l hi' hl).symm) (fun _ _ => rfl), fun i j hi' hj => by rw [← hi.l i j hi' hj]; exact F.mm_congr (fun _ _ => rfl) (fun l hl => (h l j hl hj).symm)⟩
    rw [hy]; rfl
  rw [Bool.eq_iff_iff]
  exact ⟨key hf hg h, key hg hf fun i j hi hj => (h i j hi hj).symm⟩
/-! ### ranks -/
def Sp (c m n : Nat) (f g : Tb) : Prop := ∃ C : Tb, F.Bd C ∧ ∀ i j, i < n → j < c → g i j = F.mm m C f i j
def rk (n : Nat) (f : Tb) (c : Nat) : Nat := (F.red n f c).2
/-! ### rows of powers -/
theorem eval_sum (x : Nat) (hx : x < 2 ^ F.w) : ∀ (n : Nat) (y : Nat → Nat), (∀ i, y i < 2 ^ F.w) → F.eval ((List.range n).map y) x = xsum n fun l => F.mul (F.pow x l) (y l)
  | 0, _, _ => rfl
  | n + 1, y, h => by
    have ih := eval_sum x hx n (fun i => y (i + 1)) (fun i => h _)
    rw [List.range_succ_eq_map, List.map_cons, eval, List.map_map]
    rw [show (List.range n).map (y ∘ Nat.succ) = (List.range n).map fun i => y (i + 1) from rfl, ih, Nat.add_comm n 1, xsum_add]
    congr 1
    · show y 0 = 0 ^^^ F.mul 1 (y 0)
      rw [Nat.zero_xor, F.one _ (h 0)]
    · rw [mul_xsum]
      refine xsum_congr fun l _ => ?_
      show _ = F.mul (F.pow x (1 + l)) (y (1 + l))
      rw [Nat.add_comm 1 l, pow, F.comm (F.pow x l) x, F.assoc]
theorem vander {n : Nat} {x : Nat → Nat} (hx : ∀ i, x i < 2 ^ F.w) (hu : ∀ i j, i < n → j < n → x i = x j → i = j) : ∃ g, F.iv n (fun i k => F.pow (x i) k) = some g := by
  refine F.iv_ofR (fun i j => F.pow_lt _ _) fun y h1 h2 i hi => ?_
  refine F.roots n ((List.range n).map y) ((List.range n).map x) (by simp) (by simp) (fun c hc => ?_) (fun c hc => ?_) ?_ (fun c hc => ?_) (y i) (List.mem_map.2 ⟨i, List.mem_range.2 hi, rfl⟩)
  · obtain ⟨l, _, rfl⟩ := List.mem_map.1 hc; exact h1 l
  · obtain ⟨l, _, rfl⟩ := List.mem_map.1 hc; exact hx l
  · refine List.Pairwise.map x (R := fun a b => a < n ∧ b < n ∧ a ≠ b) (fun a b h e => h.2.2 (hu a b h.1 h.2.1 e)) ?_
    exact List.Pairwise.imp_of_mem (fun ha hb hne => ⟨List.mem_range.1 ha, List.mem_range.1 hb, hne⟩) (List.nodup_range)
  · obtain ⟨l, hl, rfl⟩ := List.mem_map.1 hc
    rw [F.eval_sum _ (hx l) n y h1]
    exact h2 l (List.mem_range.1 hl)
end Fld
end Go.Gam

/- The laws of the fields, as the statements of layer 2 ask them. No program in sight. -/
namespace Go.Gam
open Px
theorem newF_p {wb p : Nat} (h : Prm wb p) : newF (wb : Int) p = some (wb, p) := by
  rw [newF_t ⟨by have := h.w; omega, by rw [deg_pos h.p0, h.lg], h.pr⟩]; rfl
theorem prm_285 : Prm 8 285 := ⟨.inl rfl, prim_285, by decide +kernel⟩
theorem prm_69643 : Prm 16 69643 := ⟨.inr rfl, prim_69643, by decide +kernel⟩
/-! ### by 0x11D -/
/-! ### powers of x -/
theorem ginvb_nat {wb p : Nat} (_ : Prm wb p) {x : Nat} (hx : x < 2 ^ wb) : ginvb (some (wb, p)) (x : Int) = decide (x ≠ 0) := by
  unfold ginvb
  rw [inF_of hx]
  by_cases h0 : x = 0
  · subst h0; rfl
  · have : ¬ ((x : Int) = 0) := by omega
    simp [h0]
section
variable {wb p : Nat} (h : Prm wb p)
include h
theorem gexp_nat (x : Nat) : gexp (some (wb, p)) (x : Int) = (pw p x : Int) := by
  have : gexp (some (wb, p)) (x : Int) = (pw p ((x : Int) % ((2 ^ wb - 1 : Nat) : Int)).toNat : Int) := rfl
  rw [this, ← Int.natCast_emod, Int.toNat_natCast, h.pw_mod]
/-! ### a field -/
theorem ginv_nat {x : Nat} (hx : x < 2 ^ wb) (h0 : x ≠ 0) : ginv (some (wb, p)) (x : Int) = (Px.pow x p (2 ^ wb - 2) : Int) := by
  have hs := h.size
  rw [ginv_in (inF_of hx) (by omega), show ((fsz (some (wb, p)) : Nat) : Int) - 2 = ((2 ^ wb - 2 : Nat) : Int) by show ((2 ^ wb : Nat) : Int) - 2 = _; omega, gpow_in hx]
theorem gdivb_nat {x y : Nat} (hx : x < 2 ^ wb) (hy : y < 2 ^ wb) : gdivb (some (wb, p)) (x : Int) (y : Int) = decide (y ≠ 0) := by rw [gdivb_eq, inF_of hx, ginvb_nat h hy, Bool.and_true]
end
end Go.Gam

/- Rows in memory that a walk writes: each in a block of its own; scopes; what one step of the reduction is. No program in sight. -/
namespace Go.Gam
open Px
theorem W_scope {P : Program} {N R : Kont} {X : List (Nat × Kont)} {a : Act} {w : World} {c : Code} (h : W P c N X R a w) : W P (.scope c) N X R a w :=
  wp_scope_straight (wp_mono h fun e a w hq => by cases e <;> exact hq)
theorem W_label {P : Program} {N R : Kont} {X : List (Nat × Kont)} {a : Act} {w : World} {l : Nat} (h : N a w) : W P (.label l) N X R a w := wp_label h
section
variable {P : Program} {ops : Array Oper} {K : Kont} {rest : List Oper} {n : NN} {F : Fs} {T : TypeId} {pp : String} {af : Array Edge} {v : Value} {d : Nat} {a : Act} {w : World} {x y : Operand} {D : FD} {B : Nat}
theorem v_capS {t e by_ : Nat} {z : Value} {ats : Array TypeId} {a : Option Addr} {n c : Nat} (hat : ats = #[t]) (ht : Sl P t e z by_) (hx : ev F x = some (.slice a n c)) : Val P (.call ⟨.builtin .cap, #[x], ats⟩) T F w (.int .i64 (c : Int)) :=
  fun ρ h d p af g => by
    subst hat
    simp [execOp, resolve, invoke, builtin, Builtin.cap_, h x _ hx, underlying, ht.1, program, Sem.run, goInt]
theorem zeroCells_one (z : Value) (k : Nat) : Builtin.zeroCells #[z] k = (List.replicate k z).toArray := by
  apply Array.ext
  · simp [Builtin.zeroCells]
  · intro i h1 h2
    simp [Builtin.zeroCells, Nat.mod_one]
theorem s_appZ {t tx e by_ m : Nat} {ats : Array TypeId} {z : Value} {k1 : IntKind} {X : Int} (hF : Fr n F a) (hat : ats = #[t, tx]) (ht : Sl P t e z by_) (htx : P.underlying tx = some (.int k1)) (hx : ev F x = some (.slice none 0 0)) (hy : ev F y = some (.int .i64 X))
    (hX : X = (m : Int)) (h0 : 0 < m) (hm : m * by_ ≤ 8388608 ∧ m ≤ 1048576) (he : e ≠ D.T) (hI : Inv D B w) (hd : Nat.blt d n.n = true)
    (k : ∀ w' a c, Mb D B none w w' → Inv D B w' → Own D B w.heap.size w' e (.slice (some ⟨w.heap.size, 0, none⟩) m c) (some w.heap.size) (List.replicate m z) → Fr n ((d, .slice (some ⟨w.heap.size, 0, none⟩) m c) :: F) a → WL P ops K rest a w') :
    WL P ops K (⟨some d, .call ⟨.builtin .append, #[x, y], ats⟩, T, pp, af, none⟩ :: rest) a w := by
  subst hat
  subst hX
  obtain ⟨t1, tz, i, t2, t3, t4, t5⟩ := ht
  subst t5
  have hml : m ≤ maxLen := Nat.le_trans hm.2 (by decide)
  have hge := grownCap_ge w m 0 e
  have hcm := grownCap_le_maxLen w m 0 e hml
  have hpn : Priv D B w w.heap.size := hI.priv_new (Nat.le_refl _)
  have hmn : m ≠ 0 := by omega
  have h63 : ¬ (9223372036854775807 < (m : Int)) := by omega
  have h48 : ¬ (281474976710656 < Builtin.nextslicecap m 0 * i.bytes) := by rw [nextslicecap_zero h0]; omega
  have h48' : ¬ (281474976710656 < (m : Int) * (i.bytes : Int)) := by
    have e1 : (m : Int) * (i.bytes : Int) = ((m * i.bytes : Nat) : Int) := by simp
    rw [e1]; omega
  have hw : IntKind.i64.wrap (m : Int) = (m : Int) := wrap_i64 _ (by omega)
  have hm0 : ¬ ((m : Int) < 0) := by omega
  have hz : ∀ k, Builtin.zeroCells z.cells k = (List.replicate k z).toArray := fun k => by rw [tz]; exact zeroCells_one z k
  obtain ⟨c, hc⟩ : ∃ c, c = grownCap w m 0 e := ⟨_, rfl⟩
  have hrun : (Builtin.append_ #[t, tx] T #[.slice none 0 0, .int .i64 (m : Int)]).run P w = .ok (.slice (some ⟨w.heap.size, 0, none⟩) m c) (w.drew.alloc (.cells (List.replicate m z ++ List.replicate (c - m) z).toArray e)) := by
    simp [Builtin.append_, run_underlying t1, run_underlying htx, sizeOf, typeInfo, zeroValue, t2, t3, t4, asInt, asIntOf, hw, hm0, hmn, h63, h48, h48', Question.forced, run_firstCells_none, newRow, hz, hc, grownCap]
  rw [← hc] at hge hcm
  have ho : Own D B w.heap.size (w.drew.alloc (.cells (List.replicate m z ++ List.replicate (c - m) z).toArray e)) e (.slice (some ⟨w.heap.size, 0, none⟩) m c) (some w.heap.size) (List.replicate m z) :=
    .inr ⟨w.heap.size, c, _, by simp, rfl, Nat.le_refl _, hI.1, alloc_new w.drew _, by simpa using hge, hcm, by simp; omega, by simp, (Mb.drew_alloc _ e he).priv hpn⟩
  refine s_run (w' := w.drew.alloc (.cells (List.replicate m z ++ List.replicate (c - m) z).toArray e)) hF (fun ρ h => ?_) hd fun a hF => k _ a c (Mb.drew_alloc _ e he) ((Mb.drew_alloc _ e he).inv hI) ho hF
  simp [execOp, resolve, invoke, builtin, h x _ hx, h y _ hy, hrun]
end
theorem Own.to {D : FD} {B N E g l cap hi : Nat} {w : World} {b : Option Nat} {xs : List Value} (h : Own D B N w E (.slice (some ⟨g, 0, none⟩) l cap) b xs) (h1 : hi ≤ xs.length) : Own D B N w E (.slice (some ⟨g, 0, none⟩) hi cap) b (xs.take hi) := by
  rcases h with ⟨h, _⟩ | ⟨g', cap', cur, e, h0, h1', hB, h2, h3, h4, h5, h6, h7⟩
  · cases h
  · obtain ⟨e1, e2, rfl⟩ := Value.slice.inj e
    injection e1 with e1; injection e1 with e1
    subst e1
    have hl : (xs.take hi).length = hi := by simp; omega
    refine .inr ⟨g, cap, cur, by rw [hl], h0, h1', hB, h2, by omega, h4, h5, ?_, h7⟩
    rw [hl, ← h6, List.take_take, Nat.min_eq_left h1]
/-! ### sums of rows -/
theorem flat_snoc {mt : Mtx} {i : Nat} {r : List Int} (h : mt[i]? = some r) : (mt.take (i + 1)).flatten = (mt.take i).flatten ++ r := by rw [take_snoc h, List.flatten_append]; simp
theorem flat_le {mt : Mtx} {c : Nat} (h : ∀ r ∈ mt, r.length ≤ c) : ∀ i, (mt.take i).flatten.length ≤ i * c
  | 0 => by simp
  | i + 1 => by
    have ih := flat_le h i
    cases hi : mt[i]? with
    | none => rw [List.take_add_one, hi]; simp only [Option.toList_none, List.append_nil]; rw [Nat.add_mul]; omega
    | some r => rw [flat_snoc hi, List.length_append, Nat.add_mul]; have := h r (List.mem_of_getElem? hi); omega
/-! ### rows of a table -/
def trow (m : Nat) (f : Tb) (i : Nat) : List Int := (List.range m).map fun j => (f i j : Int)
@[simp] theorem trow_length (m : Nat) (f : Tb) (i : Nat) : (trow m f i).length = m := by simp [trow]
theorem trow_at {m i j : Nat} {f : Tb} (h : j < m) : (trow m f i)[j]? = some (f i j : Int) := by simp [trow, h]
theorem trow_congr {m i k : Nat} {f g : Tb} (h : ∀ j, j < m → f i j = g k j) : trow m f i = trow m g k := List.map_congr_left fun j hj => by rw [h j (List.mem_range.1 hj)]
theorem trow_set {m i j y : Nat} {f g : Tb} (h : ∀ l, l < m → g i l = if l = j then y else f i l) : (trow m f i).set j (y : Int) = trow m g i := by
  apply List.ext_getElem?
  intro l
  by_cases hl : l < m
  · rw [trow_at hl, h l hl, List.getElem?_set]
    by_cases e : j = l
    · subst e; rw [if_pos rfl, if_pos (by simpa using hl), if_pos rfl]
    · rw [if_neg e, trow_at hl, if_neg (Ne.symm e)]
  · rw [List.getElem?_eq_none (by simp; omega), List.getElem?_eq_none (by simp; omega)]
def vls (n m : Nat) (bs rc : Nat → Nat) : List Value := (List.range n).map fun i => .slice (some ⟨bs i, 0, none⟩) m (rc i)
@[simp] theorem vls_length (n m : Nat) (bs rc : Nat → Nat) : (vls n m bs rc).length = n := by simp [vls]
theorem vls_at {n m i : Nat} {bs rc : Nat → Nat} (h : i < n) : (vls n m bs rc)[i]? = some (.slice (some ⟨bs i, 0, none⟩) m (rc i)) := by simp [vls, h]
theorem vls_sw {n m t k : Nat} {bs rc : Nat → Nat} (ht : t < n) (hk : k < n) :
    ((vls n m bs rc).set t (.slice (some ⟨bs k, 0, none⟩) m (rc k))).set k (.slice (some ⟨bs t, 0, none⟩) m (rc t)) = vls n m (fun i => bs (Fld.sw t k i)) (fun i => rc (Fld.sw t k i)) := by
  apply List.ext_getElem?
  intro l
  by_cases hl : l < n
  · rw [vls_at hl, List.getElem?_set]
    by_cases e : k = l
    · subst e
      rw [if_pos rfl, if_pos (by simpa using hl)]
      unfold Fld.sw
      by_cases e2 : k = t
      · subst e2; simp
      · simp [e2]
    · rw [if_neg e, List.getElem?_set]
      by_cases e2 : t = l
      · subst e2
        rw [if_pos rfl, if_pos (by simpa using hl)]
        unfold Fld.sw; simp
      · rw [if_neg e2, vls_at hl]
        unfold Fld.sw
        rw [if_neg (Ne.symm e2), if_neg (Ne.symm e)]
  · rw [List.getElem?_eq_none (by simp; omega), List.getElem?_eq_none (by simp; omega)]
theorem Own.kc {D : FD} {B N E g l cap i : Nat} {w : World} {b : Option Nat} {xs : List Value} {u : Value} (h : Own D B N w E (.slice (some ⟨g, 0, none⟩) l cap) b xs) (hE : E ≠ D.T) (hi : xs[i]? = some u) : KC D B w ⟨g, 0 + i, none⟩ u := by
  obtain ⟨g', o, e, hk, -⟩ := (h.row hE).kat hi
  injection e with e; injection e with e1 e2
  subst e1; subst e2
  exact hk
structure Wr (D : FD) (B N K : Nat) (w : World) (n m : Nat) (bs rc : Nat → Nat) (f : Tb) : Prop where
  row : ∀ i, i < n → Own D B N w D.E (.slice (some ⟨bs i, 0, none⟩) m (rc i)) (some (bs i)) (zints (trow m f i))
  inj : ∀ i j, i < n → j < n → bs i = bs j → i = j
  lt : ∀ i, i < n → bs i < K
section
variable {D : FD} {B N K n m : Nat} {w w' : World} {bs rc : Nat → Nat} {f g : Tb}
theorem Wr.nil : Wr D B N K w 0 m bs rc f := ⟨fun i h => by omega, fun i j h => by omega, fun i h => by omega⟩
theorem Wr.st (h : Wr D B N K w n m bs rc f) (hs : St D B w w') : Wr D B N K w' n m bs rc f := ⟨fun i hi => (h.row i hi).st D.ne hs, h.inj, h.lt⟩
theorem Wr.mb0 (h : Wr D B N K w n m bs rc f) (hm : Mb D B none w w') : Wr D B N K w' n m bs rc f := ⟨fun i hi => (h.row i hi).mb hm (fun _ _ => by simp), h.inj, h.lt⟩
theorem Wr.mbx {c : Option Nat} (h : Wr D B N K w n m bs rc f) (hm : Mb D B c w w') (hc : ∀ k, c = some k → K ≤ k) : Wr D B N K w' n m bs rc f :=
  ⟨fun i hi => (h.row i hi).mb hm (fun k e e2 => by have h1 := hc k e2; have h2 := h.lt i hi; obtain rfl := Option.some.inj e; omega), h.inj, h.lt⟩
theorem Wr.mbo {N' E2 : Nat} {c : Option Nat} {v : Value} {xs : List Value} (h : Wr D B N K w n m bs rc f) (hm : Mb D B c w w') (ho : Own D B N' w E2 v c xs) (hE : D.E ≠ E2) : Wr D B N K w' n m bs rc f :=
  ⟨fun i hi => (h.row i hi).mb hm ((h.row i hi).ne_type ho hE), h.inj, h.lt⟩
theorem Wr.ge (h : Wr D B N K w n m bs rc f) {i : Nat} (hi : i < n) : N ≤ bs i ∧ bs i < w.heap.size := (h.row i hi).lt _ rfl
theorem Wr.ne (h : Wr D B N K w n m bs rc f) {i p : Nat} (hi : i < n) (hp : K ≤ p) : some (bs i) ≠ some p := fun e => by have h1 := h.lt i hi; injection e with e; omega
theorem Wr.set {i : Nat} (h : Wr D B N K w n m bs rc f) (hi : i < n) (hm : Mb D B (some (bs i)) w w') (ho : Own D B N w' D.E (.slice (some ⟨bs i, 0, none⟩) m (rc i)) (some (bs i)) (zints (trow m g i))) (hf : ∀ a, a < n → a ≠ i → ∀ j, j < m → g a j = f a j) : Wr D B N K w' n m bs rc g :=
  ⟨fun a ha => by
    by_cases e : a = i
    · subst e; exact ho
    · rw [trow_congr (hf a ha e)]
      exact (h.row a ha).mb hm (fun k e1 e2 => e (h.inj a i ha hi (Option.some.inj (e1.trans e2.symm)))), h.inj, h.lt⟩
theorem Wr.congr (h : Wr D B N K w n m bs rc f) (hf : ∀ i, i < n → ∀ j, j < m → f i j = g i j) : Wr D B N K w n m bs rc g :=
  ⟨fun i hi => by rw [← trow_congr (hf i hi)]; exact h.row i hi, h.inj, h.lt⟩
theorem Wr.sw {t k : Nat} (h : Wr D B N K w n m bs rc f) (ht : t < n) (hk : k < n) : Wr D B N K w n m (fun i => bs (Fld.sw t k i)) (fun i => rc (Fld.sw t k i)) (fun i j => f (Fld.sw t k i) j) :=
  ⟨fun i hi => h.row _ (Fld.sw_lt ht hk hi), fun i j hi hj e => by
    have h1 := h.inj _ _ (Fld.sw_lt ht hk hi) (Fld.sw_lt ht hk hj) e
    rw [← Fld.sw_sw t k i, h1, Fld.sw_sw], fun i hi => h.lt _ (Fld.sw_lt ht hk hi)⟩
theorem Wr.rd (h : Wr D B N K w n m bs rc f) {i j : Nat} (hi : i < n) (hj : j < m) : KC D B w ⟨bs i, 0 + j, none⟩ (.int .i64 (f i j : Int)) := (h.row i hi).kc D.ne (zints_at (trow_at hj))
theorem Wr.le {N' : Nat} (h : Wr D B N K w n m bs rc f) (hN : N' ≤ N) : Wr D B N' K w n m bs rc f := ⟨fun i hi => (h.row i hi).le hN, h.inj, h.lt⟩
theorem Wr.up {K' : Nat} (h : Wr D B N K w n m bs rc f) (hK : K ≤ K') : Wr D B N K' w n m bs rc f := ⟨h.row, h.inj, fun i hi => Nat.lt_of_lt_of_le (h.lt i hi) hK⟩
theorem Wr.snoc {gx cx : Nat} (h : Wr D B N K w n m bs rc f) (ho : Own D B N w D.E (.slice (some ⟨gx, 0, none⟩) m cx) (some gx) (zints (trow m f n))) (hK : K ≤ gx) :
    Wr D B N w.heap.size w (n + 1) m (fun a => if a = n then gx else bs a) (fun a => if a = n then cx else rc a) f := by
  have key : ∀ i, i < n + 1 → i ≠ n → i < n := fun i h1 h2 => by omega
  refine ⟨fun i hi => ?_, fun i j hi hj e => ?_, fun i hi => ?_⟩
  · by_cases e : i = n
    · subst e; simp only [if_true]; exact ho
    · simp only [if_neg e]; exact h.row i (key i hi e)
  · by_cases e1 : i = n <;> by_cases e2 : j = n
    · omega
    · have := h.lt j (key j hj e2); simp only [if_pos e1, if_neg e2] at e; omega
    · have := h.lt i (key i hi e1); simp only [if_neg e1, if_pos e2] at e; omega
    · simp only [if_neg e1, if_neg e2] at e; exact h.inj i j (key i hi e1) (key j hj e2) e
  · by_cases e : i = n
    · subst e; simp only [if_true]; exact (ho.lt _ rfl).2
    · simp only [if_neg e]; exact (h.ge (key i hi e)).2
theorem vls_snoc {gx cx : Nat} : vls (n + 1) m (fun a => if a = n then gx else bs a) (fun a => if a = n then cx else rc a) = vls n m bs rc ++ [.slice (some ⟨gx, 0, none⟩) m cx] := by
  unfold vls
  rw [List.range_succ, List.map_append]
  congr 1
  · refine List.map_congr_left fun i hi => ?_
    have := List.mem_range.1 hi
    dsimp only
    rw [if_neg (by omega), if_neg (by omega)]
  · simp
theorem Wr.mat {E2 gb cap : Nat} {b : Option Nat} {sa : Option Addr} (h : Wr D B N K w n m bs rc f) (ho : Own D B N w E2 (.slice sa n cap) b (vls n m bs rc)) (hE : E2 ≠ D.T) : Mat D B w.heap.size w sa cap (tab n m f) := by
  refine ⟨vls n m bs rc, by rw [vls_length, tab_length], ?_, fun j v r hv hr => ?_⟩
  · have := ho.row hE
    rw [tab_length]; exact this
  · have hj : j < n := by simpa using (List.getElem?_eq_some_iff.1 hv).1
    rw [vls_at hj] at hv
    rw [tab_at hj] at hr
    obtain rfl := Option.some.inj hv
    obtain rfl := Option.some.inj hr
    exact (h.row j hj).row D.ne
end
theorem tab_mem {n m t : Nat} {f : Tb} {r : List Int} (h : r ∈ (tab n m f).drop t) : r.length = m := by
  obtain ⟨i, _, rfl⟩ := List.mem_map.1 (List.mem_of_mem_drop h)
  simp
theorem ginv_fld {wb p x : Nat} (hp : Prm wb p) (hx : x < 2 ^ wb) (h0 : x ≠ 0) : ginv (some (wb, p)) (x : Int) = (hp.fld.inv x : Int) := by
  rw [ginv_nat hp hx h0]
  unfold Fld.inv
  rw [hp.fld_w, show hp.fld.pow x (2 ^ wb - 2) = Px.pow x p (2 ^ wb - 2) from fld_pow p hp.irrP x _]
theorem bes_row (m k : Nat) (f g : Tb) (i : Nat) : ([trow m f i, trow k g i] : Mtx).flatten = trow (m + k) (Fld.bes m f g) i := by
  simp only [List.flatten_cons, List.flatten_nil, List.append_nil]
  unfold trow
  rw [List.range_add, List.map_append, List.map_map]
  congr 1
  · refine List.map_congr_left fun j hj => ?_
    unfold Fld.bes; rw [if_pos (List.mem_range.1 hj)]
  · refine List.map_congr_left fun j hj => ?_
    simp only [Function.comp]
    unfold Fld.bes; rw [if_neg (by omega), Nat.add_sub_cancel_left]
theorem piv_idx {n m c t : Nat} {f : Tb} (hc : c < m) (ht : t ≤ n) {p : List Int → Bool} (hp : ∀ r, p r = decide (r.getD c 0 ≠ 0)) :
    (idxZ p ((tab n m f).drop t) = -1 ∧ Fld.piv f n c t (n - t) = none) ∨ ∃ k, Fld.piv f n c t (n - t) = some k ∧ t ≤ k ∧ k < n ∧ idxZ p ((tab n m f).drop t) = (k : Int) - (t : Int) := by
  have hpi : ∀ i, i < n → p (trow m f i) = decide (f i c ≠ 0) := fun i hi => by
    rw [hp, getD_at (trow_at hc)]
    congr 1
    simp
  have hat : ∀ j r, ((tab n m f).drop t)[j]? = some r → t + j < n ∧ r = trow m f (t + j) := fun j r h => by
    rw [List.getElem?_drop] at h
    have hl := (List.getElem?_eq_some_iff.1 h).1
    rw [tab_length] at hl
    rw [tab_at hl] at h
    exact ⟨hl, (Option.some.inj h).symm⟩
  cases hk : Fld.piv f n c t (n - t) with
  | none =>
    refine .inl ⟨idxZ_no fun r hr => ?_, rfl⟩
    obtain ⟨j, hj⟩ := List.getElem?_of_mem hr
    obtain ⟨h1, rfl⟩ := hat j r hj
    rw [hpi _ h1, Fld.piv_none hk (t + j) (by omega) (by omega)]
    simp
  | some k =>
    obtain ⟨k1, k2, k3, k4⟩ := Fld.piv_some hk
    refine .inr ⟨k, rfl, k1, by omega, ?_⟩
    have e : idxZ p ((tab n m f).drop t) = ((k - t : Nat) : Int) := by
      refine idxZ_at (x := trow m f k) (fun r hr => ?_) ?_ ?_
      · obtain ⟨j, hj⟩ := List.getElem?_of_mem hr
        rw [List.getElem?_take] at hj
        split at hj
        · rename_i hlt
          obtain ⟨h1, rfl⟩ := hat j r hj
          rw [hpi _ h1, k4 (t + j) (by omega) (by omega)]
          simp
        · cases hj
      · rw [List.getElem?_drop, show t + (k - t) = k by omega, tab_at (by omega)]; rfl
      · rw [hpi k (by omega)]; simpa using k3
    rw [e]; omega
/-! ### what the functions of package invert tell -/
theorem Mx.bd {wb p n m : Nat} {a : Mtx} (hp : Prm wb p) (h : Mx wb n m a) : hp.fld.Bd (en a) := fun i j => by
  rw [hp.fld_w]
  have h0 : 0 < 2 ^ wb := Nat.two_pow_pos _
  by_cases hi : i < n
  · by_cases hj : j < m
    · exact h.lt hi hj
    · obtain ⟨r, hr⟩ : ∃ r, a[i]? = some r := ⟨_, List.getElem?_eq_getElem (by rw [h.1]; exact hi)⟩
      have hl := (h.2 r (List.mem_of_getElem? hr)).1
      unfold en
      rw [List.getD_eq_getElem?_getD, List.getD_eq_getElem?_getD, hr, Option.getD_some, List.getElem?_eq_none (by omega)]
      exact h0
  · unfold en
    have e : a[i]? = none := List.getElem?_eq_none (by rw [h.1]; omega)
    simp [List.getD_eq_getElem?_getD, e, h0]
def sqM (o : Fq) (a : Mtx) : Bool := mayM o a && decide (a.length = wid a)
section
variable {wb p : Nat} (hp : Prm wb p)
def invR (a : Mtx) : Int × Mtx := if sqM (some (wb, p)) a = true then (match hp.fld.iv a.length (en a) with | none => (2, []) | some g => (0, tab a.length a.length g)) else (1, [])
def rankR (a : Mtx) : Int × Int := if mayM (some (wb, p)) a = true then ((hp.fld.rk a.length (en a) (wid a) : Nat), 0) else (0, 1)
def solR (a : Mtx) (v : List Int) : Int × List Int := if sqM (some (wb, p)) a = true ∧ v.length = a.length ∧ (∀ x ∈ v, inF (some (wb, p)) x = true) then (match hp.fld.iv a.length (en a) with | none => (2, []) | some g => (0, (applyM (some (wb, p)) (tab a.length a.length g) v).getD [])) else (1, [])
theorem sqM_Mx {a : Mtx} (h : sqM (some (wb, p)) a = true) : Mx wb a.length a.length a ∧ 1 ≤ a.length ∧ a.length ≤ 20 ∧ wid a = a.length := by
  simp only [sqM, Bool.and_eq_true, decide_eq_true_eq] at h
  obtain ⟨h1, h2, h3, h4, h5⟩ := mayM_Mx h.1
  rw [← h.2] at h1
  exact ⟨h1, h2, h3, h.2.symm⟩
theorem Mx.sq {n : Nat} {a : Mtx} (h : Mx wb n n a) (h1 : 1 ≤ n) (h2 : n ≤ 20) : sqM (some (wb, p)) a = true := by
  unfold sqM
  rw [h.may h1 h2 h1 h2, h.wid (by omega), h.1]; simp
theorem invR_bad {a : Mtx} (h : sqM (some (wb, p)) a = false) : invR hp a = (1, []) := by unfold invR; rw [h]; rfl
theorem invR_none {a : Mtx} (h : sqM (some (wb, p)) a = true) (hn : hp.fld.iv a.length (en a) = none) : invR hp a = (2, []) := by unfold invR; rw [if_pos h, hn]
theorem invR_some {a : Mtx} {g : Tb} (h : sqM (some (wb, p)) a = true) (hn : hp.fld.iv a.length (en a) = some g) : invR hp a = (0, tab a.length a.length g) := by unfold invR; rw [if_pos h, hn]
def half (n : Nat) (f : Tb) : Tb := fun i j => (hp.fld.red n (Fld.bes n f I1) n).1 i (n + j)
theorem iv_lt {n : Nat} {f : Tb} (h : hp.fld.rk n (Fld.bes n f I1) n < n) : hp.fld.iv n f = none := if_pos h
theorem iv_ge {n : Nat} {f : Tb} (h : ¬ hp.fld.rk n (Fld.bes n f I1) n < n) : hp.fld.iv n f = some (half hp n f) := if_neg h
theorem half_row (n : Nat) (f : Tb) (i : Nat) : (trow (n + n) (hp.fld.red n (Fld.bes n f I1) n).1 i).drop n = trow n (half hp n f) i := by
  unfold trow
  rw [List.range_add, List.map_append, List.drop_append_of_le_length (by simp), List.drop_of_length_le (by simp), List.nil_append, List.map_map]
  rfl
end
/-! ### one step of the reduction, as it is walked -/
namespace Fld
variable (F : Fld)
def sclF (t s J : Nat) (f : Tb) : Tb := fun i j => if i = t ∧ j < J then F.mul (f t j) s else f i j
def clrF (t i n J : Nat) (f : Tb) : Tb := fun a j => if a = i ∧ j < J then f a j ^^^ F.mul n (f t j) else f a j
def cleF (t c I : Nat) (f : Tb) : Tb := fun a j => if a < I ∧ a ≠ t then f a j ^^^ F.mul (f a c) (f t j) else f a j
theorem op_eq {n m t k c s : Nat} {f : Tb} (hc : c < m) : ∀ i, i < n → ∀ j, j < m → F.cleF t c n (F.sclF t s m (fun i j => f (sw t k i) j)) i j = F.op t k s (fun i => f (sw t k i) c) f i j := by
  intro i hi j hj
  have e : sw t k t = k := by unfold sw; rw [if_pos rfl]
  unfold cleF sclF op
  by_cases h : i = t
  · subst h
    simp only [ne_eq, not_true_eq_false, and_false, if_false, hj, and_self, if_true, e]
  · simp only [hi, ne_eq, h, not_false_eq_true, and_self, if_true, false_and, if_false, hj, true_and, e]
theorem red_full {n : Nat} {f : Tb} {c : Nat} (h : (F.red n f c).2 = n) : ∀ d, F.red n f (c + d) = F.red n f c
  | 0 => rfl
  | d + 1 => by
    rw [← Nat.add_assoc, red, red_full h d, h]
    unfold stp
    rw [Nat.sub_self]
    show ((F.red n f c).1, n) = F.red n f c
    exact Prod.ext rfl h.symm
theorem red_none {n : Nat} {f g : Tb} {c t : Nat} (h1 : (F.red n f c).1 = g) (h2 : (F.red n f c).2 = t) (h : piv g n c t (n - t) = none) : F.red n f (c + 1) = (g, t) := by
  subst h1; subst h2
  rw [red]; unfold stp; rw [h]
theorem red_some {n : Nat} {f g : Tb} {c t k : Nat} (h1 : (F.red n f c).1 = g) (h2 : (F.red n f c).2 = t) (h : piv g n c t (n - t) = some k) : F.red n f (c + 1) = (F.op t k (F.inv (g k c)) (fun i => g (sw t k i) c) g, t + 1) := by
  subst h1; subst h2
  rw [red]; unfold stp; rw [h]
theorem sclF_bd {t s J : Nat} {f : Tb} (h : F.Bd f) : F.Bd (F.sclF t s J f) := fun i j => by unfold sclF; split; exact F.lt _ _; exact h _ _
theorem cleF_bd {t c I : Nat} {f : Tb} (h : F.Bd f) : F.Bd (F.cleF t c I f) := fun i j => by unfold cleF; split; exact Px.xor_lt (h _ _) (F.lt _ _); exact h _ _
theorem clrF_bd {t i n J : Nat} {f : Tb} (h : F.Bd f) : F.Bd (F.clrF t i n J f) := fun a j => by unfold clrF; split; exact Px.xor_lt (h _ _) (F.lt _ _); exact h _ _
theorem clrF_at {t i n j : Nat} {f : Tb} (hne : i ≠ t) (l : Nat) : F.clrF t i n (j + 1) f i l = if l = j then F.clrF t i n j f i j ^^^ F.mul n (F.clrF t i n j f t j) else F.clrF t i n j f i l := by
  unfold clrF
  by_cases h : l = j
  · subst h; rw [if_pos rfl, if_pos (by omega), if_neg (by omega), if_neg (by omega)]
  · rw [if_neg h]
    by_cases h2 : l < j
    · rw [if_pos (by omega), if_pos (by omega)]
    · rw [if_neg (by omega), if_neg (by omega)]
theorem sclF_at {t s j : Nat} {f : Tb} (l : Nat) : F.sclF t s (j + 1) f t l = if l = j then F.mul (F.sclF t s j f t j) s else F.sclF t s j f t l := by
  unfold sclF
  by_cases h : l = j
  · subst h; rw [if_pos rfl, if_pos (by omega), if_neg (by omega)]
  · rw [if_neg h]
    by_cases h2 : l < j
    · rw [if_pos (by omega), if_pos (by omega)]
    · rw [if_neg (by omega), if_neg (by omega)]
theorem cleF_step {t c I m : Nat} {f : Tb} (hc : c < m) (hI : I ≠ t) : ∀ a, ∀ j, j < m → F.clrF t I (F.cleF t c I f I c) m (F.cleF t c I f) a j = F.cleF t c (I + 1) f a j := by
  intro a j hj
  have e1 : F.cleF t c I f I c = f I c := by unfold cleF; rw [if_neg (by omega)]
  have e2 : F.cleF t c I f t j = f t j := by unfold cleF; rw [if_neg (by omega)]
  unfold clrF
  rw [e1, e2]
  unfold cleF
  by_cases h : a = I
  · subst h; rw [if_pos ⟨rfl, hj⟩, if_neg (by omega), if_pos ⟨by omega, hI⟩]
  · rw [if_neg (by omega)]
    by_cases h2 : a < I ∧ a ≠ t
    · rw [if_pos h2, if_pos ⟨by omega, h2.2⟩]
    · rw [if_neg h2, if_neg (by omega)]
theorem cleF_skip {t c : Nat} {f : Tb} : ∀ a j, F.cleF t c t f a j = F.cleF t c (t + 1) f a j := by
  intro a j
  unfold cleF
  by_cases h : a < t ∧ a ≠ t
  · rw [if_pos h, if_pos ⟨by omega, h.2⟩]
  · rw [if_neg h, if_neg (by omega)]
end Fld
end Go.Gam

/- The walks of slices.Grow and slices.Concat over numbers, of rows side by side. -/
namespace Go.Proofs.YtkoiolamnnmokaaGreat
open Go Go.Gam
namespace FxFInvA
theorem en76 : Ent Tryz.prog 76 := ent Tryz.func76 (by kernel_rfl) (by kernel_rfl)
theorem en102 : Ent Tryz.prog 102 := ent Tryz.func102 (by kernel_rfl) (by kernel_rfl)
theorem sc53 : Scalar Tryz.prog 53 := ⟨_, Tryz.underlying53, by simp, by simp⟩
theorem sl35 : Sl Tryz.prog 35 53 (.slice none 0 0) 24 := sl_of Tryz.underlying35 rfl (by kernel_rfl)
theorem sl36 : Sl Tryz.prog 36 53 (.slice none 0 0) 24 := sl_of Tryz.underlying36 rfl (by kernel_rfl)
theorem sl53 : Sl Tryz.prog 53 3 (.int .i64 0) 8 := sl_of Tryz.underlying53 rfl (by kernel_rfl)
end FxFInvA
open FxFInvA
set_option maxRecDepth 100000 in
set_option maxHeartbeats 1000000 in
theorem Grow_nil (B m : Nat) (w : World) (hI : Inv FDx B w) (hm : m ≤ 1000000) : Ret Tryz.prog 102 [.slice none 0 0, .int .i64 (m : Int)] w fun v w' => ∃ ob, Gam.Own FDx B w.heap.size w' FDx.E v ob [] ∧ St FDx B w w' := by
 refine enter 27 [(0, .slice none 0 0), (1, .int .i64 (m : Int))] 4 Tryz.func102 rfl rfl rfl rfl rfl ?_; intro a hF
 have hS := St.refl hI
 refine W_sr rfl fun K hK => ?_
 refine svw hK hF (v_assign rfl) rfl ?_; clear hF a hK K; intro a hF
 refine W_seq ?_
 refine W_sr rfl fun K hK => ?_
 refine sv2w hK hF (v_move rfl) ((v_lss rfl rfl).as (congrArg Value.bool (decide_eq_false (by omega)))) rfl rfl ?_; clear hF a hK K; intro a hF
 replace hF := hF.sub _ (c_ 6 rfl (c_ 4 rfl (c_ 0 rfl (c_ 1 rfl (n_)))))
 refine W_ifF hF rfl ?_
 refine W_skip ?_
 refine W_seq ?_
 refine W_sr rfl fun K hK => ?_
 refine sv6 hF (v_move rfl) (v_move rfl) (v_capS rfl sl53 rfl) (v_move rfl) (v_lenS rfl sl53 rfl) (v_subI rfl rfl (by omega)) rfl rfl rfl rfl rfl rfl ?_; clear hF a; intro a hF
 refine sv2w hK hF (v_subI rfl rfl (by omega)) (v_assign rfl) rfl rfl ?_; clear hF a hK K; intro a hF
 replace hF := hF.sub _ (c_ 1 rfl (c_ 4 rfl (c_ 0 rfl (n_))))
 refine W_sr rfl fun K hK => ?_
 refine sv2w hK hF (v_move rfl) (v_gtr rfl rfl) rfl rfl ?_; clear hF a hK K; intro a hF
 replace hF := hF.sub _ (c_ 16 rfl (c_ 1 rfl (c_ 4 rfl (c_ 0 rfl (n_)))))
 refine W_if hF rfl (fun hc1 => ?_) (fun hc1 => ?_)
 ·
  skip
  try simp only [dcl] at hc1
  refine W_reg rfl fun K hK => ?_
  refine sv5 hF (v_move rfl) (v_move rfl) (v_capS rfl sl53 rfl) (v_slHi sl53 rfl rfl (by omega) (by omega)) (v_move rfl) rfl rfl rfl rfl rfl ?_; clear hF a; intro a hF
  refine s_appZ (D := FDx) (B := B) (m := m) hF rfl sl53 Tryz.underlying3 rfl rfl (by omega) (by omega) (by omega) (by decide) hS.inv rfl ?_; clear hF a; intro w' a c hm hI' hO hF
  replace hS := hS.mb0 hm
  clear hm hI'
  refine sv4w hK hF (v_move rfl) (v_lenS rfl sl53 rfl) (v_slHi sl53 rfl rfl (by omega) (by omega)) (v_assign rfl) rfl rfl rfl rfl ?_; clear hF a hK K; intro a hF
  replace hF := hF.sub _ (c_ 0 rfl (c_ 4 rfl (n_)))
  refine W_sr rfl fun K hK => ?_
  refine sv2w hK hF (v_move rfl) (v_assign rfl) rfl rfl ?_; clear hF a hK K; intro a hF
  replace hF := hF.sub _ (c_ 4 rfl (n_))
  refine W_ret ?_
  refine ⟨_, _, hF, rfl, ?_⟩
  exact ⟨_, (hO.to (hi := 0) (Nat.zero_le _)).cast (List.take_zero ..), hS⟩
 ·
  skip
  try simp only [dcl] at hc1
  refine W_skip ?_
  refine W_sr rfl fun K hK => ?_
  refine sv2w hK hF (v_move rfl) (v_assign rfl) rfl rfl ?_; clear hF a hK K; intro a hF
  replace hF := hF.sub _ (c_ 4 rfl (n_))
  refine W_ret ?_
  refine ⟨_, _, hF, rfl, ?_⟩
  exact ⟨none, Gam.Own.nil _ _ _ _ _, hS⟩
set_option maxRecDepth 100000 in
set_option maxHeartbeats 1000000 in
theorem Concat_ok (B M : Nat) (pmt : Option Addr) (cmt : Nat) (mt : Mtx) (w : World) (hI : Inv FDx B w) (hA : Mat FDx B M w pmt cmt mt) (hM : M ≤ w.heap.size) (hl : mt.length ≤ 100) (hb : ∀ r ∈ mt, r.length ≤ 1000) : Ret Tryz.prog 76 [.slice pmt mt.length cmt] w fun v w' => ∃ ob, Gam.Own FDx B w.heap.size w' FDx.E v ob (zints (mt.flatten)) ∧ St FDx B w w' := by
 refine enter 36 [(0, .slice pmt mt.length cmt)] 2 Tryz.func76 rfl rfl rfl rfl rfl ?_; intro a hF
 have hS := St.refl hI
 have hfl := flat_le hb
 refine W_sr rfl fun K hK => ?_
 refine svw hK hF (v_assign rfl) rfl ?_; clear hF a hK K; intro a hF
 refine W_sr rfl fun K hK => ?_
 refine svw hK hF (v_assign rfl) rfl ?_; clear hF a hK K; intro a hF
 refine W_seq ?_
 refine W_sr rfl fun K hK => ?_
 refine sv3w hK hF (v_move rfl) (v_lenS rfl sl35 rfl) (v_move rfl) rfl rfl rfl ?_; clear hF a hK K; intro a hF
 refine W_block ?_
 refine W_loop (fun m a w1 => ∃ (i : Nat), Fr 36 [(0, .slice pmt mt.length cmt), (3, .int .i64 (((mt.take i).flatten.length : Nat) : Int)), (9, .slice pmt mt.length cmt), (10, .int .i64 (mt.length : Int)), (11, .int .i64 (i : Int))] a ∧ (St FDx B w w1) ∧ (Mat FDx B M w1 pmt cmt mt) ∧ (i ≤ mt.length) ∧ (m + i = mt.length)) (mt.length) ?_ ?_
 ·
  skip
  exact ⟨0, hF.sub _ (c_ 0 rfl (c_ 3 rfl (c_ 9 rfl (c_ 10 rfl (c_ 11 rfl (n_)))))), hS, hA, by omega, by omega⟩
 ·
  skip
  clear hF
  clear hS hA
  rintro m a w1 ⟨i, hF, hS, hA, hi, hm⟩
  refine W_sr rfl fun K hK => ?_
  refine svw hK hF (v_lss rfl rfl) rfl ?_; clear hF a hK K; intro a hF
  refine W_seq ?_
  refine W_if hF rfl (fun hc1 => ?_) (fun hc1 => ?_)
  ·
   skip
   try simp only [dcl] at hc1
   have hlt : i < mt.length := by omega
   obtain ⟨r, hr⟩ : ∃ z, mt[i]? = some z := ⟨_, List.getElem?_eq_getElem hlt⟩
   obtain ⟨gx, ox, pr, cr, hgx, hkc, hrow, -⟩ := hA.row hr
   have hrl := hb r (List.mem_of_getElem? hr)
   have hf1 := hfl i
   have hf2 := hfl (i + 1)
   have hf3 : ((mt.take (i + 1)).flatten.length : Int) = ((mt.take i).flatten.length : Int) + (r.length : Int) := by rw [flat_snoc hr, List.length_append]; omega
   subst hgx
   refine W_skip ?_
   refine W_seq ?_
   refine W_block ?_
   refine W_sr rfl fun K hK => ?_
   refine sv hF (v_ixS sl35 rfl rfl (by omega) (by omega)) rfl ?_; clear hF a; intro a hF
   refine sv hF (v_load sc53 rfl (by rw [toNat_c]; exact hkc.c)) rfl ?_; clear hF a; intro a hF
   refine svw hK hF (v_assign rfl) rfl ?_; clear hF a hK K; intro a hF
   replace hF := hF.sub _ (c_ 5 rfl (c_ 0 rfl (c_ 3 rfl (c_ 9 rfl (c_ 10 rfl (c_ 11 rfl (n_)))))))
   refine W_sr rfl fun K hK => ?_
   refine sv5w hK hF (v_move rfl) (v_move rfl) (v_lenS rfl sl53 rfl) ((v_addI rfl rfl (by omega)).as (congrArg _ hf3.symm)) (v_assign rfl) rfl rfl rfl rfl rfl ?_; clear hF a hK K; intro a hF
   replace hF := hF.sub _ (c_ 3 rfl (c_ 0 rfl (c_ 9 rfl (c_ 10 rfl (c_ 11 rfl (n_))))))
   refine W_sr rfl fun K hK => ?_
   refine sv2w hK hF (v_move rfl) ((v_lss rfl rfl).as (congrArg Value.bool (decide_eq_false (by omega)))) rfl rfl ?_; clear hF a hK K; intro a hF
   replace hF := hF.sub _ (c_ 20 rfl (c_ 3 rfl (c_ 0 rfl (c_ 9 rfl (c_ 10 rfl (c_ 11 rfl (n_)))))))
   refine W_ifF hF rfl ?_
   refine W_skip ?_
   refine W_reg rfl fun K hK => ?_
   refine sv2w hK hF (v_addI rfl rfl (by omega)) (v_move rfl) rfl rfl ?_; clear hF a hK K; intro a hF
   replace hF := hF.sub _ (c_ 11 rfl (c_ 22 rfl (c_ 3 rfl (c_ 0 rfl (c_ 9 rfl (c_ 10 rfl (n_)))))))
   exact ⟨m - 1, by omega, i + 1, hF.sub _ (c_ 0 rfl (c_ 3 rfl (c_ 9 rfl (c_ 10 rfl (c_ 11 rfl (n_)))))), hS, hA, by omega, by omega⟩
  ·
   skip
   try simp only [dcl] at hc1
   refine W_exit rfl ?_
   obtain rfl : i = mt.length := by omega
   have hf1 := hfl mt.length
   rw [List.take_length] at hF hf1
   refine W_sr rfl fun K hK => ?_
   refine sv hF (v_move rfl) rfl ?_; clear hF a; intro a hF
   refine sc hF rfl rfl rfl en102 rfl (Grow_nil B mt.flatten.length _ hS.inv (by omega)) ?_; clear hF a; intro v w' a hv hF
   obtain ⟨ob, hO, hS'⟩ := hv
   replace hO := hO.le hS.ext.size
   replace hA := hA.st hS'
   replace hS := hS.trans hS'
   clear hS'
   refine svw hK hF (v_assign rfl) rfl ?_; clear hF a hK K; intro a hF
   replace hF := hF.sub _ (c_ 6 rfl (c_ 24 rfl (c_ 23 rfl (c_ 0 rfl (c_ 3 rfl (c_ 9 rfl (c_ 10 rfl (c_ 11 rfl (n_)))))))))
   refine W_seq ?_
   refine W_sr rfl fun K hK => ?_
   refine sv3w hK hF (v_move rfl) (v_lenS rfl sl35 rfl) (v_move rfl) rfl rfl rfl ?_; clear hF a hK K; intro a hF
   refine W_block ?_
   refine W_loop (fun m2 a w2 => ∃ (i : Nat) (v6 : Value) (b6 : Option Nat), Fr 36 [(6, v6), (25, .slice pmt mt.length cmt), (26, .int .i64 (mt.length : Int)), (27, .int .i64 (i : Int))] a ∧ (St FDx B w w2) ∧ (Mat FDx B M w2 pmt cmt mt) ∧ (Gam.Own FDx B w.heap.size w2 FDx.E v6 b6 (zints (mt.take i).flatten)) ∧ (i ≤ mt.length) ∧ (m2 + i = mt.length)) (mt.length) ?_ ?_
   ·
    skip
    exact ⟨0, _, _, hF.sub _ (c_ 6 rfl (c_ 25 rfl (c_ 26 rfl (c_ 27 rfl (n_))))), hS, hA, hO.cast rfl, by omega, by omega⟩
   ·
    skip
    clear hF
    clear hS hA hO
    rintro m2 a w2 ⟨i, v6, b6, hF, hS, hA, hO, hi, hm2⟩
    refine W_sr rfl fun K hK => ?_
    refine svw hK hF (v_lss rfl rfl) rfl ?_; clear hF a hK K; intro a hF
    refine W_seq ?_
    refine W_if hF rfl (fun hc2 => ?_) (fun hc2 => ?_)
    ·
     skip
     try simp only [dcl] at hc2
     have hlt : i < mt.length := by omega
     obtain ⟨r, hr⟩ : ∃ z, mt[i]? = some z := ⟨_, List.getElem?_eq_getElem hlt⟩
     obtain ⟨gx, ox, pr, cr, hgx, hkc, hrow, -⟩ := hA.row hr
     have hrl := hb r (List.mem_of_getElem? hr)
     have hf1 := hfl i
     have hzl := zints_length (mt.take i).flatten
     have hzr := zints_length r
     subst hgx
     refine W_skip ?_
     refine W_seq ?_
     refine W_block ?_
     refine W_sr rfl fun K hK => ?_
     refine sv hF (v_ixS sl35 rfl rfl (by omega) (by omega)) rfl ?_; clear hF a; intro a hF
     refine sv hF (v_load sc53 rfl (by rw [toNat_c]; exact hkc.c)) rfl ?_; clear hF a; intro a hF
     refine svw hK hF (v_assign rfl) rfl ?_; clear hF a hK K; intro a hF
     refine W_reg rfl fun K hK => ?_
     refine sv2 hF (v_move rfl) (v_move rfl) rfl rfl ?_; clear hF a; intro a hF
     refine s_app (D := FDx) (B := B) hF rfl sl53 rfl rfl hO (hrow) (by intro u hu; obtain ⟨_, _, rfl⟩ := List.mem_map.1 hu; rfl) (by rw [hzl, hzr]; omega) (by rw [hzl, hzr]; simp only [maxLen]; omega) (hS.ext.size) (by decide) hS.inv rfl ?_; clear hF a; intro v' b' w' a ho' hm hI' hb' hF
     replace hA := hA.mb hm (fun k h => Nat.le_trans (hM) (hO.lt k h).1)
     replace hS := hS.mb hm (fun k h => Nat.le_trans (Nat.le_refl _) (hO.lt k h).1)
     replace hO := ho'
     clear hm hI' ho'
     refine svw hK hF (v_assign rfl) rfl ?_; clear hF a hK K; intro a hF
     refine W_reg rfl fun K hK => ?_
     refine sv2w hK hF (v_addI rfl rfl (by omega)) (v_move rfl) rfl rfl ?_; clear hF a hK K; intro a hF
     exact ⟨m2 - 1, by omega, i + 1, _, _, hF.sub _ (c_ 6 rfl (c_ 25 rfl (c_ 26 rfl (c_ 27 rfl (n_))))), hS, hA, hO.cast (by rw [flat_snoc hr]; simp [zints]), by omega, by omega⟩
    ·
     skip
     try simp only [dcl] at hc2
     refine W_exit rfl ?_
     refine W_sr rfl fun K hK => ?_
     refine sv2w hK hF (v_move rfl) (v_assign rfl) rfl rfl ?_; clear hF a hK K; intro a hF
     refine W_ret ?_
     refine ⟨_, _, hF, rfl, ?_⟩
     obtain rfl : i = mt.length := by omega
     rw [List.take_length] at hO
     exact ⟨_, hO, hS⟩
set_option maxRecDepth 100000 in
set_option maxHeartbeats 1000000 in
theorem beside_ok (B M n m k : Nat) (pa pb : Option Addr) (ca cb : Nat) (f g : Tb) (w : World) (hI : Inv FDx B w) (hM : M ≤ w.heap.size) (hA : Mat FDx B M w pa ca (tab n m f)) (hB : Mat FDx B M w pb cb (tab n k g)) (hn : 1 ≤ n ∧ n ≤ 20) (hm : 1 ≤ m ∧ m ≤ 20) (hk : k ≤ 20) : Ret Tryz.prog 42 [.slice pa n ca, .slice pb n cb] w fun v w' => ∃ gv cap bs rc, v = .slice (some ⟨gv, 0, none⟩) n cap ∧ Gam.Own FDx B w.heap.size w' 53 v (some gv) (vls n (m + k) bs rc) ∧ Wr FDx B w.heap.size w'.heap.size w' n (m + k) bs rc (Fld.bes m f g) ∧ St FDx B w w' := by
 refine enter 27 [(0, .slice pa n ca), (1, .slice pb n cb)] 4 Tryz.func42 rfl rfl rfl rfl rfl ?_; intro a hF
 have hS := St.refl hI
 have htn := tab_length n m f
 have htl := tab_length n k g
 refine W_sr rfl fun K hK => ?_
 refine svw hK hF (v_assign rfl) rfl ?_; clear hF a hK K; intro a hF
 refine W_sr rfl fun K hK => ?_
 refine svw hK hF (v_assign rfl) rfl ?_; clear hF a hK K; intro a hF
 refine W_seq ?_
 refine W_sr rfl fun K hK => ?_
 refine sv3w hK hF (v_move rfl) (v_lenS rfl sl36 rfl) (v_move rfl) rfl rfl rfl ?_; clear hF a hK K; intro a hF
 replace hF := hF.sub _ (c_ 10 rfl (c_ 9 rfl (c_ 8 rfl (c_ 5 rfl (c_ 4 rfl (c_ 1 rfl (n_)))))))
 refine W_block ?_
 refine W_loop (fun q a w1 => ∃ (i : Nat) (v5 : Value) (b5 : Option Nat) (bs rc : Nat → Nat), Fr 27 [(1, .slice pb n cb), (5, v5), (8, .slice pa n ca), (9, .int .i64 (n : Int)), (10, .int .i64 (i : Int))] a ∧ (St FDx B w w1) ∧ (Mat FDx B M w1 pa ca (tab n m f)) ∧ (Mat FDx B M w1 pb cb (tab n k g)) ∧ (Gam.Own FDx B w.heap.size w1 53 v5 b5 (vls i (m + k) bs rc)) ∧ (Wr FDx B w.heap.size w1.heap.size w1 i (m + k) bs rc (Fld.bes m f g)) ∧ (i ≤ n) ∧ (q + i = n)) (n) ?_ ?_
 ·
  skip
  exact ⟨0, _, none, id, id, hF.sub _ (c_ 1 rfl (c_ 5 rfl (c_ 8 rfl (c_ 9 rfl (c_ 10 rfl (n_)))))), hS, hA, hB, Gam.Own.nil _ _ _ _ _, Wr.nil, by omega, by omega⟩
 ·
  skip
  clear hF
  clear hS hA hB
  rintro q a w1 ⟨i, v5, b5, bs, rc, hF, hS, hA, hB, hO, hW, hi, hq⟩
  obtain ⟨K, hKe⟩ : ∃ K, K = w1.heap.size := ⟨_, rfl⟩
  rw [← hKe] at hW
  have hKs : K ≤ w1.heap.size := by omega
  have hNK : w.heap.size ≤ K := by have := hS.ext.size; omega
  clear hKe
  refine W_sr rfl fun K hK => ?_
  refine svw hK hF (v_lss rfl rfl) rfl ?_; clear hF a hK K; intro a hF
  refine W_seq ?_
  refine W_if hF rfl (fun hc1 => ?_) (fun hc1 => ?_)
  ·
   skip
   try simp only [dcl] at hc1
   have hlt : i < n := by omega
   obtain ⟨ga, oa, pa, ca, hga, hka, hra, -⟩ := hA.row (tab_at (f := f) (m := m) hlt)
   subst hga
   obtain ⟨gb, ob, pb, cb, hgb, hkb, hrb, -⟩ := hB.row (tab_at (f := g) (m := k) hlt)
   subst hgb
   have hla : ((List.range m).map fun j => (f i j : Int)).length = m := by simp
   have hlb : ((List.range k).map fun j => (g i j : Int)).length = k := by simp
   have hvl := vls_length i (m + k) bs rc
   refine W_skip ?_
   refine W_seq ?_
   refine W_block ?_
   refine W_sr rfl fun K hK => ?_
   refine sv2 hF (v_move rfl) (v_ixS sl36 rfl rfl (by omega) (by omega)) rfl rfl ?_; clear hF a; intro a hF
   refine sv hF (v_load sc53 rfl (by rw [toNat_c]; exact hka.c)) rfl ?_; clear hF a; intro a hF
   refine sv2w hK hF (v_assign rfl) (v_assign rfl) rfl rfl ?_; clear hF a hK K; intro a hF
   replace hF := hF.sub _ (c_ 7 rfl (c_ 6 rfl (c_ 1 rfl (c_ 5 rfl (c_ 8 rfl (c_ 9 rfl (c_ 10 rfl (n_))))))))
   refine W_reg rfl fun K hK => ?_
   refine sv5 hF (v_move rfl) (v_move rfl) (v_move rfl) (v_move rfl) (v_ixS sl36 rfl rfl (by omega) (by omega)) rfl rfl rfl rfl rfl ?_; clear hF a; intro a hF
   refine sv hF (v_load sc53 rfl (by rw [toNat_c]; exact hkb.c)) rfl ?_; clear hF a; intro a hF
   refine s_bs (D := FDx) (B := B) hF sl35 rfl rfl (by decide) (by simp [Value.cells]) (by decide) hS.inv rfl ?_; clear hF a; intro w' a hm hI' hL2 hF
   replace hA := hA.mb hm (fun _ h => by cases h)
   replace hB := hB.mb hm (fun _ h => by cases h)
   replace hO := hO.mb hm (fun _ _ => by simp)
   replace hW := hW.mb0 hm
   replace hKs := Nat.le_trans hKs hm.size
   replace hra := hra.mb hm (fun _ h => by cases h)
   replace hrb := hrb.mb hm (fun _ h => by cases h)
   replace hS := hS.mb0 hm
   clear hm hI'
   refine sc hF rfl rfl rfl en76 rfl (Concat_ok B _ _ _ [trow m f i, trow k g i] _ hS.inv (Mat.two hL2 (by decide) (hra.mono (Nat.le_trans hM hS.ext.size)) (hrb.mono (Nat.le_trans hM hS.ext.size))) (Nat.le_refl _) (by simp) (by intro r hr; simp at hr; rcases hr with rfl | rfl <;> simp <;> omega)) ?_; clear hF a; intro v w' a hv hF
   obtain ⟨ob, hC, hS'⟩ := hv
   replace hC := (hC.le hKs).cast (congrArg zints (bes_row m k f g i))
   obtain ⟨gx, cx, rfl, rfl⟩ := hC.ptr (by simp; omega)
   rw [zints_length, trow_length] at hC hF
   clear hL2
   replace hA := hA.st hS'
   replace hB := hB.st hS'
   replace hO := hO.st (by decide) hS'
   replace hW := hW.st hS'
   replace hKs := Nat.le_trans hKs hS'.ext.size
   replace hra := hra.st hS'
   replace hrb := hrb.st hS'
   replace hS := hS.trans hS'
   clear hS'
   refine s_bs (D := FDx) (B := B) hF sl36 rfl rfl (by decide) (by simp [Value.cells]) (by decide) hS.inv rfl ?_; clear hF a; intro w' a hm hI' hL hF
   replace hA := hA.mb hm (fun _ h => by cases h)
   replace hB := hB.mb hm (fun _ h => by cases h)
   replace hO := hO.mb hm (fun _ _ => by simp)
   replace hW := hW.mb0 hm
   replace hKs := Nat.le_trans hKs hm.size
   replace hC := hC.mb hm (fun _ _ => by simp)
   replace hS := hS.mb0 hm
   clear hm hI'
   refine s_app (D := FDx) (B := B) hF rfl sl36 rfl rfl hO (hL.row (by decide)) (by simp [Value.oneCell']) (by simp; omega) (by simp [maxLen]; omega) (hS.ext.size) (by decide) hS.inv rfl ?_; clear hF a; intro v' b' w' a ho' hm hI' hb' hF
   replace hA := hA.mb hm (fun k h => Nat.le_trans (hM) (hO.lt k h).1)
   replace hB := hB.mb hm (fun k h => Nat.le_trans (hM) (hO.lt k h).1)
   replace hW := hW.mbo hm hO (by decide)
   replace hKs := Nat.le_trans hKs hm.size
   replace hC := hC.mb hm (hC.ne_type hO (by decide))
   replace hS := hS.mb hm (fun k h => Nat.le_trans (Nat.le_refl _) (hO.lt k h).1)
   replace hO := ho'
   clear hm hI' ho'
   refine svw hK hF (v_assign rfl) rfl ?_; clear hF a hK K; intro a hF
   replace hF := hF.sub _ (c_ 5 rfl (c_ 1 rfl (c_ 8 rfl (c_ 9 rfl (c_ 10 rfl (n_))))))
   refine W_reg rfl fun K hK => ?_
   refine sv2w hK hF (v_addI rfl rfl (by omega)) (v_move rfl) rfl rfl ?_; clear hF a hK K; intro a hF
   exact ⟨q - 1, by omega, i + 1, _, _, _, _, hF.sub _ (c_ 1 rfl (c_ 5 rfl (c_ 8 rfl (c_ 9 rfl (c_ 10 rfl (n_)))))), hS, hA, hB, hO.cast vls_snoc.symm, hW.snoc (hC.le hNK) ((hC.lt _ rfl).1), by omega, by omega⟩
  ·
   skip
   try simp only [dcl] at hc1
   refine W_exit rfl ?_
   refine W_sr rfl fun K hK => ?_
   refine sv2w hK hF (v_move rfl) (v_assign rfl) rfl rfl ?_; clear hF a hK K; intro a hF
   replace hF := hF.sub _ (c_ 4 rfl (c_ 26 rfl (c_ 1 rfl (c_ 5 rfl (c_ 8 rfl (c_ 9 rfl (c_ 10 rfl (n_))))))))
   refine W_ret ?_
   refine ⟨_, _, hF, rfl, ?_⟩
   obtain rfl : i = n := by omega
   obtain ⟨gv, cap, rfl, rfl⟩ := hO.ptr (by simp; omega)
   exact ⟨gv, cap, bs, rc, by rw [vls_length], hO, hW.up hKs, hS⟩
end Go.Proofs.YtkoiolamnnmokaaGreat

/- The walks of package invert: rows reduced. -/
namespace Go.Proofs.YtkoiolamnnmokaaGreat
open Go Go.Gam
namespace FxFInvB
theorem en51 : Ent Tryz.prog 51 := ent Tryz.func51 (by kernel_rfl) (by kernel_rfl)
theorem hmix : Tryz.prog.follows .mixedOrders = true := by kernel_rfl
theorem on3 : Gam.One Tryz.prog 3 := by unfold Gam.One; kernel_rfl
theorem sc3 : Scalar Tryz.prog 3 := ⟨_, Tryz.underlying3, by simp, by simp⟩
theorem sc36 : Scalar Tryz.prog 36 := ⟨_, Tryz.underlying36, by simp, by simp⟩
theorem sc42 : Scalar Tryz.prog 42 := ⟨_, Tryz.underlying42, by simp, by simp⟩
theorem sc53 : Scalar Tryz.prog 53 := ⟨_, Tryz.underlying53, by simp, by simp⟩
theorem sl36 : Sl Tryz.prog 36 53 (.slice none 0 0) 24 := sl_of Tryz.underlying36 rfl (by kernel_rfl)
theorem sl53 : Sl Tryz.prog 53 3 (.int .i64 0) 8 := sl_of Tryz.underlying53 rfl (by kernel_rfl)
end FxFInvB
open FxFInvB
set_option maxRecDepth 100000 in
set_option maxHeartbeats 1000000 in
theorem clear_ok (B N KM wb p : Nat) (hp : Prm wb p) (fv : Value) (pf pa pt g cap n m : Nat) (bs rc : Nat → Nat) (f : Tb) (i t c : Nat) (w : World) (hI : Inv FDx B w) (hf : Fo FDx B w fv (some (wb, p))) (hkf : KC FDx B w ⟨pf, 0, none⟩ (fv)) (hka : KC FDx B w ⟨pa, 0, none⟩ (.slice (some ⟨g, 0, none⟩) n cap)) (hkt : KC FDx B w ⟨pt, 0, none⟩ (.int .i64 (t : Int))) (hKp : KM ≤ pf ∧ KM ≤ pa ∧ KM ≤ pt) (hO : Gam.Own FDx B N w 53 (.slice (some ⟨g, 0, none⟩) n cap) (some g) (vls n m bs rc)) (hW : Wr FDx B N KM w n m bs rc (f)) (hfb : hp.fld.Bd f) (hi : i < n) (ht : t < n) (hne : i ≠ t) (hc : c < m) (hnm : n ≤ 40 ∧ m ≤ 40) : Ret Tryz.prog 77 [.slice (some ⟨bs i, 0, none⟩) m (rc i), .int .i64 (c : Int), .pointer (some ⟨pf, 0, none⟩), .pointer (some ⟨pa, 0, none⟩), .pointer (some ⟨pt, 0, none⟩)] w fun v w' => v = .tuple #[] ∧ Gam.Own FDx B N w' 53 (.slice (some ⟨g, 0, none⟩) n cap) (some g) (vls n m bs rc) ∧ Wr FDx B N KM w' n m bs rc (hp.fld.clrF t i (f i c) m f) ∧ StZ FDx B (fun k => k = bs i) w w' := by
 refine enter0 35 [(0, .slice (some ⟨bs i, 0, none⟩) m (rc i)), (1, .int .i64 (c : Int)), (2, .pointer (some ⟨pf, 0, none⟩)), (3, .pointer (some ⟨pa, 0, none⟩)), (4, .pointer (some ⟨pt, 0, none⟩))]  Tryz.func77 rfl rfl rfl rfl rfl ?_; intro a hF
 have hS := StZ.refl (Z := fun k => k = bs i) hI
 have hfw := hp.fld_w
 refine W_sr rfl fun K hK => ?_
 refine sv3 hF (v_move rfl) (v_move rfl) (v_ixS sl53 rfl rfl (by omega) (by omega)) rfl rfl rfl ?_; clear hF a; intro a hF
 refine sv hF (v_load sc3 rfl (by rw [toNat_c]; exact (hW.rd hi hc).c)) rfl ?_; clear hF a; intro a hF
 refine svw hK hF (v_assign rfl) rfl ?_; clear hF a hK K; intro a hF
 replace hF := hF.sub _ (c_ 7 rfl (c_ 0 rfl (c_ 2 rfl (c_ 3 rfl (c_ 4 rfl (n_))))))
 refine W_sr rfl fun K hK => ?_
 refine sv3w hK hF (v_move rfl) (v_lenS rfl sl53 rfl) (v_move rfl) rfl rfl rfl ?_; clear hF a hK K; intro a hF
 replace hF := hF.sub _ (c_ 15 rfl (c_ 14 rfl (c_ 7 rfl (c_ 0 rfl (c_ 2 rfl (c_ 3 rfl (c_ 4 rfl (n_))))))))
 refine W_block ?_
 refine W_loop (fun q a w1 => ∃ (j : Nat), Fr 35 [(0, .slice (some ⟨bs i, 0, none⟩) m (rc i)), (2, .pointer (some ⟨pf, 0, none⟩)), (3, .pointer (some ⟨pa, 0, none⟩)), (4, .pointer (some ⟨pt, 0, none⟩)), (7, .int .i64 ((f i c : Nat) : Int)), (14, .int .i64 (m : Int)), (15, .int .i64 (j : Int))] a ∧ (StZ FDx B (fun k => k = bs i) w w1) ∧ (Fo FDx B w1 fv (some (wb, p))) ∧ (KC FDx B w1 ⟨pf, 0, none⟩ (fv)) ∧ (KC FDx B w1 ⟨pa, 0, none⟩ (.slice (some ⟨g, 0, none⟩) n cap)) ∧ (KC FDx B w1 ⟨pt, 0, none⟩ (.int .i64 (t : Int))) ∧ (Gam.Own FDx B N w1 53 (.slice (some ⟨g, 0, none⟩) n cap) (some g) (vls n m bs rc)) ∧ (Wr FDx B N KM w1 n m bs rc (hp.fld.clrF t i (f i c) j f)) ∧ (j ≤ m) ∧ (q + j = m)) (m) ?_ ?_
 ·
  skip
  exact ⟨0, hF.sub _ (c_ 0 rfl (c_ 2 rfl (c_ 3 rfl (c_ 4 rfl (c_ 7 rfl (c_ 14 rfl (c_ 15 rfl (n_)))))))), hS, hf, hkf, hka, hkt, hO, hW.congr (fun a _ l _ => by unfold Fld.clrF; rw [if_neg (by omega)]), by omega, by omega⟩
 ·
  skip
  clear hF
  clear hS hf hkf hka hkt hO hW
  rintro q a w1 ⟨j, hF, hS, hf, hkf, hka, hkt, hO, hW, hj, hq⟩
  refine W_sr rfl fun K hK => ?_
  refine svw hK hF (v_lss rfl rfl) rfl ?_; clear hF a hK K; intro a hF
  refine W_seq ?_
  refine W_if hF rfl (fun hc1 => ?_) (fun hc1 => ?_)
  ·
   skip
   try simp only [dcl] at hc1
   have hlt : j < m := by omega
   have hb1 := hp.fld.clrF_bd (t := t) (i := i) (n := f i c) (J := j) hfb
   have hb2 := hfb i c
   have hb3 := hb1 t j
   have hb4 := hb1 i j
   have hb5 := hp.fld.lt (f i c) ((hp.fld.clrF t i (f i c) j f) t j)
   rw [hfw] at hb2 hb3 hb4 hb5
   have h16 : 2 ^ wb ≤ 65536 := by rcases hp.w with h | h <;> rw [h] <;> decide
   have hJt : (hp.fld.clrF t i (f i c) (j + 1) f) t j = (hp.fld.clrF t i (f i c) j f) t j := by unfold Fld.clrF; rw [if_neg (by omega), if_neg (by omega)]
   refine W_skip ?_
   refine W_seq ?_
   refine W_block ?_
   refine W_sr rfl fun K hK => ?_
   refine sv2w hK hF (v_move rfl) (v_assign rfl) rfl rfl ?_; clear hF a hK K; intro a hF
   replace hF := hF.sub _ (c_ 8 rfl (c_ 0 rfl (c_ 2 rfl (c_ 3 rfl (c_ 4 rfl (c_ 7 rfl (c_ 14 rfl (c_ 15 rfl (n_)))))))))
   refine W_dS (fun (w2 : World) => w2.cell? ⟨pf, 0, none⟩ = some fv ∧ w2.cell? ⟨pa, 0, none⟩ = some (.slice (some ⟨g, 0, none⟩) n cap) ∧ w2.cell? ⟨pt, 0, none⟩ = some (.int .i64 (t : Int)) ∧ w2.cell? ⟨g, 0 + t, none⟩ = some (.slice (some ⟨bs t, 0, none⟩) m (rc t)) ∧ w2.cell? ⟨bs t, 0 + j, none⟩ = some (.int .i64 ((hp.fld.clrF t i (f i c) j f t j : Nat) : Int))) (m := 17) rfl hmix (fun K hK => ?_)
   have hS' := St.drew hS.inv
   replace hf := hf.st hS'
   replace hkf := hkf.st hS'
   replace hka := hka.st hS'
   replace hkt := hkt.st hS'
   replace hO := hO.st (by decide) hS'
   replace hW := hW.st hS'
   replace hS := hS.trans hS'
   clear hS'
   have hSS : (fun (w2 : World) => w2.cell? ⟨pf, 0, none⟩ = some fv ∧ w2.cell? ⟨pa, 0, none⟩ = some (.slice (some ⟨g, 0, none⟩) n cap) ∧ w2.cell? ⟨pt, 0, none⟩ = some (.int .i64 (t : Int)) ∧ w2.cell? ⟨g, 0 + t, none⟩ = some (.slice (some ⟨bs t, 0, none⟩) m (rc t)) ∧ w2.cell? ⟨bs t, 0 + j, none⟩ = some (.int .i64 ((hp.fld.clrF t i (f i c) j f t j : Nat) : Int))) _ := And.intro hkf.c (And.intro hka.c (And.intro hkt.c (And.intro (hO.kc (by decide) (vls_at ht)).c (by first | exact (hW.rd ht hlt).c | (have hct := (hW.rd ht hlt).c; rw [hJt] at hct; exact hct)))))
   refine b_v (i := 0) rfl (by kernel_rfl) hF (fun w2 hx => v_move rfl) rfl hSS ?_; clear hF a; intro a hF
   refine b_v (i := 1) rfl (by kernel_rfl) hF (fun w2 hx => v_move rfl) rfl hSS ?_; clear hF a; intro a hF
   refine b_v (i := 2) rfl (by kernel_rfl) hF (fun w2 hx => v_ixS sl53 rfl rfl (by omega) (by omega)) rfl hSS ?_; clear hF a; intro a hF
   refine b_v (i := 4) rfl (by kernel_rfl) hF (fun w2 hx => v_load sc42 rfl hx.1) rfl hSS ?_; clear hF a; intro a hF
   refine b_v (i := 5) rfl (by kernel_rfl) hF (fun w2 hx => v_move rfl) rfl hSS ?_; clear hF a; intro a hF
   refine b_v (i := 6) rfl (by kernel_rfl) hF (fun w2 hx => v_load sc36 rfl hx.2.1) rfl hSS ?_; clear hF a; intro a hF
   refine b_v (i := 7) rfl (by kernel_rfl) hF (fun w2 hx => v_load sc3 rfl hx.2.2.1) rfl hSS ?_; clear hF a; intro a hF
   refine b_v (i := 8) rfl (by kernel_rfl) hF (fun w2 hx => v_ixS sl36 rfl rfl (by omega) (by omega)) rfl hSS ?_; clear hF a; intro a hF
   refine b_v (i := 9) rfl (by kernel_rfl) hF (fun w2 hx => v_load sc53 rfl (by rw [toNat_c]; exact hx.2.2.2.1)) rfl hSS ?_; clear hF a; intro a hF
   refine b_v (i := 10) rfl (by kernel_rfl) hF (fun w2 hx => v_move rfl) rfl hSS ?_; clear hF a; intro a hF
   refine b_v (i := 11) rfl (by kernel_rfl) hF (fun w2 hx => v_ixS sl53 rfl rfl (by omega) (by omega)) rfl hSS ?_; clear hF a; intro a hF
   refine b_v (i := 12) rfl (by kernel_rfl) hF (fun w2 hx => v_load sc3 rfl (by rw [toNat_c]; exact hx.2.2.2.2)) rfl hSS ?_; clear hF a; intro a hF
   refine b_e2 (i := 3) (i' := 13) (by kernel_rfl) rfl rfl ?_ ?_
   ·
    skip
    refine sv hF (v_load sc3 rfl (by rw [toNat_c]; exact (hW.rd hi hlt).c)) rfl ?_; clear hF a; intro a hF
    refine WL_nil ⟨hSS, ?_⟩
    refine b_e (i := 13) (by kernel_rfl) rfl ?_
    refine sc hF rfl rfl rfl en51 rfl (Mul_gf B (some (wb, p)) fv ((f i c : Nat) : Int) (((hp.fld.clrF t i (f i c) j f) t j : Nat) : Int) _ hS.inv hf) ?_; clear hF a; intro v w' a hv hF
    obtain ⟨rfl, hS'⟩ := hv
    replace hf := hf.st hS'
    replace hkf := hkf.st hS'
    replace hka := hka.st hS'
    replace hkt := hkt.st hS'
    replace hO := hO.st (by decide) hS'
    replace hW := hW.st hS'
    replace hS := hS.trans hS'
    clear hS'
    rw [gmul_num hp hb2 hb3] at hF
    clear hSS
    have hSS : (fun (w2 : World) => w2.cell? ⟨pf, 0, none⟩ = some fv ∧ w2.cell? ⟨pa, 0, none⟩ = some (.slice (some ⟨g, 0, none⟩) n cap) ∧ w2.cell? ⟨pt, 0, none⟩ = some (.int .i64 (t : Int)) ∧ w2.cell? ⟨g, 0 + t, none⟩ = some (.slice (some ⟨bs t, 0, none⟩) m (rc t)) ∧ w2.cell? ⟨bs t, 0 + j, none⟩ = some (.int .i64 ((hp.fld.clrF t i (f i c) j f t j : Nat) : Int))) _ := And.intro hkf.c (And.intro hka.c (And.intro hkt.c (And.intro (hO.kc (by decide) (vls_at ht)).c (by first | exact (hW.rd ht hlt).c | (have hct := (hW.rd ht hlt).c; rw [hJt] at hct; exact hct)))))
    refine WL_nil ⟨hSS, ?_⟩
    refine b_v (i := 14) rfl (by kernel_rfl) hF (fun w2 hx => v_xorN rfl rfl (fits_i64 (by omega)) (fits_i64 (by omega))) rfl hSS ?_; clear hF a; intro a hF
    refine b_v (i := 15) rfl (by kernel_rfl) hF (fun w2 hx => v_ixS sl53 rfl rfl (by omega) (by omega)) rfl hSS ?_; clear hF a; intro a hF
    refine b_e (i := 16) (by kernel_rfl) rfl ?_
    have hR0 := hW.row i hi
    refine s_set (D := FDx) (B := B) hF on3 rfl (by rw [toNat_c, zints_length, trow_length]; omega) rfl rfl hR0 (by decide) hS.inv ?_; intro w' hm hI' ho'
    replace hf := hf.mb hm
    replace hkf := hkf.mb hm (hW.ne hi hKp.1)
    replace hka := hka.mb hm (hW.ne hi hKp.2.1)
    replace hkt := hkt.mb hm (hW.ne hi hKp.2.2)
    replace hO := hO.mb hm (hO.ne_type hR0 (by decide))
    replace hW := hW.set (g := hp.fld.clrF t i (f i c) (j + 1) f) hi hm (ho'.cast (by rw [toNat_c, Nat.zero_add, zints_set, trow_set (g := hp.fld.clrF t i (f i c) (j + 1) f)]; intro l hl; exact Fld.clrF_at _ hne l)) (fun a ha hai l hl => by unfold Fld.clrF; rw [if_neg (by omega), if_neg (by omega)])
    replace hS := hS.mb hm (fun k e => ⟨by cases e; rfl, hR0.isrow k e⟩)
    replace hR0 := ho'
    clear hm hI' ho'
    clear hR0
    clear hSS
    have hSS : (fun (w2 : World) => w2.cell? ⟨pf, 0, none⟩ = some fv ∧ w2.cell? ⟨pa, 0, none⟩ = some (.slice (some ⟨g, 0, none⟩) n cap) ∧ w2.cell? ⟨pt, 0, none⟩ = some (.int .i64 (t : Int)) ∧ w2.cell? ⟨g, 0 + t, none⟩ = some (.slice (some ⟨bs t, 0, none⟩) m (rc t)) ∧ w2.cell? ⟨bs t, 0 + j, none⟩ = some (.int .i64 ((hp.fld.clrF t i (f i c) j f t j : Nat) : Int))) _ := And.intro hkf.c (And.intro hka.c (And.intro hkt.c (And.intro (hO.kc (by decide) (vls_at ht)).c (by first | exact (hW.rd ht hlt).c | (have hct := (hW.rd ht hlt).c; rw [hJt] at hct; exact hct)))))
    refine WL_nil ⟨hSS, ?_⟩
    refine b_done (by kernel_rfl) (hK _ _ ?_)
    clear hK K
    replace hF := hF.sub _ (c_ 0 rfl (c_ 2 rfl (c_ 3 rfl (c_ 4 rfl (c_ 7 rfl (c_ 14 rfl (c_ 15 rfl (n_))))))))
    refine W_reg rfl fun K hK => ?_
    refine sv2w hK hF (v_addI rfl rfl (by omega)) (v_move rfl) rfl rfl ?_; clear hF a hK K; intro a hF
    exact ⟨q - 1, by omega, j + 1, hF.sub _ (c_ 0 rfl (c_ 2 rfl (c_ 3 rfl (c_ 4 rfl (c_ 7 rfl (c_ 14 rfl (c_ 15 rfl (n_)))))))), hS, hf, hkf, hka, hkt, hO, hW, by omega, by omega⟩
   ·
    skip
    refine sc hF rfl rfl rfl en51 rfl (Mul_gf B (some (wb, p)) fv ((f i c : Nat) : Int) (((hp.fld.clrF t i (f i c) j f) t j : Nat) : Int) _ hS.inv hf) ?_; clear hF a; intro v w' a hv hF
    obtain ⟨rfl, hS'⟩ := hv
    replace hf := hf.st hS'
    replace hkf := hkf.st hS'
    replace hka := hka.st hS'
    replace hkt := hkt.st hS'
    replace hO := hO.st (by decide) hS'
    replace hW := hW.st hS'
    replace hS := hS.trans hS'
    clear hS'
    rw [gmul_num hp hb2 hb3] at hF
    clear hSS
    have hSS : (fun (w2 : World) => w2.cell? ⟨pf, 0, none⟩ = some fv ∧ w2.cell? ⟨pa, 0, none⟩ = some (.slice (some ⟨g, 0, none⟩) n cap) ∧ w2.cell? ⟨pt, 0, none⟩ = some (.int .i64 (t : Int)) ∧ w2.cell? ⟨g, 0 + t, none⟩ = some (.slice (some ⟨bs t, 0, none⟩) m (rc t)) ∧ w2.cell? ⟨bs t, 0 + j, none⟩ = some (.int .i64 ((hp.fld.clrF t i (f i c) j f t j : Nat) : Int))) _ := And.intro hkf.c (And.intro hka.c (And.intro hkt.c (And.intro (hO.kc (by decide) (vls_at ht)).c (by first | exact (hW.rd ht hlt).c | (have hct := (hW.rd ht hlt).c; rw [hJt] at hct; exact hct)))))
    refine WL_nil ⟨hSS, ?_⟩
    refine b_e (i := 3) (by kernel_rfl) rfl ?_
    refine sv hF (v_load sc3 rfl (by rw [toNat_c]; exact (hW.rd hi hlt).c)) rfl ?_; clear hF a; intro a hF
    refine WL_nil ⟨hSS, ?_⟩
    refine b_v (i := 14) rfl (by kernel_rfl) hF (fun w2 hx => v_xorN rfl rfl (fits_i64 (by omega)) (fits_i64 (by omega))) rfl hSS ?_; clear hF a; intro a hF
    refine b_v (i := 15) rfl (by kernel_rfl) hF (fun w2 hx => v_ixS sl53 rfl rfl (by omega) (by omega)) rfl hSS ?_; clear hF a; intro a hF
    refine b_e (i := 16) (by kernel_rfl) rfl ?_
    have hR0 := hW.row i hi
    refine s_set (D := FDx) (B := B) hF on3 rfl (by rw [toNat_c, zints_length, trow_length]; omega) rfl rfl hR0 (by decide) hS.inv ?_; intro w' hm hI' ho'
    replace hf := hf.mb hm
    replace hkf := hkf.mb hm (hW.ne hi hKp.1)
    replace hka := hka.mb hm (hW.ne hi hKp.2.1)
    replace hkt := hkt.mb hm (hW.ne hi hKp.2.2)
    replace hO := hO.mb hm (hO.ne_type hR0 (by decide))
    replace hW := hW.set (g := hp.fld.clrF t i (f i c) (j + 1) f) hi hm (ho'.cast (by rw [toNat_c, Nat.zero_add, zints_set, trow_set (g := hp.fld.clrF t i (f i c) (j + 1) f)]; intro l hl; exact Fld.clrF_at _ hne l)) (fun a ha hai l hl => by unfold Fld.clrF; rw [if_neg (by omega), if_neg (by omega)])
    replace hS := hS.mb hm (fun k e => ⟨by cases e; rfl, hR0.isrow k e⟩)
    replace hR0 := ho'
    clear hm hI' ho'
    clear hR0
    clear hSS
    have hSS : (fun (w2 : World) => w2.cell? ⟨pf, 0, none⟩ = some fv ∧ w2.cell? ⟨pa, 0, none⟩ = some (.slice (some ⟨g, 0, none⟩) n cap) ∧ w2.cell? ⟨pt, 0, none⟩ = some (.int .i64 (t : Int)) ∧ w2.cell? ⟨g, 0 + t, none⟩ = some (.slice (some ⟨bs t, 0, none⟩) m (rc t)) ∧ w2.cell? ⟨bs t, 0 + j, none⟩ = some (.int .i64 ((hp.fld.clrF t i (f i c) j f t j : Nat) : Int))) _ := And.intro hkf.c (And.intro hka.c (And.intro hkt.c (And.intro (hO.kc (by decide) (vls_at ht)).c (by first | exact (hW.rd ht hlt).c | (have hct := (hW.rd ht hlt).c; rw [hJt] at hct; exact hct)))))
    refine WL_nil ⟨hSS, ?_⟩
    refine b_done (by kernel_rfl) (hK _ _ ?_)
    clear hK K
    replace hF := hF.sub _ (c_ 0 rfl (c_ 2 rfl (c_ 3 rfl (c_ 4 rfl (c_ 7 rfl (c_ 14 rfl (c_ 15 rfl (n_))))))))
    refine W_reg rfl fun K hK => ?_
    refine sv2w hK hF (v_addI rfl rfl (by omega)) (v_move rfl) rfl rfl ?_; clear hF a hK K; intro a hF
    exact ⟨q - 1, by omega, j + 1, hF.sub _ (c_ 0 rfl (c_ 2 rfl (c_ 3 rfl (c_ 4 rfl (c_ 7 rfl (c_ 14 rfl (c_ 15 rfl (n_)))))))), hS, hf, hkf, hka, hkt, hO, hW, by omega, by omega⟩
  ·
   skip
   try simp only [dcl] at hc1
   refine W_exit rfl ?_
   refine ⟨_, hF, ?_⟩
   obtain rfl : j = m := by omega
   exact ⟨rfl, hO, hW, hS⟩
set_option maxRecDepth 100000 in
set_option maxHeartbeats 1000000 in
theorem red2_ok (B M pc c : Nat) (pr : Option Addr) (cr : Nat) (r : List Int) (w : World) (hI : Inv FDx B w) (hrow : Row FDx B M w (.slice pr r.length cr) (zints r)) (hkc : KC FDx B w ⟨pc, 0, none⟩ (.int .i64 (c : Int))) (hc : c < r.length) (hcl : c ≤ 40) : Ret Tryz.prog 79 [.slice pr r.length cr, .pointer (some ⟨pc, 0, none⟩)] w fun v w' => v = .bool (decide (r.getD c 0 ≠ 0)) ∧ St FDx B w w' := by
 refine enter 9 [(0, .slice pr r.length cr), (1, .pointer (some ⟨pc, 0, none⟩))] 3 Tryz.func79 rfl rfl rfl rfl rfl ?_; intro a hF
 have hS := St.refl hI
 obtain ⟨x, hx⟩ : ∃ z, r[c]? = some z := ⟨_, List.getElem?_eq_getElem hc⟩
 obtain ⟨gx, ox, hgx, hkx, -⟩ := hrow.kat (zints_at hx)
 subst hgx
 refine W_sr rfl fun K hK => ?_
 refine svw hK hF (v_assign rfl) rfl ?_; clear hF a hK K; intro a hF
 refine W_sr rfl fun K hK => ?_
 refine sv3 hF (v_move rfl) (v_load sc3 rfl hkc.c) (v_ixS sl53 rfl rfl (by omega) (by omega)) rfl rfl rfl ?_; clear hF a; intro a hF
 refine sv hF (v_load sc3 rfl (by rw [toNat_c]; exact hkx.c)) rfl ?_; clear hF a; intro a hF
 refine sv2w hK hF (v_neq rfl rfl) (v_assign rfl) rfl rfl ?_; clear hF a hK K; intro a hF
 replace hF := hF.sub _ (c_ 3 rfl (n_))
 refine W_ret ?_
 refine ⟨_, _, hF, rfl, ?_⟩
 exact ⟨by rw [getD_at hx], hS⟩
end Go.Proofs.YtkoiolamnnmokaaGreat
