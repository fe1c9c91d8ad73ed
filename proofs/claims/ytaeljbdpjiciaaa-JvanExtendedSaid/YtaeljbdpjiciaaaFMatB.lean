/- The walks of package matrix: the identity; rows picked, joined. -/
import Derived.Test.YtaeljbdpjiciaaaFMatA
set_option linter.unusedVariables false
set_option linter.unusedSimpArgs false
namespace Go.Proofs.Ytaeljbdpjiciaaa
open Go Go.Gam


namespace FxFMatB
theorem en56 : Ent Try.prog 56 := ent Try.func56 (by kernel_rfl) (by kernel_rfl)
theorem en63 : Ent Try.prog 63 := ent Try.func63 (by kernel_rfl) (by kernel_rfl)
theorem en68 : Ent Try.prog 68 := ent Try.func68 (by kernel_rfl) (by kernel_rfl)
theorem en71 : Ent Try.prog 71 := ent Try.func71 (by kernel_rfl) (by kernel_rfl)
theorem hmix : Try.prog.follows .mixedOrders = true := by kernel_rfl
theorem on3 : Gam.One Try.prog 3 := by unfold Gam.One; kernel_rfl
theorem sc3 : Scalar Try.prog 3 := ⟨_, Try.underlying3, by simp, by simp⟩
theorem sc37 : Scalar Try.prog 37 := ⟨_, Try.underlying37, by simp, by simp⟩
theorem sl27 : Sl Try.prog 27 37 (.slice none 0 0) 24 := sl_of Try.underlying27 rfl (by kernel_rfl)
theorem sl28 : Sl Try.prog 28 37 (.slice none 0 0) 24 := sl_of Try.underlying28 rfl (by kernel_rfl)
theorem sl37 : Sl Try.prog 37 3 (.int .i64 0) 8 := sl_of Try.underlying37 rfl (by kernel_rfl)
end FxFMatB
open FxFMatB

set_option maxRecDepth 100000 in
set_option maxHeartbeats 1000000 in
theorem Clone_ok (B M : Nat) (pxs : Option Addr) (cxs : Nat) (xs : List Int) (w : World) (hI : Inv FDx B w) (hx : Row FDx B M w (.slice pxs xs.length cxs) (zints xs)) (hM : M ≤ w.heap.size) (hl : xs.length ≤ 1000000) : Ret Try.prog 63 [.slice pxs xs.length cxs] w fun v w' => ∃ ob, Gam.Own FDx B w.heap.size w' FDx.E v ob (zints (xs)) ∧ St FDx B w w' := by
  refine enter 8 [(0, .slice pxs xs.length cxs)] 2 Try.func63 rfl rfl rfl rfl rfl ?_; intro a hF
  have hS := St.refl hI
  refine W_sr rfl (fun K hK => ?_)
  refine sv hF (v_assign rfl) rfl ?_; clear hF a; intro a hF
  refine WL_nil (hK _ _ ?_)
  clear hK K
  refine W_seq ?_
  refine W_sr rfl (fun K hK => ?_)
  refine sv hF (v_move rfl) rfl ?_; clear hF a; intro a hF
  refine sv hF (v_eqlSl (by exact Try.underlying37) rfl rfl) rfl ?_; clear hF a; intro a hF
  refine WL_nil (hK _ _ ?_)
  clear hK K
  replace hF := hF.sub _ (c_ 4 rfl (c_ 2 rfl (c_ 0 rfl (n_))))
  refine W_if hF rfl (fun hc1 => ?_) (fun hc1 => ?_)
  · skip
    try simp only [decide_eq_true_eq, decide_eq_false_iff_not, Bool.not_eq_true', Bool.not_eq_false', Bool.not_true, Bool.not_false] at hc1
    refine W_sr rfl (fun K hK => ?_)
    refine sv hF (v_assign rfl) rfl ?_; clear hF a; intro a hF
    refine WL_nil (hK _ _ ?_)
    clear hK K
    replace hF := hF.sub _ (c_ 2 rfl (c_ 0 rfl (n_)))
    refine W_ret ?_
    refine ⟨_, _, hF, rfl, ?_⟩
    have hn : pxs = none := by cases pxs with | none => rfl | some a => simp at hc1
    subst hn
    have he := ofz hx.nilx
    subst he
    exact ⟨none, Gam.Own.nil _ _ _ _ _, hS⟩
  · skip
    try simp only [decide_eq_true_eq, decide_eq_false_iff_not, Bool.not_eq_true', Bool.not_eq_false', Bool.not_true, Bool.not_false] at hc1
    refine W_skip ?_
    refine W_sr rfl (fun K hK => ?_)
    refine s_bs (D := FDx) (B := B) hF sl37 rfl rfl (by decide) (by simp [Value.cells]) (by decide) hS.inv rfl ?_; clear hF a; intro w' a hm hI' hO hF
    replace hx := hx.mb hm (fun _ h => by cases h)
    replace hS := hS.mb0 hm
    clear hm hI'
    refine sv hF (v_move rfl) rfl ?_; clear hF a; intro a hF
    refine s_app (D := FDx) (B := B) hF rfl sl37 rfl rfl hO (hx) (by intro u hu; obtain ⟨_, _, rfl⟩ := List.mem_map.1 hu; rfl) (by simp; omega) (by simp [maxLen]; omega) (by have := hS.ext.size; omega) (by decide) hS.inv rfl ?_; clear hF a; intro v' b' w' a ho' hm hI' hb' hF
    replace hx := hx.mb hm (fun k h => Nat.le_trans (hM) (hO.lt k h).1)
    replace hS := hS.mb hm (fun k h => Nat.le_trans (Nat.le_refl _) (hO.lt k h).1)
    replace hO := ho'
    clear hm hI' ho'
    refine sv hF (v_assign rfl) rfl ?_; clear hF a; intro a hF
    refine WL_nil (hK _ _ ?_)
    clear hK K
    replace hF := hF.sub _ (c_ 2 rfl (n_))
    refine W_ret ?_
    refine ⟨_, _, hF, rfl, ?_⟩
    exact ⟨_, hO.cast (List.nil_append _), hS⟩

set_option maxRecDepth 100000 in
set_option maxHeartbeats 1000000 in
theorem copied_ok (B M : Nat) (pmt : Option Addr) (cmt : Nat) (mt : Mtx) (w : World) (hI : Inv FDx B w) (hA : Mat FDx B M w pmt cmt mt) (hM : M ≤ w.heap.size) (hl : mt.length ≤ 1000) (hb : ∀ r ∈ mt, r.length ≤ 1000) : Ret Try.prog 71 [.slice pmt mt.length cmt] w fun v w' => ∃ ob, MOwn FDx B w.heap.size 0 w'.heap.size w' 37 v ob mt ∧ St FDx B w w' := by
  refine enter 19 [(0, .slice pmt mt.length cmt)] 2 Try.func71 rfl rfl rfl rfl rfl ?_; intro a hF
  have hS := St.refl hI
  refine W_sr rfl (fun K hK => ?_)
  refine sv hF (v_assign rfl) rfl ?_; clear hF a; intro a hF
  refine WL_nil (hK _ _ ?_)
  clear hK K
  refine W_sr rfl (fun K hK => ?_)
  refine sv hF (v_assign rfl) rfl ?_; clear hF a; intro a hF
  refine WL_nil (hK _ _ ?_)
  clear hK K
  refine W_seq ?_
  refine W_sr rfl (fun K hK => ?_)
  refine sv hF (v_move rfl) rfl ?_; clear hF a; intro a hF
  refine sv hF (v_lenS rfl sl27 rfl) rfl ?_; clear hF a; intro a hF
  refine sv hF (v_move rfl) rfl ?_; clear hF a; intro a hF
  refine WL_nil (hK _ _ ?_)
  clear hK K
  replace hF := hF.sub _ (c_ 8 rfl (c_ 7 rfl (c_ 6 rfl (c_ 3 rfl (c_ 2 rfl (n_))))))
  refine W_block ?_
  refine W_loop (fun m a w1 => ∃ (i : Nat) (v3 : Value) (b3 : Option Nat), Fr 19 [(3, v3), (6, .slice pmt mt.length cmt), (7, .int .i64 (mt.length : Int)), (8, .int .i64 (i : Int))] a ∧ (St FDx B w w1) ∧ (Mat FDx B M w1 pmt cmt mt) ∧ (MOwn FDx B w.heap.size 0 w1.heap.size w1 37 v3 b3 (mt.take i)) ∧ (i ≤ mt.length) ∧ (m + i = mt.length)) (mt.length) ?_ ?_
  · skip
    exact ⟨0, _, none, hF.sub _ (c_ 3 rfl (c_ 6 rfl (c_ 7 rfl (c_ 8 rfl (n_))))), hS, hA, MOwn.nil _ _ _ _ _ _ _ (Nat.zero_le _), by omega, by omega⟩
  · skip
    clear hF
    clear hS hA
    rintro m a w1 ⟨i, v3, b3, hF, hS, hA, hMO, hi, hm⟩
    obtain ⟨K, hKe⟩ : ∃ K, K = w1.heap.size := ⟨_, rfl⟩
    rw [← hKe] at hMO
    have hKs : K ≤ w1.heap.size := by omega
    have hNK : w.heap.size ≤ K := by have := hS.ext.size; omega
    clear hKe
    refine W_sr rfl (fun K hK => ?_)
    refine sv hF (v_lss rfl rfl) rfl ?_; clear hF a; intro a hF
    refine WL_nil (hK _ _ ?_)
    clear hK K
    refine W_seq ?_
    refine W_if hF rfl (fun hc1 => ?_) (fun hc1 => ?_)
    · skip
      try simp only [decide_eq_true_eq, decide_eq_false_iff_not, Bool.not_eq_true', Bool.not_eq_false', Bool.not_true, Bool.not_false] at hc1
      have hlt : i < mt.length := by omega
      obtain ⟨r, hr⟩ : ∃ z, mt[i]? = some z := ⟨_, List.getElem?_eq_getElem hlt⟩
      obtain ⟨gx, ox, pr, cr, hgx, hkc, hrow, -⟩ := hA.row hr
      subst hgx
      refine W_skip ?_
      refine W_seq ?_
      refine W_block ?_
      refine W_sr rfl (fun K hK => ?_)
      refine sv hF (v_ixS sl27 rfl rfl (by omega) (by omega)) rfl ?_; clear hF a; intro a hF
      refine sv hF (v_load sc37 rfl (by first | assumption | (rw [toNat_c]; assumption) | exact KC.c (by assumption) | (rw [toNat_c]; exact KC.c (by assumption)) | exact Box.at (by assumption))) rfl ?_; clear hF a; intro a hF
      refine sv hF (v_assign rfl) rfl ?_; clear hF a; intro a hF
      refine WL_nil (hK _ _ ?_)
      clear hK K
      replace hF := hF.sub _ (c_ 5 rfl (c_ 3 rfl (c_ 6 rfl (c_ 7 rfl (c_ 8 rfl (n_))))))
      refine W_reg rfl (fun K hK => ?_)
      refine sv hF (v_move rfl) rfl ?_; clear hF a; intro a hF
      refine sv hF (v_move rfl) rfl ?_; clear hF a; intro a hF
      refine sc hF rfl rfl rfl en63 rfl (Clone_ok B M pr cr r _ hS.inv hrow (Nat.le_trans hM hS.ext.size) (by have := hb r (List.mem_of_getElem? hr); omega)) ?_; clear hF a; intro v w' a hv hF
      obtain ⟨ob, hO, hS'⟩ := hv
      replace hO := hO.le hS.ext.size
      replace hA := hA.st hS'
      replace hMO := hMO.st (by decide) hS'
      replace hKs := Nat.le_trans hKs hS'.ext.size
      replace hS := hS.trans hS'
      clear hS'
      obtain ⟨a_, c_r, rfl⟩ := hO.shape
      refine s_bs (D := FDx) (B := B) hF sl28 rfl rfl (by decide) (by simp [Value.cells]) (by decide) hS.inv rfl ?_; clear hF a; intro w' a hm hI' hL hF
      replace hA := hA.mb hm (fun _ h => by cases h)
      replace hMO := hMO.mb0 hm
      replace hKs := Nat.le_trans hKs hm.size
      replace hO := hO.mb hm (fun _ _ => by simp)
      replace hS := hS.mb0 hm
      clear hm hI'
      replace hMO := hMO.up hKs
      clear hKs
      refine s_appM (D := FDx) (B := B) hF rfl sl28 rfl rfl hMO hL (.of hO (Nat.zero_le _)) rfl rfl (by simp; omega) (hS.ext.size) (by decide) (by decide) hS.inv rfl ?_; clear hF a; intro v' b' w' a ho' hm hI' hF
      replace hA := hA.mb hm (fun k h => Nat.le_trans (by omega) (hMO.lt k h).1)
      replace hS := hS.mb hm (fun k h => Nat.le_trans (Nat.le_refl _) (hMO.lt k h).1)
      have hKm := hm.size
      replace hMO := ho'
      clear hm hI' ho' hL
      refine sv hF (v_assign rfl) rfl ?_; clear hF a; intro a hF
      refine WL_nil (hK _ _ ?_)
      clear hK K
      replace hF := hF.sub _ (c_ 3 rfl (c_ 6 rfl (c_ 7 rfl (c_ 8 rfl (n_)))))
      refine W_reg rfl (fun K hK => ?_)
      refine sv hF (v_addI rfl rfl (by omega)) rfl ?_; clear hF a; intro a hF
      refine sv hF (v_move rfl) rfl ?_; clear hF a; intro a hF
      refine WL_nil (hK _ _ ?_)
      clear hK K
      exact ⟨m - 1, by omega, i + 1, _, _, hF.sub _ (c_ 3 rfl (c_ 6 rfl (c_ 7 rfl (c_ 8 rfl (n_))))), hS, hA, (hMO.up hKm).cast (take_snoc hr).symm, by omega, by omega⟩
    · skip
      try simp only [decide_eq_true_eq, decide_eq_false_iff_not, Bool.not_eq_true', Bool.not_eq_false', Bool.not_true, Bool.not_false] at hc1
      refine W_exit rfl ?_
      refine W_sr rfl (fun K hK => ?_)
      refine sv hF (v_move rfl) rfl ?_; clear hF a; intro a hF
      refine sv hF (v_assign rfl) rfl ?_; clear hF a; intro a hF
      refine WL_nil (hK _ _ ?_)
      clear hK K
      replace hF := hF.sub _ (c_ 2 rfl (c_ 18 rfl (c_ 3 rfl (c_ 6 rfl (c_ 7 rfl (c_ 8 rfl (n_)))))))
      refine W_ret ?_
      refine ⟨_, _, hF, rfl, ?_⟩
      obtain rfl : i = mt.length := by omega
      rw [List.take_length] at hMO
      exact ⟨_, hMO.up hKs, hS⟩

set_option maxRecDepth 100000 in
set_option maxHeartbeats 1000000 in
theorem Identity_ok (B : Nat) (n : Int) (w : World) (hI : Inv FDx B w) (hn : -9223372036854775808 ≤ n ∧ n < 9223372036854775808) : Ret Try.prog 61 [.int .i64 n] w fun v w' => ∃ ob, MOwn FDx B w.heap.size 0 w'.heap.size w' 37 v ob (identM n) ∧ St FDx B w w' := by
  refine enter 24 [(0, .int .i64 n)] 2 Try.func61 rfl rfl rfl rfl rfl ?_; intro a hF
  have hS := St.refl hI
  refine W_sr rfl (fun K hK => ?_)
  refine sv hF (v_assign rfl) rfl ?_; clear hF a; intro a hF
  refine WL_nil (hK _ _ ?_)
  clear hK K
  refine W_seq ?_
  refine W_sr rfl (fun K hK => ?_)
  refine sv hF (v_move rfl) rfl ?_; clear hF a; intro a hF
  refine sc hF rfl rfl rfl en68 rfl (within_ok n _) ?_; clear hF a; intro v w' a hv hF
  obtain ⟨rfl, hw⟩ := hv
  obtain rfl := hw.symm
  have hS' := St.refl hS.inv
  replace hS := hS.trans hS'
  clear hS'
  refine sv hF (v_not rfl) rfl ?_; clear hF a; intro a hF
  refine WL_nil (hK _ _ ?_)
  clear hK K
  replace hF := hF.sub _ (c_ 8 rfl (c_ 2 rfl (c_ 0 rfl (n_))))
  refine W_if hF rfl (fun hc1 => ?_) (fun hc1 => ?_)
  · skip
    try simp only [decide_eq_true_eq, decide_eq_false_iff_not, Bool.not_eq_true', Bool.not_eq_false', Bool.not_true, Bool.not_false] at hc1
    refine W_sr rfl (fun K hK => ?_)
    refine sv hF (v_assign rfl) rfl ?_; clear hF a; intro a hF
    refine WL_nil (hK _ _ ?_)
    clear hK K
    replace hF := hF.sub _ (c_ 2 rfl (c_ 0 rfl (n_)))
    refine W_ret ?_
    refine ⟨_, _, hF, rfl, ?_⟩
    have he : identM n = [] := if_neg (by simpa using hc1)
    rw [he]
    exact ⟨none, MOwn.nil _ _ _ _ _ _ _ (Nat.zero_le _), hS⟩
  · skip
    try simp only [decide_eq_true_eq, decide_eq_false_iff_not, Bool.not_eq_true', Bool.not_eq_false', Bool.not_true, Bool.not_false] at hc1
    have hn20 : 1 ≤ n ∧ n ≤ 20 := by simpa using hc1
    refine W_skip ?_
    refine W_sr rfl (fun K hK => ?_)
    refine sv hF (v_assign rfl) rfl ?_; clear hF a; intro a hF
    refine WL_nil (hK _ _ ?_)
    clear hK K
    replace hF := hF.sub _ (c_ 3 rfl (c_ 2 rfl (c_ 0 rfl (n_))))
    refine W_seq ?_
    refine W_sr rfl (fun K hK => ?_)
    refine sv hF (v_move rfl) rfl ?_; clear hF a; intro a hF
    refine sv hF (v_move rfl) rfl ?_; clear hF a; intro a hF
    refine WL_nil (hK _ _ ?_)
    clear hK K
    refine W_block ?_
    refine W_loop (fun m a w1 => ∃ (i : Nat) (v3 : Value) (b3 : Option Nat), Fr 24 [(0, .int .i64 n), (3, v3), (9, .int .i64 n), (10, .int .i64 (i : Int))] a ∧ (St FDx B w w1) ∧ (MOwn FDx B w.heap.size 0 w1.heap.size w1 37 v3 b3 ((List.range i).map (unitR n.toNat))) ∧ (i ≤ n.toNat) ∧ (m + i = n.toNat)) (n.toNat) ?_ ?_
    · skip
      exact ⟨0, _, none, hF.sub _ (c_ 0 rfl (c_ 3 rfl (c_ 9 rfl (c_ 10 rfl (n_))))), hS, MOwn.nil _ _ _ _ _ _ _ (Nat.zero_le _), by omega, by omega⟩
    · skip
      clear hF
      clear hS
      rintro m a w1 ⟨i, v3, b3, hF, hS, hMO, hi, hm⟩
      obtain ⟨K, hKe⟩ : ∃ K, K = w1.heap.size := ⟨_, rfl⟩
      rw [← hKe] at hMO
      have hKs : K ≤ w1.heap.size := by omega
      have hNK : w.heap.size ≤ K := by have := hS.ext.size; omega
      clear hKe
      refine W_sr rfl (fun K hK => ?_)
      refine sv hF (v_lss rfl rfl) rfl ?_; clear hF a; intro a hF
      refine WL_nil (hK _ _ ?_)
      clear hK K
      refine W_seq ?_
      refine W_if hF rfl (fun hc2 => ?_) (fun hc2 => ?_)
      · skip
        try simp only [decide_eq_true_eq, decide_eq_false_iff_not, Bool.not_eq_true', Bool.not_eq_false', Bool.not_true, Bool.not_false] at hc2
        have hlt : i < n.toNat := by omega
        refine W_skip ?_
        refine W_seq ?_
        refine W_block ?_
        refine W_sr rfl (fun K hK => ?_)
        refine sv hF (v_move rfl) rfl ?_; clear hF a; intro a hF
        refine sv hF (v_assign rfl) rfl ?_; clear hF a; intro a hF
        refine WL_nil (hK _ _ ?_)
        clear hK K
        replace hF := hF.sub _ (c_ 4 rfl (c_ 0 rfl (c_ 3 rfl (c_ 9 rfl (c_ 10 rfl (n_))))))
        refine W_sr rfl (fun K hK => ?_)
        refine sv hF (v_move rfl) rfl ?_; clear hF a; intro a hF
        refine s_mk (D := FDx) (B := B) (m := n.toNat) hF sl37 rfl rfl (by omega) (by omega) (by simp only [maxLen]; omega) (by decide) hS.inv rfl ?_; clear hF a; intro w' a hm hI' hO hF
        replace hO := hO.le hKs
        replace hMO := hMO.mb0 hm
        replace hKs := Nat.le_trans hKs hm.size
        replace hS := hS.mb0 hm
        clear hm hI'
        replace hO := hO.cast (show List.replicate n.toNat (Value.int .i64 0) = zints (List.replicate n.toNat 0) by simp [zints])
        generalize Array.size _ = gO at hO hF
        refine sv hF (v_assign rfl) rfl ?_; clear hF a; intro a hF
        refine WL_nil (hK _ _ ?_)
        clear hK K
        replace hF := hF.sub _ (c_ 5 rfl (c_ 4 rfl (c_ 0 rfl (c_ 3 rfl (c_ 9 rfl (c_ 10 rfl (n_)))))))
        refine W_sr rfl (fun K hK => ?_)
        refine sv hF (v_move rfl) rfl ?_; clear hF a; intro a hF
        refine sv hF (v_move rfl) rfl ?_; clear hF a; intro a hF
        refine sv hF (v_ixS sl37 rfl rfl (by omega) (by omega)) rfl ?_; clear hF a; intro a hF
        refine s_set (D := FDx) (B := B) hF on3 rfl (by rw [toNat_c]; simp; omega) rfl rfl hO (by decide) hS.inv ?_; intro w' hm hI' ho'
        replace hMO := hMO.mbo hm hO (by decide) (Nat.le_refl _) (Nat.zero_le _)
        replace hKs := Nat.le_trans hKs hm.size
        replace hS := hS.mb hm (fun k h => Nat.le_trans (hNK) (hO.lt k h).1)
        replace hO := ho'
        clear hm hI' ho'
        rw [toNat_c, Nat.zero_add, zints_set, unitR_set _ _ (by omega)] at hO
        refine WL_nil (hK _ _ ?_)
        clear hK K
        replace hF := hF.sub _ (c_ 5 rfl (c_ 0 rfl (c_ 3 rfl (c_ 9 rfl (c_ 10 rfl (n_))))))
        refine W_reg rfl (fun K hK => ?_)
        refine sv hF (v_move rfl) rfl ?_; clear hF a; intro a hF
        refine sv hF (v_move rfl) rfl ?_; clear hF a; intro a hF
        skip
        refine s_bs (D := FDx) (B := B) hF sl28 rfl rfl (by decide) (by simp [Value.cells]) (by decide) hS.inv rfl ?_; clear hF a; intro w' a hm hI' hL hF
        replace hMO := hMO.mb0 hm
        replace hKs := Nat.le_trans hKs hm.size
        replace hO := hO.mb hm (fun _ _ => by simp)
        replace hS := hS.mb0 hm
        clear hm hI'
        replace hMO := hMO.up hKs
        clear hKs
        refine s_appM (D := FDx) (B := B) hF rfl sl28 rfl rfl hMO hL (.of hO (Nat.zero_le _)) rfl rfl (by simp; omega) (hS.ext.size) (by decide) (by decide) hS.inv rfl ?_; clear hF a; intro v' b' w' a ho' hm hI' hF
        replace hS := hS.mb hm (fun k h => (hMO.lt k h).1)
        have hKm := hm.size
        replace hMO := ho'
        clear hm hI' ho' hL
        refine sv hF (v_assign rfl) rfl ?_; clear hF a; intro a hF
        refine WL_nil (hK _ _ ?_)
        clear hK K
        replace hF := hF.sub _ (c_ 3 rfl (c_ 0 rfl (c_ 9 rfl (c_ 10 rfl (n_)))))
        refine W_reg rfl (fun K hK => ?_)
        refine sv hF (v_addI rfl rfl (by omega)) rfl ?_; clear hF a; intro a hF
        refine sv hF (v_move rfl) rfl ?_; clear hF a; intro a hF
        refine WL_nil (hK _ _ ?_)
        clear hK K
        exact ⟨m - 1, by omega, i + 1, _, _, hF.sub _ (c_ 0 rfl (c_ 3 rfl (c_ 9 rfl (c_ 10 rfl (n_))))), hS, (hMO.up hKm).cast (idM_snoc _ _).symm, by omega, by omega⟩
      · skip
        try simp only [decide_eq_true_eq, decide_eq_false_iff_not, Bool.not_eq_true', Bool.not_eq_false', Bool.not_true, Bool.not_false] at hc2
        refine W_exit rfl ?_
        refine W_sr rfl (fun K hK => ?_)
        refine sv hF (v_move rfl) rfl ?_; clear hF a; intro a hF
        refine sv hF (v_assign rfl) rfl ?_; clear hF a; intro a hF
        refine WL_nil (hK _ _ ?_)
        clear hK K
        replace hF := hF.sub _ (c_ 2 rfl (c_ 23 rfl (c_ 0 rfl (c_ 3 rfl (c_ 9 rfl (c_ 10 rfl (n_)))))))
        refine W_ret ?_
        refine ⟨_, _, hF, rfl, ?_⟩
        obtain rfl : i = n.toNat := by omega
        exact ⟨_, (hMO.up hKs).cast (by unfold identM; rw [if_pos hn20, idM_eq]), hS⟩

set_option maxRecDepth 100000 in
set_option maxHeartbeats 1000000 in
theorem Pick_ok (B M : Nat) (o : Fq) (fv : Value) (pmt : Option Addr) (cmt : Nat) (mt : Mtx) (pl : Option Addr) (cl : Nat) (l : List Int) (w : World) (hI : Inv FDx B w) (hM : M ≤ w.heap.size) (hf : Fo FDx B w fv o) (hAmt : Mat FDx B M w pmt cmt mt) (hlmt : mt.length ≤ maxLen) (hbmt : ∀ r ∈ mt, r.length ≤ maxLen) (hx : Row FDx B M w (.slice pl l.length cl) (zints l)) (hxl : l.length ≤ maxLen) : Ret Try.prog 31 [fv, .slice pmt mt.length cmt, .slice pl l.length cl] w fun v w' => ∃ ob u, v = .tuple #[u, .int .i64 (errV (pickM o mt l))] ∧ MOwn FDx B w.heap.size 0 w'.heap.size w' 37 u ob ((pickM o mt l).getD []) ∧ St FDx B w w' := by
  refine enter2 45 [(0, fv), (1, .slice pmt mt.length cmt), (2, .slice pl l.length cl)] 6 7 Try.func31 rfl rfl rfl rfl rfl ?_; intro a hF
  have hS := St.refl hI
  have hl2 := hxl
  have hl3 := hlmt
  simp only [maxLen] at hl2 hl3
  refine W_sr rfl (fun K hK => ?_)
  refine sv hF (v_assign rfl) rfl ?_; clear hF a; intro a hF
  refine sv hF (v_assign rfl) rfl ?_; clear hF a; intro a hF
  refine WL_nil (hK _ _ ?_)
  clear hK K
  refine W_seq ?_
  refine W_sr rfl (fun K hK => ?_)
  refine sv hF (v_move rfl) rfl ?_; clear hF a; intro a hF
  refine sv hF (v_move rfl) rfl ?_; clear hF a; intro a hF
  refine sc hF rfl rfl rfl en56 rfl (May_ok B M o fv pmt cmt mt _ hS.inv hf hAmt hlmt hbmt) ?_; clear hF a; intro v w' a hv hF
  obtain ⟨rfl, hS'⟩ := hv
  replace hf := hf.st hS'
  replace hAmt := hAmt.st hS'
  replace hx := hx.st hS'
  replace hS := hS.trans hS'
  clear hS'
  refine sb hF (v_not rfl) rfl ?_ ?_
  · clear hF a; intro hc1 a hF
    try simp only [decide_eq_true_eq, decide_eq_false_iff_not, Bool.not_eq_true', Bool.not_eq_false', Bool.not_true, Bool.not_false] at hc1
    refine sv hF (v_move rfl) rfl ?_; clear hF a; intro a hF
    refine svn hF rfl rfl rfl ?_; clear hF a; intro a hF
    refine svn hF rfl rfl rfl ?_; clear hF a; intro a hF
    refine svn hF rfl rfl rfl ?_; clear hF a; intro a hF
    refine svn hF rfl rfl rfl ?_; clear hF a; intro a hF
    refine sv hF (v_pickT rfl rfl) rfl ?_; clear hF a; intro a hF
    refine WL_nil (hK _ _ ?_)
    clear hK K
    replace hF := hF.sub _ (c_ 20 rfl (c_ 7 rfl (c_ 6 rfl (c_ 1 rfl (c_ 2 rfl (n_))))))
    refine W_ifT hF rfl ?_
    refine W_sr rfl (fun K hK => ?_)
    refine sv hF (v_assign rfl) rfl ?_; clear hF a; intro a hF
    refine sv hF (v_assign rfl) rfl ?_; clear hF a; intro a hF
    refine WL_nil (hK _ _ ?_)
    clear hK K
    replace hF := hF.sub _ (c_ 7 rfl (c_ 6 rfl (c_ 1 rfl (c_ 2 rfl (n_)))))
    refine W_ret ?_
    refine ⟨_, _, _, hF, rfl, rfl, ?_⟩
    have hno : pickM o mt l = none := pickM_f (.inl (by simpa using hc1))
    rw [hno]
    exact ⟨none, _, rfl, MOwn.nil _ _ _ _ _ _ _ (Nat.zero_le _), hS⟩
  · clear hF a; intro hc1 a hF
    try simp only [decide_eq_true_eq, decide_eq_false_iff_not, Bool.not_eq_true', Bool.not_eq_false', Bool.not_true, Bool.not_false] at hc1
    refine sv hF (v_move rfl) rfl ?_; clear hF a; intro a hF
    refine svg hF rfl ?_
    refine sv hF (v_move rfl) rfl ?_; clear hF a; intro a hF
    refine svg hF rfl ?_
    refine sv hF (v_lenS rfl sl37 rfl) rfl ?_; clear hF a; intro a hF
    refine svg hF rfl ?_
    refine sc hF rfl rfl rfl en68 rfl (within_ok (l.length : Int) _) ?_; clear hF a; intro v w' a hv hF
    obtain ⟨rfl, hw⟩ := hv
    obtain rfl := hw.symm
    have hS' := St.refl hS.inv
    replace hf := hf.st hS'
    replace hAmt := hAmt.st hS'
    replace hx := hx.st hS'
    replace hS := hS.trans hS'
    clear hS'
    refine svg hF rfl ?_
    refine sv hF (v_not rfl) rfl ?_; clear hF a; intro a hF
    refine sv hF (v_pickF rfl rfl) rfl ?_; clear hF a; intro a hF
    refine WL_nil (hK _ _ ?_)
    clear hK K
    replace hF := hF.sub _ (c_ 20 rfl (c_ 7 rfl (c_ 6 rfl (c_ 1 rfl (c_ 2 rfl (n_))))))
    refine W_if hF rfl (fun hc2 => ?_) (fun hc2 => ?_)
    · skip
      try simp only [decide_eq_true_eq, decide_eq_false_iff_not, Bool.not_eq_true', Bool.not_eq_false', Bool.not_true, Bool.not_false] at hc2
      refine W_sr rfl (fun K hK => ?_)
      refine sv hF (v_assign rfl) rfl ?_; clear hF a; intro a hF
      refine sv hF (v_assign rfl) rfl ?_; clear hF a; intro a hF
      refine WL_nil (hK _ _ ?_)
      clear hK K
      replace hF := hF.sub _ (c_ 7 rfl (c_ 6 rfl (c_ 1 rfl (c_ 2 rfl (n_)))))
      refine W_ret ?_
      refine ⟨_, _, _, hF, rfl, rfl, ?_⟩
      have hno : pickM o mt l = none := pickM_f (.inr (.inl (by omega)))
      rw [hno]
      exact ⟨none, _, rfl, MOwn.nil _ _ _ _ _ _ _ (Nat.zero_le _), hS⟩
    · skip
      try simp only [decide_eq_true_eq, decide_eq_false_iff_not, Bool.not_eq_true', Bool.not_eq_false', Bool.not_true, Bool.not_false] at hc2
      refine W_skip ?_
      refine W_sr rfl (fun K hK => ?_)
      refine sv hF (v_assign rfl) rfl ?_; clear hF a; intro a hF
      refine WL_nil (hK _ _ ?_)
      clear hK K
      replace hF := hF.sub _ (c_ 8 rfl (c_ 7 rfl (c_ 6 rfl (c_ 1 rfl (c_ 2 rfl (n_))))))
      refine W_seq ?_
      have hmay : mayM o mt = true := by simpa using hc1
      have hmp := mayM_pos hmay
      refine W_sr rfl (fun K hK => ?_)
      refine sv hF (v_move rfl) rfl ?_; clear hF a; intro a hF
      refine sv hF (v_lenS rfl sl37 rfl) rfl ?_; clear hF a; intro a hF
      refine sv hF (v_move rfl) rfl ?_; clear hF a; intro a hF
      refine WL_nil (hK _ _ ?_)
      clear hK K
      replace hF := hF.sub _ (c_ 23 rfl (c_ 22 rfl (c_ 21 rfl (c_ 8 rfl (c_ 7 rfl (c_ 6 rfl (c_ 1 rfl (n_))))))))
      refine W_block ?_
      refine W_loop (fun m a w1 => ∃ (i : Nat) (v8 : Value) (b8 : Option Nat), Fr 45 [(1, .slice pmt mt.length cmt), (8, v8), (21, .slice pl l.length cl), (22, .int .i64 (l.length : Int)), (23, .int .i64 (i : Int))] a ∧ (St FDx B w w1) ∧ (Mat FDx B M w1 pmt cmt mt) ∧ (Row FDx B M w1 (.slice pl l.length cl) (zints l)) ∧ (MOwn FDx B w.heap.size 0 w1.heap.size w1 37 v8 b8 ((l.take i).map (rowM mt))) ∧ (((l.take i).all fun i => decide (0 ≤ i ∧ i < (mt.length : Int))) = true) ∧ (i ≤ l.length) ∧ (m + i = l.length)) (l.length) ?_ ?_
      · skip
        exact ⟨0, _, none, hF.sub _ (c_ 1 rfl (c_ 8 rfl (c_ 21 rfl (c_ 22 rfl (c_ 23 rfl (n_)))))), hS, hAmt, hx, MOwn.nil _ _ _ _ _ _ _ (Nat.zero_le _), rfl, by omega, by omega⟩
      · skip
        clear hF
        clear hS hAmt hx hf
        rintro m a w1 ⟨i, v8, b8, hF, hS, hAmt, hx, hMO, hal, hi, hm⟩
        obtain ⟨K, hKe⟩ : ∃ K, K = w1.heap.size := ⟨_, rfl⟩
        rw [← hKe] at hMO
        have hKs : K ≤ w1.heap.size := by omega
        have hNK : w.heap.size ≤ K := by have := hS.ext.size; omega
        clear hKe
        refine W_sr rfl (fun K hK => ?_)
        refine sv hF (v_lss rfl rfl) rfl ?_; clear hF a; intro a hF
        refine WL_nil (hK _ _ ?_)
        clear hK K
        refine W_seq ?_
        refine W_if hF rfl (fun hc3 => ?_) (fun hc3 => ?_)
        · skip
          try simp only [decide_eq_true_eq, decide_eq_false_iff_not, Bool.not_eq_true', Bool.not_eq_false', Bool.not_true, Bool.not_false] at hc3
          have hlt : i < l.length := by omega
          obtain ⟨z, hz⟩ : ∃ z, l[i]? = some z := ⟨_, List.getElem?_eq_getElem hlt⟩
          obtain ⟨gx, ox, hgx, hkc, -⟩ := hx.kat (zints_at hz)
          subst hgx
          refine W_skip ?_
          refine W_seq ?_
          refine W_block ?_
          refine W_sr rfl (fun K hK => ?_)
          refine sv hF (v_ixS sl37 rfl rfl (by omega) (by omega)) rfl ?_; clear hF a; intro a hF
          refine sv hF (v_load sc3 rfl (by first | assumption | (rw [toNat_c]; assumption) | exact KC.c (by assumption) | (rw [toNat_c]; exact KC.c (by assumption)) | exact Box.at (by assumption))) rfl ?_; clear hF a; intro a hF
          refine sv hF (v_assign rfl) rfl ?_; clear hF a; intro a hF
          refine WL_nil (hK _ _ ?_)
          clear hK K
          replace hF := hF.sub _ (c_ 10 rfl (c_ 1 rfl (c_ 8 rfl (c_ 21 rfl (c_ 22 rfl (c_ 23 rfl (n_)))))))
          refine W_seq ?_
          refine W_sr rfl (fun K hK => ?_)
          refine sv hF (v_move rfl) rfl ?_; clear hF a; intro a hF
          refine sb hF (v_lss rfl rfl) rfl ?_ ?_
          · clear hF a; intro hc4 a hF
            try simp only [decide_eq_true_eq, decide_eq_false_iff_not, Bool.not_eq_true', Bool.not_eq_false', Bool.not_true, Bool.not_false] at hc4
            refine sv hF (v_move rfl) rfl ?_; clear hF a; intro a hF
            refine svn hF rfl rfl rfl ?_; clear hF a; intro a hF
            refine svn hF rfl rfl rfl ?_; clear hF a; intro a hF
            refine svn hF rfl rfl rfl ?_; clear hF a; intro a hF
            refine svn hF rfl rfl rfl ?_; clear hF a; intro a hF
            refine sv hF (v_pickT rfl rfl) rfl ?_; clear hF a; intro a hF
            refine WL_nil (hK _ _ ?_)
            clear hK K
            replace hF := hF.sub _ (c_ 34 rfl (c_ 10 rfl (c_ 1 rfl (c_ 8 rfl (c_ 21 rfl (c_ 22 rfl (c_ 23 rfl (n_))))))))
            refine W_ifT hF rfl ?_
            refine W_sr rfl (fun K hK => ?_)
            refine sv hF (v_assign rfl) rfl ?_; clear hF a; intro a hF
            refine sv hF (v_assign rfl) rfl ?_; clear hF a; intro a hF
            refine WL_nil (hK _ _ ?_)
            clear hK K
            replace hF := hF.sub _ (c_ 7 rfl (c_ 6 rfl (c_ 10 rfl (c_ 1 rfl (c_ 8 rfl (c_ 21 rfl (c_ 22 rfl (c_ 23 rfl (n_)))))))))
            refine W_ret ?_
            refine ⟨_, _, _, hF, rfl, rfl, ?_⟩
            have hno : pickM o mt l = none := pickM_f (.inr (.inr (all_no hz (by rw [decide_eq_false_iff_not]; omega))))
            rw [hno]
            exact ⟨none, _, rfl, MOwn.nil _ _ _ _ _ _ _ (Nat.zero_le _), hS⟩
          · clear hF a; intro hc4 a hF
            try simp only [decide_eq_true_eq, decide_eq_false_iff_not, Bool.not_eq_true', Bool.not_eq_false', Bool.not_true, Bool.not_false] at hc4
            refine sv hF (v_move rfl) rfl ?_; clear hF a; intro a hF
            refine svg hF rfl ?_
            refine sv hF (v_move rfl) rfl ?_; clear hF a; intro a hF
            refine svg hF rfl ?_
            refine sv hF (v_move rfl) rfl ?_; clear hF a; intro a hF
            refine svg hF rfl ?_
            refine sv hF (v_lenS rfl sl28 rfl) rfl ?_; clear hF a; intro a hF
            refine svg hF rfl ?_
            refine sv hF (v_geq rfl rfl) rfl ?_; clear hF a; intro a hF
            refine sv hF (v_pickF rfl rfl) rfl ?_; clear hF a; intro a hF
            refine WL_nil (hK _ _ ?_)
            clear hK K
            replace hF := hF.sub _ (c_ 34 rfl (c_ 10 rfl (c_ 1 rfl (c_ 8 rfl (c_ 21 rfl (c_ 22 rfl (c_ 23 rfl (n_))))))))
            refine W_if hF rfl (fun hc5 => ?_) (fun hc5 => ?_)
            · skip
              try simp only [decide_eq_true_eq, decide_eq_false_iff_not, Bool.not_eq_true', Bool.not_eq_false', Bool.not_true, Bool.not_false] at hc5
              refine W_sr rfl (fun K hK => ?_)
              refine sv hF (v_assign rfl) rfl ?_; clear hF a; intro a hF
              refine sv hF (v_assign rfl) rfl ?_; clear hF a; intro a hF
              refine WL_nil (hK _ _ ?_)
              clear hK K
              replace hF := hF.sub _ (c_ 7 rfl (c_ 6 rfl (c_ 10 rfl (c_ 1 rfl (c_ 8 rfl (c_ 21 rfl (c_ 22 rfl (c_ 23 rfl (n_)))))))))
              refine W_ret ?_
              refine ⟨_, _, _, hF, rfl, rfl, ?_⟩
              have hno : pickM o mt l = none := pickM_f (.inr (.inr (all_no hz (by rw [decide_eq_false_iff_not]; omega))))
              rw [hno]
              exact ⟨none, _, rfl, MOwn.nil _ _ _ _ _ _ _ (Nat.zero_le _), hS⟩
            · skip
              try simp only [decide_eq_true_eq, decide_eq_false_iff_not, Bool.not_eq_true', Bool.not_eq_false', Bool.not_true, Bool.not_false] at hc5
              obtain ⟨zn, rfl⟩ : ∃ zn : Nat, z = (zn : Int) := ⟨z.toNat, by omega⟩
              obtain ⟨r, hr⟩ : ∃ r, mt[zn]? = some r := ⟨_, List.getElem?_eq_getElem (by omega)⟩
              obtain ⟨gm, om, pr, cr, hgm, hkm, hrow, -⟩ := hAmt.row hr
              subst hgm
              have hrl := (hmp.2.2.2.2 r (List.mem_of_getElem? hr)).1
              refine W_skip ?_
              refine W_reg rfl (fun K hK => ?_)
              refine sv hF (v_move rfl) rfl ?_; clear hF a; intro a hF
              refine sv hF (v_move rfl) rfl ?_; clear hF a; intro a hF
              refine sv hF (v_move rfl) rfl ?_; clear hF a; intro a hF
              refine sv hF (v_ixS sl28 rfl rfl (by omega) (by omega)) rfl ?_; clear hF a; intro a hF
              refine sv hF (v_load sc37 rfl (by rw [toNat_c]; exact hkm.c)) rfl ?_; clear hF a; intro a hF
              refine sc hF rfl rfl rfl en63 rfl (Clone_ok B M pr cr r _ hS.inv hrow (Nat.le_trans hM hS.ext.size) (by omega)) ?_; clear hF a; intro v w' a hv hF
              obtain ⟨ob, hO, hS'⟩ := hv
              replace hO := hO.le hS.ext.size
              replace hAmt := hAmt.st hS'
              replace hx := hx.st hS'
              replace hMO := hMO.st (by decide) hS'
              replace hKs := Nat.le_trans hKs hS'.ext.size
              replace hS := hS.trans hS'
              clear hS'
              obtain ⟨a_, c_r, rfl⟩ := hO.shape
              refine s_bs (D := FDx) (B := B) hF sl28 rfl rfl (by decide) (by simp [Value.cells]) (by decide) hS.inv rfl ?_; clear hF a; intro w' a hm hI' hL hF
              replace hAmt := hAmt.mb hm (fun _ h => by cases h)
              replace hx := hx.mb hm (fun _ h => by cases h)
              replace hMO := hMO.mb0 hm
              replace hKs := Nat.le_trans hKs hm.size
              replace hO := hO.mb hm (fun _ _ => by simp)
              replace hS := hS.mb0 hm
              clear hm hI'
              replace hMO := hMO.up hKs
              clear hKs
              refine s_appM (D := FDx) (B := B) hF rfl sl28 rfl rfl hMO hL (.of hO (Nat.zero_le _)) rfl rfl (by simp; omega) (hS.ext.size) (by decide) (by decide) hS.inv rfl ?_; clear hF a; intro v' b' w' a ho' hm hI' hF
              replace hAmt := hAmt.mb hm (fun k h => Nat.le_trans (by omega) (hMO.lt k h).1)
              replace hx := hx.mb hm (fun k h => Nat.le_trans (by omega) (hMO.lt k h).1)
              replace hS := hS.mb hm (fun k h => Nat.le_trans (Nat.le_refl _) (hMO.lt k h).1)
              have hKm := hm.size
              replace hMO := ho'
              clear hm hI' ho' hL
              refine sv hF (v_assign rfl) rfl ?_; clear hF a; intro a hF
              refine WL_nil (hK _ _ ?_)
              clear hK K
              replace hF := hF.sub _ (c_ 8 rfl (c_ 1 rfl (c_ 21 rfl (c_ 22 rfl (c_ 23 rfl (n_))))))
              refine W_reg rfl (fun K hK => ?_)
              refine sv hF (v_addI rfl rfl (by omega)) rfl ?_; clear hF a; intro a hF
              refine sv hF (v_move rfl) rfl ?_; clear hF a; intro a hF
              refine WL_nil (hK _ _ ?_)
              clear hK K
              exact ⟨m - 1, by omega, i + 1, _, _, hF.sub _ (c_ 1 rfl (c_ 8 rfl (c_ 21 rfl (c_ 22 rfl (c_ 23 rfl (n_)))))), hS, hAmt, hx, (hMO.up hKm).cast (by rw [pick_snoc hz, rowM_of hr]), all_snoc hal hz (by rw [decide_eq_true_iff]; omega), by omega, by omega⟩
        · skip
          try simp only [decide_eq_true_eq, decide_eq_false_iff_not, Bool.not_eq_true', Bool.not_eq_false', Bool.not_true, Bool.not_false] at hc3
          refine W_exit rfl ?_
          refine W_sr rfl (fun K hK => ?_)
          refine sv hF (v_move rfl) rfl ?_; clear hF a; intro a hF
          refine sv hF (v_assign rfl) rfl ?_; clear hF a; intro a hF
          refine sv hF (v_assign rfl) rfl ?_; clear hF a; intro a hF
          refine WL_nil (hK _ _ ?_)
          clear hK K
          replace hF := hF.sub _ (c_ 7 rfl (c_ 6 rfl (c_ 44 rfl (c_ 1 rfl (c_ 8 rfl (c_ 21 rfl (c_ 22 rfl (c_ 23 rfl (n_)))))))))
          refine W_ret ?_
          refine ⟨_, _, _, hF, rfl, rfl, ?_⟩
          obtain rfl : i = l.length := by omega
          rw [List.take_length] at hMO hal
          have hyes := pickM_t hmay (by omega) hal
          rw [hyes]
          exact ⟨_, _, rfl, hMO.up hKs, hS⟩

set_option maxRecDepth 100000 in
set_option maxHeartbeats 1000000 in
theorem Join_ok (B M : Nat) (o : Fq) (fv : Value) (pma : Option Addr) (cma : Nat) (ma : Mtx) (pmb : Option Addr) (cmb : Nat) (mb : Mtx) (w : World) (hI : Inv FDx B w) (hM : M ≤ w.heap.size) (hf : Fo FDx B w fv o) (hAma : Mat FDx B M w pma cma ma) (hlma : ma.length ≤ maxLen) (hbma : ∀ r ∈ ma, r.length ≤ maxLen) (hAmb : Mat FDx B M w pmb cmb mb) (hlmb : mb.length ≤ maxLen) (hbmb : ∀ r ∈ mb, r.length ≤ maxLen) : Ret Try.prog 38 [fv, .slice pma ma.length cma, .slice pmb mb.length cmb] w fun v w' => ∃ ob u, v = .tuple #[u, .int .i64 (errV (joinM o ma mb))] ∧ MOwn FDx B w.heap.size 0 w'.heap.size w' 37 u ob ((joinM o ma mb).getD []) ∧ St FDx B w w' := by
  refine enter2 43 [(0, fv), (1, .slice pma ma.length cma), (2, .slice pmb mb.length cmb)] 6 7 Try.func38 rfl rfl rfl rfl rfl ?_; intro a hF
  have hS := St.refl hI
  have hl2 := hlma
  have hl3 := hlmb
  simp only [maxLen] at hl2 hl3
  refine W_sr rfl (fun K hK => ?_)
  refine sv hF (v_assign rfl) rfl ?_; clear hF a; intro a hF
  refine sv hF (v_assign rfl) rfl ?_; clear hF a; intro a hF
  refine WL_nil (hK _ _ ?_)
  clear hK K
  refine W_seq ?_
  refine W_sd (m := 30) rfl hmix hS.inv (fun K hK w1 hS' hh => ?_)
  replace hf := hf.st hS'
  replace hAma := hAma.st hS'
  replace hAmb := hAmb.st hS'
  replace hS := hS.trans hS'
  clear hS'
  clear hh
  refine a_v (i := 0) rfl (by kernel_rfl) hF (fun w2 hx => v_move rfl) rfl ?_; clear hF a; intro a hF
  refine a_v (i := 1) rfl (by kernel_rfl) hF (fun w2 hx => v_move rfl) rfl ?_; clear hF a; intro a hF
  refine a_e (i := 2) rfl (by kernel_rfl) ?_
  refine sc hF rfl rfl rfl en56 rfl (May_ok B M o fv pma cma ma _ hS.inv hf hAma hlma hbma) ?_; clear hF a; intro v w' a hv hF
  obtain ⟨rfl, hS'⟩ := hv
  refine WL_nil ⟨hS'.ext, ?_⟩
  replace hf := hf.st hS'
  replace hAma := hAma.st hS'
  replace hAmb := hAmb.st hS'
  replace hS := hS.trans hS'
  clear hS'
  refine a_b (i := 3) rfl (by kernel_rfl) hF (fun w2 hx => v_not rfl) rfl ?_ ?_
  · clear hF a; intro hc1 a hF
    try simp only [decide_eq_true_eq, decide_eq_false_iff_not, Bool.not_eq_true', Bool.not_eq_false', Bool.not_true, Bool.not_false] at hc1
    refine a_v (i := 4) rfl (by kernel_rfl) hF (fun w2 hx => v_move rfl) rfl ?_; clear hF a; intro a hF
    refine a_vn (i := 5) rfl (by kernel_rfl) hF rfl rfl rfl ?_; clear hF a; intro a hF
    refine a_vn (i := 6) rfl (by kernel_rfl) hF rfl rfl rfl ?_; clear hF a; intro a hF
    refine a_vn (i := 7) rfl (by kernel_rfl) hF rfl rfl rfl ?_; clear hF a; intro a hF
    refine a_vn (i := 8) rfl (by kernel_rfl) hF rfl rfl rfl ?_; clear hF a; intro a hF
    refine a_v (i := 9) rfl (by kernel_rfl) hF (fun w2 hx => v_pickT rfl rfl) rfl ?_; clear hF a; intro a hF
    refine a_v (i := 10) rfl (by kernel_rfl) hF (fun w2 hx => v_move rfl) rfl ?_; clear hF a; intro a hF
    refine a_vn (i := 11) rfl (by kernel_rfl) hF rfl rfl rfl ?_; clear hF a; intro a hF
    refine a_vn (i := 12) rfl (by kernel_rfl) hF rfl rfl rfl ?_; clear hF a; intro a hF
    refine a_vn (i := 13) rfl (by kernel_rfl) hF rfl rfl rfl ?_; clear hF a; intro a hF
    refine a_vn (i := 14) rfl (by kernel_rfl) hF rfl rfl rfl ?_; clear hF a; intro a hF
    refine a_vn (i := 15) rfl (by kernel_rfl) hF rfl rfl rfl ?_; clear hF a; intro a hF
    refine a_vn (i := 16) rfl (by kernel_rfl) hF rfl rfl rfl ?_; clear hF a; intro a hF
    refine a_vn (i := 17) rfl (by kernel_rfl) hF rfl rfl rfl ?_; clear hF a; intro a hF
    refine a_vn (i := 18) rfl (by kernel_rfl) hF rfl rfl rfl ?_; clear hF a; intro a hF
    refine a_vn (i := 19) rfl (by kernel_rfl) hF rfl rfl rfl ?_; clear hF a; intro a hF
    refine a_v (i := 20) rfl (by kernel_rfl) hF (fun w2 hx => v_pickT rfl rfl) rfl ?_; clear hF a; intro a hF
    refine a_v (i := 21) rfl (by kernel_rfl) hF (fun w2 hx => v_move rfl) rfl ?_; clear hF a; intro a hF
    refine a_vn (i := 22) rfl (by kernel_rfl) hF rfl rfl rfl ?_; clear hF a; intro a hF
    refine a_vn (i := 23) rfl (by kernel_rfl) hF rfl rfl rfl ?_; clear hF a; intro a hF
    refine a_vn (i := 24) rfl (by kernel_rfl) hF rfl rfl rfl ?_; clear hF a; intro a hF
    refine a_vn (i := 25) rfl (by kernel_rfl) hF rfl rfl rfl ?_; clear hF a; intro a hF
    refine a_vn (i := 26) rfl (by kernel_rfl) hF rfl rfl rfl ?_; clear hF a; intro a hF
    refine a_vn (i := 27) rfl (by kernel_rfl) hF rfl rfl rfl ?_; clear hF a; intro a hF
    refine a_vn (i := 28) rfl (by kernel_rfl) hF rfl rfl rfl ?_; clear hF a; intro a hF
    refine a_v (i := 29) rfl (by kernel_rfl) hF (fun w2 hx => v_pickT rfl rfl) rfl ?_; clear hF a; intro a hF
    refine a_done (by kernel_rfl) (hK _ _ ?_)
    clear hK K
    replace hF := hF.sub _ (c_ 37 rfl (c_ 7 rfl (c_ 6 rfl (c_ 1 rfl (c_ 2 rfl (n_))))))
    refine W_ifT hF rfl ?_
    refine W_sr rfl (fun K hK => ?_)
    refine sv hF (v_assign rfl) rfl ?_; clear hF a; intro a hF
    refine sv hF (v_assign rfl) rfl ?_; clear hF a; intro a hF
    refine WL_nil (hK _ _ ?_)
    clear hK K
    replace hF := hF.sub _ (c_ 7 rfl (c_ 6 rfl (c_ 1 rfl (c_ 2 rfl (n_)))))
    refine W_ret ?_
    refine ⟨_, _, _, hF, rfl, rfl, ?_⟩
    have hno : joinM o ma mb = none := joinM_f (.inl (by simpa using hc1))
    rw [hno]
    exact ⟨none, _, rfl, MOwn.nil _ _ _ _ _ _ _ (Nat.zero_le _), hS⟩
  · clear hF a; intro hc1 a hF
    try simp only [decide_eq_true_eq, decide_eq_false_iff_not, Bool.not_eq_true', Bool.not_eq_false', Bool.not_true, Bool.not_false] at hc1
    refine a_v (i := 4) rfl (by kernel_rfl) hF (fun w2 hx => v_move rfl) rfl ?_; clear hF a; intro a hF
    refine a_vg (i := 5) rfl (by kernel_rfl) hF rfl (fun w2 hx => v_move rfl) rfl ?_; clear hF a; intro a hF
    refine a_vg (i := 6) rfl (by kernel_rfl) hF rfl (fun w2 hx => v_move rfl) rfl ?_; clear hF a; intro a hF
    refine a_e (i := 7) rfl (by kernel_rfl) ?_
    refine svg hF rfl ?_
    refine sc hF rfl rfl rfl en56 rfl (May_ok B M o fv pmb cmb mb _ hS.inv hf hAmb hlmb hbmb) ?_; clear hF a; intro v w' a hv hF
    obtain ⟨rfl, hS'⟩ := hv
    refine WL_nil ⟨hS'.ext, ?_⟩
    replace hf := hf.st hS'
    replace hAma := hAma.st hS'
    replace hAmb := hAmb.st hS'
    replace hS := hS.trans hS'
    clear hS'
    refine a_bg (i := 8) rfl (by kernel_rfl) hF rfl (fun w2 hx => v_not rfl) rfl ?_ ?_
    · clear hF a; intro hc2 a hF
      try simp only [decide_eq_true_eq, decide_eq_false_iff_not, Bool.not_eq_true', Bool.not_eq_false', Bool.not_true, Bool.not_false] at hc2
      refine a_v (i := 9) rfl (by kernel_rfl) hF (fun w2 hx => v_pickF rfl rfl) rfl ?_; clear hF a; intro a hF
      refine a_v (i := 10) rfl (by kernel_rfl) hF (fun w2 hx => v_move rfl) rfl ?_; clear hF a; intro a hF
      refine a_vn (i := 11) rfl (by kernel_rfl) hF rfl rfl rfl ?_; clear hF a; intro a hF
      refine a_vn (i := 12) rfl (by kernel_rfl) hF rfl rfl rfl ?_; clear hF a; intro a hF
      refine a_vn (i := 13) rfl (by kernel_rfl) hF rfl rfl rfl ?_; clear hF a; intro a hF
      refine a_vn (i := 14) rfl (by kernel_rfl) hF rfl rfl rfl ?_; clear hF a; intro a hF
      refine a_vn (i := 15) rfl (by kernel_rfl) hF rfl rfl rfl ?_; clear hF a; intro a hF
      refine a_vn (i := 16) rfl (by kernel_rfl) hF rfl rfl rfl ?_; clear hF a; intro a hF
      refine a_vn (i := 17) rfl (by kernel_rfl) hF rfl rfl rfl ?_; clear hF a; intro a hF
      refine a_vn (i := 18) rfl (by kernel_rfl) hF rfl rfl rfl ?_; clear hF a; intro a hF
      refine a_vn (i := 19) rfl (by kernel_rfl) hF rfl rfl rfl ?_; clear hF a; intro a hF
      refine a_v (i := 20) rfl (by kernel_rfl) hF (fun w2 hx => v_pickT rfl rfl) rfl ?_; clear hF a; intro a hF
      refine a_v (i := 21) rfl (by kernel_rfl) hF (fun w2 hx => v_move rfl) rfl ?_; clear hF a; intro a hF
      refine a_vn (i := 22) rfl (by kernel_rfl) hF rfl rfl rfl ?_; clear hF a; intro a hF
      refine a_vn (i := 23) rfl (by kernel_rfl) hF rfl rfl rfl ?_; clear hF a; intro a hF
      refine a_vn (i := 24) rfl (by kernel_rfl) hF rfl rfl rfl ?_; clear hF a; intro a hF
      refine a_vn (i := 25) rfl (by kernel_rfl) hF rfl rfl rfl ?_; clear hF a; intro a hF
      refine a_vn (i := 26) rfl (by kernel_rfl) hF rfl rfl rfl ?_; clear hF a; intro a hF
      refine a_vn (i := 27) rfl (by kernel_rfl) hF rfl rfl rfl ?_; clear hF a; intro a hF
      refine a_vn (i := 28) rfl (by kernel_rfl) hF rfl rfl rfl ?_; clear hF a; intro a hF
      refine a_v (i := 29) rfl (by kernel_rfl) hF (fun w2 hx => v_pickT rfl rfl) rfl ?_; clear hF a; intro a hF
      refine a_done (by kernel_rfl) (hK _ _ ?_)
      clear hK K
      replace hF := hF.sub _ (c_ 37 rfl (c_ 7 rfl (c_ 6 rfl (c_ 1 rfl (c_ 2 rfl (n_))))))
      refine W_ifT hF rfl ?_
      refine W_sr rfl (fun K hK => ?_)
      refine sv hF (v_assign rfl) rfl ?_; clear hF a; intro a hF
      refine sv hF (v_assign rfl) rfl ?_; clear hF a; intro a hF
      refine WL_nil (hK _ _ ?_)
      clear hK K
      replace hF := hF.sub _ (c_ 7 rfl (c_ 6 rfl (c_ 1 rfl (c_ 2 rfl (n_)))))
      refine W_ret ?_
      refine ⟨_, _, _, hF, rfl, rfl, ?_⟩
      have hno : joinM o ma mb = none := joinM_f (.inr (.inl (by simpa using hc2)))
      rw [hno]
      exact ⟨none, _, rfl, MOwn.nil _ _ _ _ _ _ _ (Nat.zero_le _), hS⟩
    · clear hF a; intro hc2 a hF
      try simp only [decide_eq_true_eq, decide_eq_false_iff_not, Bool.not_eq_true', Bool.not_eq_false', Bool.not_true, Bool.not_false] at hc2
      refine a_v (i := 9) rfl (by kernel_rfl) hF (fun w2 hx => v_pickF rfl rfl) rfl ?_; clear hF a; intro a hF
      refine a_v (i := 10) rfl (by kernel_rfl) hF (fun w2 hx => v_move rfl) rfl ?_; clear hF a; intro a hF
      have hm1 : mayM o ma = true := by simpa using hc1
      have hm2 : mayM o mb = true := by simpa using hc2
      have hp1 := mayM_pos hm1
      have hp2 := mayM_pos hm2
      obtain ⟨rma, hrma⟩ : ∃ r, ma[0]? = some r := ⟨_, List.getElem?_eq_getElem (by omega)⟩
      obtain ⟨gma, oma, prma, crma, hgma, hkma, hrowma, -⟩ := hAma.row hrma
      subst hgma
      have hwma := wid_at hrma
      obtain ⟨rmb, hrmb⟩ : ∃ r, mb[0]? = some r := ⟨_, List.getElem?_eq_getElem (by omega)⟩
      obtain ⟨gmb, omb, prmb, crmb, hgmb, hkmb, hrowmb, -⟩ := hAmb.row hrmb
      subst hgmb
      have hwmb := wid_at hrmb
      refine a_vg (i := 11) rfl (by kernel_rfl) hF rfl (fun w2 hx => v_move rfl) rfl ?_; clear hF a; intro a hF
      refine a_vg (i := 12) rfl (by kernel_rfl) hF rfl (fun w2 hx => v_ixS sl28 rfl rfl (by decide) (by omega)) rfl ?_; clear hF a; intro a hF
      refine a_vg (i := 13) rfl (by kernel_rfl) hF rfl (fun w2 hx => v_load sc37 rfl (hkma.ld hx)) rfl ?_; clear hF a; intro a hF
      refine a_vg (i := 14) rfl (by kernel_rfl) hF rfl (fun w2 hx => v_lenS rfl sl37 rfl) rfl ?_; clear hF a; intro a hF
      refine a_vg (i := 15) rfl (by kernel_rfl) hF rfl (fun w2 hx => v_move rfl) rfl ?_; clear hF a; intro a hF
      refine a_vg (i := 16) rfl (by kernel_rfl) hF rfl (fun w2 hx => v_ixS sl28 rfl rfl (by decide) (by omega)) rfl ?_; clear hF a; intro a hF
      refine a_vg (i := 17) rfl (by kernel_rfl) hF rfl (fun w2 hx => v_load sc37 rfl (hkmb.ld hx)) rfl ?_; clear hF a; intro a hF
      refine a_vg (i := 18) rfl (by kernel_rfl) hF rfl (fun w2 hx => v_lenS rfl sl37 rfl) rfl ?_; clear hF a; intro a hF
      refine a_bg (i := 19) rfl (by kernel_rfl) hF rfl (fun w2 hx => v_neq rfl rfl) rfl ?_ ?_
      · clear hF a; intro hc3 a hF
        try simp only [decide_eq_true_eq, decide_eq_false_iff_not, Bool.not_eq_true', Bool.not_eq_false', Bool.not_true, Bool.not_false] at hc3
        refine a_v (i := 20) rfl (by kernel_rfl) hF (fun w2 hx => v_pickF rfl rfl) rfl ?_; clear hF a; intro a hF
        refine a_v (i := 21) rfl (by kernel_rfl) hF (fun w2 hx => v_move rfl) rfl ?_; clear hF a; intro a hF
        refine a_vn (i := 22) rfl (by kernel_rfl) hF rfl rfl rfl ?_; clear hF a; intro a hF
        refine a_vn (i := 23) rfl (by kernel_rfl) hF rfl rfl rfl ?_; clear hF a; intro a hF
        refine a_vn (i := 24) rfl (by kernel_rfl) hF rfl rfl rfl ?_; clear hF a; intro a hF
        refine a_vn (i := 25) rfl (by kernel_rfl) hF rfl rfl rfl ?_; clear hF a; intro a hF
        refine a_vn (i := 26) rfl (by kernel_rfl) hF rfl rfl rfl ?_; clear hF a; intro a hF
        refine a_vn (i := 27) rfl (by kernel_rfl) hF rfl rfl rfl ?_; clear hF a; intro a hF
        refine a_vn (i := 28) rfl (by kernel_rfl) hF rfl rfl rfl ?_; clear hF a; intro a hF
        refine a_v (i := 29) rfl (by kernel_rfl) hF (fun w2 hx => v_pickT rfl rfl) rfl ?_; clear hF a; intro a hF
        refine a_done (by kernel_rfl) (hK _ _ ?_)
        clear hK K
        replace hF := hF.sub _ (c_ 37 rfl (c_ 7 rfl (c_ 6 rfl (c_ 1 rfl (c_ 2 rfl (n_))))))
        refine W_ifT hF rfl ?_
        refine W_sr rfl (fun K hK => ?_)
        refine sv hF (v_assign rfl) rfl ?_; clear hF a; intro a hF
        refine sv hF (v_assign rfl) rfl ?_; clear hF a; intro a hF
        refine WL_nil (hK _ _ ?_)
        clear hK K
        replace hF := hF.sub _ (c_ 7 rfl (c_ 6 rfl (c_ 1 rfl (c_ 2 rfl (n_)))))
        refine W_ret ?_
        refine ⟨_, _, _, hF, rfl, rfl, ?_⟩
        have hno : joinM o ma mb = none := joinM_f (.inr (.inr (.inl (by rw [hwma, hwmb]; omega))))
        rw [hno]
        exact ⟨none, _, rfl, MOwn.nil _ _ _ _ _ _ _ (Nat.zero_le _), hS⟩
      · clear hF a; intro hc3 a hF
        try simp only [decide_eq_true_eq, decide_eq_false_iff_not, Bool.not_eq_true', Bool.not_eq_false', Bool.not_true, Bool.not_false] at hc3
        refine a_v (i := 20) rfl (by kernel_rfl) hF (fun w2 hx => v_pickF rfl rfl) rfl ?_; clear hF a; intro a hF
        refine a_v (i := 21) rfl (by kernel_rfl) hF (fun w2 hx => v_move rfl) rfl ?_; clear hF a; intro a hF
        refine a_vg (i := 22) rfl (by kernel_rfl) hF rfl (fun w2 hx => v_move rfl) rfl ?_; clear hF a; intro a hF
        refine a_vg (i := 23) rfl (by kernel_rfl) hF rfl (fun w2 hx => v_lenS rfl sl28 rfl) rfl ?_; clear hF a; intro a hF
        refine a_vg (i := 24) rfl (by kernel_rfl) hF rfl (fun w2 hx => v_move rfl) rfl ?_; clear hF a; intro a hF
        refine a_vg (i := 25) rfl (by kernel_rfl) hF rfl (fun w2 hx => v_lenS rfl sl28 rfl) rfl ?_; clear hF a; intro a hF
        refine a_vg (i := 26) rfl (by kernel_rfl) hF rfl (fun w2 hx => v_addI rfl rfl (by omega)) rfl ?_; clear hF a; intro a hF
        refine a_e (i := 27) rfl (by kernel_rfl) ?_
        refine svg hF rfl ?_
        refine sc hF rfl rfl rfl en68 rfl (within_ok ((ma.length : Int) + (mb.length : Int)) _) ?_; clear hF a; intro v w' a hv hF
        obtain ⟨rfl, hw⟩ := hv
        obtain rfl := hw.symm
        have hS' := St.refl hS.inv
        refine WL_nil ⟨hS'.ext, ?_⟩
        replace hf := hf.st hS'
        replace hAma := hAma.st hS'
        replace hAmb := hAmb.st hS'
        replace hS := hS.trans hS'
        clear hS'
        refine a_vg (i := 28) rfl (by kernel_rfl) hF rfl (fun w2 hx => v_not rfl) rfl ?_; clear hF a; intro a hF
        refine a_v (i := 29) rfl (by kernel_rfl) hF (fun w2 hx => v_pickF rfl rfl) rfl ?_; clear hF a; intro a hF
        refine a_done (by kernel_rfl) (hK _ _ ?_)
        clear hK K
        replace hF := hF.sub _ (c_ 37 rfl (c_ 7 rfl (c_ 6 rfl (c_ 1 rfl (c_ 2 rfl (n_))))))
        refine W_if hF rfl (fun hc4 => ?_) (fun hc4 => ?_)
        · skip
          try simp only [decide_eq_true_eq, decide_eq_false_iff_not, Bool.not_eq_true', Bool.not_eq_false', Bool.not_true, Bool.not_false] at hc4
          refine W_sr rfl (fun K hK => ?_)
          refine sv hF (v_assign rfl) rfl ?_; clear hF a; intro a hF
          refine sv hF (v_assign rfl) rfl ?_; clear hF a; intro a hF
          refine WL_nil (hK _ _ ?_)
          clear hK K
          replace hF := hF.sub _ (c_ 7 rfl (c_ 6 rfl (c_ 1 rfl (c_ 2 rfl (n_)))))
          refine W_ret ?_
          refine ⟨_, _, _, hF, rfl, rfl, ?_⟩
          have hno : joinM o ma mb = none := joinM_f (.inr (.inr (.inr (by omega))))
          rw [hno]
          exact ⟨none, _, rfl, MOwn.nil _ _ _ _ _ _ _ (Nat.zero_le _), hS⟩
        · skip
          try simp only [decide_eq_true_eq, decide_eq_false_iff_not, Bool.not_eq_true', Bool.not_eq_false', Bool.not_true, Bool.not_false] at hc4
          refine W_skip ?_
          have hyes := joinM_t hm1 hm2 (by rw [hwma, hwmb]; omega) (by omega)
          have hs0 := hS.ext.size
          refine W_sr rfl (fun K hK => ?_)
          refine sv hF (v_move rfl) rfl ?_; clear hF a; intro a hF
          refine sc hF rfl rfl rfl en71 rfl (copied_ok B M _ cma ma _ hS.inv hAma (Nat.le_trans hM hS.ext.size) (by omega) (fun r hr => by have := (hp1.2.2.2.2 r hr).1; omega)) ?_; clear hF a; intro v w' a hv hF
          obtain ⟨ob1, hMO, hS'⟩ := hv
          obtain ⟨v1, hv1⟩ : ∃ v1, v1 = v := ⟨_, rfl⟩
          rw [← hv1] at hMO hF
          clear hv1
          replace hf := hf.st hS'
          replace hAma := hAma.st hS'
          replace hAmb := hAmb.st hS'
          replace hS := hS.trans hS'
          clear hS'
          replace hMO := hMO.le hs0 (Nat.zero_le _)
          have hs1 := hS.ext.size
          refine sv hF (v_move rfl) rfl ?_; clear hF a; intro a hF
          refine sc hF rfl rfl rfl en71 rfl (copied_ok B M _ cmb mb _ hS.inv hAmb (Nat.le_trans hM hS.ext.size) (by omega) (fun r hr => by have := (hp2.2.2.2.2 r hr).1; omega)) ?_; clear hF a; intro v w' a hv hF
          obtain ⟨ob2, hMP, hS'⟩ := hv
          replace hMO := hMO.up hS'.ext.size
          replace hf := hf.st hS'
          replace hAma := hAma.st hS'
          replace hAmb := hAmb.st hS'
          replace hMO := hMO.st (by decide) hS'
          replace hS := hS.trans hS'
          clear hS'
          refine s_appMM (D := FDx) (B := B) hF rfl sl28 rfl rfl hMO (hMP.rowsO (by decide)) rfl (by omega) (hS.ext.size) (by decide) (by decide) hS.inv rfl ?_; clear hF a; intro v' b' w' a ho' hm hI' hF
          replace hf := hf.mb hm
          replace hAma := hAma.mb hm (fun k h => Nat.le_trans (by omega) (hMO.lt k h).1)
          replace hAmb := hAmb.mb hm (fun k h => Nat.le_trans (by omega) (hMO.lt k h).1)
          replace hS := hS.mb hm (fun k h => Nat.le_trans (Nat.le_refl _) (hMO.lt k h).1)
          have hKm := hm.size
          replace hMO := ho'
          clear hm hI' ho'
          refine sv hF (v_assign rfl) rfl ?_; clear hF a; intro a hF
          refine sv hF (v_assign rfl) rfl ?_; clear hF a; intro a hF
          refine WL_nil (hK _ _ ?_)
          clear hK K
          replace hF := hF.sub _ (c_ 7 rfl (c_ 6 rfl (n_)))
          refine W_ret ?_
          refine ⟨_, _, _, hF, rfl, rfl, ?_⟩
          rw [hyes]
          exact ⟨_, _, rfl, hMO.up hKm, hS⟩

end Go.Proofs.Ytaeljbdpjiciaaa
