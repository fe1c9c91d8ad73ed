/- The walks of package matrix: the identity; rows picked, joined. -/
import Derived.Test.YtcnlooajjnghaaaGreatFMatA
set_option linter.unusedVariables false
set_option linter.unusedSimpArgs false
namespace Go.Proofs.YtcnlooajjnghaaaGreat
open Go Go.Gam


namespace FxFMatB
theorem en54 : Ent Tryz.prog 54 := ent Tryz.func54 (by kernel_rfl) (by kernel_rfl)
theorem on3 : Gam.One Tryz.prog 3 := by unfold Gam.One; kernel_rfl
theorem sl23 : Sl Tryz.prog 23 3 (.int .i64 0) 8 := sl_of Tryz.underlying23 rfl (by kernel_rfl)
theorem sl30 : Sl Tryz.prog 30 23 (.slice none 0 0) 24 := sl_of Tryz.underlying30 rfl (by kernel_rfl)
end FxFMatB
open FxFMatB

set_option maxRecDepth 100000 in
set_option maxHeartbeats 1000000 in
theorem Clone_ok (B M : Nat) (pxs : Option Addr) (cxs : Nat) (xs : List Int) (w : World) (hI : Inv FDx B w) (hx : Row FDx B M w (.slice pxs xs.length cxs) (zints xs)) (hM : M ≤ w.heap.size) (hl : xs.length ≤ 1000000) : Ret Tryz.prog 30 [.slice pxs xs.length cxs] w fun v w' => ∃ ob, Gam.Own FDx B w.heap.size w' FDx.E v ob (zints (xs)) ∧ St FDx B w w' := by
  refine enter 8 [(0, .slice pxs xs.length cxs)] 2 Tryz.func30 rfl rfl rfl rfl rfl ?_; intro a hF
  have hS := St.refl hI
  refine W_sr rfl (fun K hK => ?_)
  refine sv hF (v_assign rfl) rfl ?_; clear hF a; intro a hF
  refine WL_nil (hK _ _ ?_)
  clear hK K
  refine W_seq ?_
  refine W_sr rfl (fun K hK => ?_)
  refine sv hF (v_move rfl) rfl ?_; clear hF a; intro a hF
  refine sv hF (v_eqlSl (by exact Tryz.underlying23) rfl rfl) rfl ?_; clear hF a; intro a hF
  refine WL_nil (hK _ _ ?_)
  clear hK K
  replace hF := hF.sub _ (c_ 4 rfl (c_ 2 rfl (c_ 0 rfl (n_))))
  refine W_if hF rfl (fun hc1 => ?_) (fun hc1 => ?_)
  · skip
    try simp only [decide_eq_true_eq, decide_eq_false_iff_not, Bool.not_eq_true', Bool.not_eq_false', Bool.not_true, Bool.not_false] at hc1
    refine W_sr rfl (fun K hK => ?_)
    refine sv hF (v_assign rfl) rfl ?_; clear hF a; intro a hF
    refine WL_nil (hK _ _ ?_)
    clear hK K
    replace hF := hF.sub _ (c_ 2 rfl (c_ 0 rfl (n_)))
    refine W_ret ?_
    refine ⟨_, _, hF, rfl, ?_⟩
    have hn : pxs = none := by cases pxs with | none => rfl | some a => simp at hc1
    subst hn
    have he := ofz hx.nilx
    subst he
    exact ⟨none, Gam.Own.nil _ _ _ _ _, hS⟩
  · skip
    try simp only [decide_eq_true_eq, decide_eq_false_iff_not, Bool.not_eq_true', Bool.not_eq_false', Bool.not_true, Bool.not_false] at hc1
    refine W_skip ?_
    refine W_sr rfl (fun K hK => ?_)
    refine s_bs (D := FDx) (B := B) hF sl23 rfl rfl (by decide) (by simp [Value.cells]) (by decide) hS.inv rfl ?_; clear hF a; intro w' a hm hI' hO hF
    replace hx := hx.mb hm (fun _ h => by cases h)
    replace hS := hS.mb0 hm
    clear hm hI'
    refine sv hF (v_move rfl) rfl ?_; clear hF a; intro a hF
    refine s_app (D := FDx) (B := B) hF rfl sl23 rfl rfl hO (hx) (by intro u hu; obtain ⟨_, _, rfl⟩ := List.mem_map.1 hu; rfl) (by simp; omega) (by simp [maxLen]; omega) (by have := hS.ext.size; omega) (by decide) hS.inv rfl ?_; clear hF a; intro v' b' w' a ho' hm hI' hb' hF
    replace hx := hx.mb hm (fun k h => Nat.le_trans (hM) (hO.lt k h).1)
    replace hS := hS.mb hm (fun k h => Nat.le_trans (Nat.le_refl _) (hO.lt k h).1)
    replace hO := ho'
    clear hm hI' ho'
    refine sv hF (v_assign rfl) rfl ?_; clear hF a; intro a hF
    refine WL_nil (hK _ _ ?_)
    clear hK K
    replace hF := hF.sub _ (c_ 2 rfl (n_))
    refine W_ret ?_
    refine ⟨_, _, hF, rfl, ?_⟩
    exact ⟨_, hO.cast (List.nil_append _), hS⟩

set_option maxRecDepth 100000 in
set_option maxHeartbeats 1000000 in
theorem Identity_ok (B : Nat) (n : Int) (w : World) (hI : Inv FDx B w) (hn : -9223372036854775808 ≤ n ∧ n < 9223372036854775808) : Ret Tryz.prog 28 [.int .i64 n] w fun v w' => ∃ ob, MOwn FDx B w.heap.size 0 w'.heap.size w' 23 v ob (identM n) ∧ St FDx B w w' := by
  refine enter 24 [(0, .int .i64 n)] 2 Tryz.func28 rfl rfl rfl rfl rfl ?_; intro a hF
  have hS := St.refl hI
  refine W_sr rfl (fun K hK => ?_)
  refine sv hF (v_assign rfl) rfl ?_; clear hF a; intro a hF
  refine WL_nil (hK _ _ ?_)
  clear hK K
  refine W_seq ?_
  refine W_sr rfl (fun K hK => ?_)
  refine sv hF (v_move rfl) rfl ?_; clear hF a; intro a hF
  refine sc hF rfl rfl rfl en54 rfl (within_ok n _) ?_; clear hF a; intro v w' a hv hF
  obtain ⟨rfl, hw⟩ := hv
  obtain rfl := hw.symm
  have hS' := St.refl hS.inv
  replace hS := hS.trans hS'
  clear hS'
  refine sv hF (v_not rfl) rfl ?_; clear hF a; intro a hF
  refine WL_nil (hK _ _ ?_)
  clear hK K
  replace hF := hF.sub _ (c_ 8 rfl (c_ 2 rfl (c_ 0 rfl (n_))))
  refine W_if hF rfl (fun hc1 => ?_) (fun hc1 => ?_)
  · skip
    try simp only [decide_eq_true_eq, decide_eq_false_iff_not, Bool.not_eq_true', Bool.not_eq_false', Bool.not_true, Bool.not_false] at hc1
    refine W_sr rfl (fun K hK => ?_)
    refine sv hF (v_assign rfl) rfl ?_; clear hF a; intro a hF
    refine WL_nil (hK _ _ ?_)
    clear hK K
    replace hF := hF.sub _ (c_ 2 rfl (c_ 0 rfl (n_)))
    refine W_ret ?_
    refine ⟨_, _, hF, rfl, ?_⟩
    have he : identM n = [] := if_neg (by simpa using hc1)
    rw [he]
    exact ⟨none, MOwn.nil _ _ _ _ _ _ _ (Nat.zero_le _), hS⟩
  · skip
    try simp only [decide_eq_true_eq, decide_eq_false_iff_not, Bool.not_eq_true', Bool.not_eq_false', Bool.not_true, Bool.not_false] at hc1
    have hn20 : 1 ≤ n ∧ n ≤ 20 := by simpa using hc1
    refine W_skip ?_
    refine W_sr rfl (fun K hK => ?_)
    refine sv hF (v_assign rfl) rfl ?_; clear hF a; intro a hF
    refine WL_nil (hK _ _ ?_)
    clear hK K
    replace hF := hF.sub _ (c_ 3 rfl (c_ 2 rfl (c_ 0 rfl (n_))))
    refine W_seq ?_
    refine W_sr rfl (fun K hK => ?_)
    refine sv hF (v_move rfl) rfl ?_; clear hF a; intro a hF
    refine sv hF (v_move rfl) rfl ?_; clear hF a; intro a hF
    refine WL_nil (hK _ _ ?_)
    clear hK K
    refine W_block ?_
    refine W_loop (fun m a w1 => ∃ (i : Nat) (v3 : Value) (b3 : Option Nat), Fr 24 [(0, .int .i64 n), (3, v3), (9, .int .i64 n), (10, .int .i64 (i : Int))] a ∧ (St FDx B w w1) ∧ (MOwn FDx B w.heap.size 0 w1.heap.size w1 23 v3 b3 ((List.range i).map (unitR n.toNat))) ∧ (i ≤ n.toNat) ∧ (m + i = n.toNat)) (n.toNat) ?_ ?_
    · skip
      exact ⟨0, _, none, hF.sub _ (c_ 0 rfl (c_ 3 rfl (c_ 9 rfl (c_ 10 rfl (n_))))), hS, MOwn.nil _ _ _ _ _ _ _ (Nat.zero_le _), by omega, by omega⟩
    · skip
      clear hF
      clear hS
      rintro m a w1 ⟨i, v3, b3, hF, hS, hMO, hi, hm⟩
      obtain ⟨K, hKe⟩ : ∃ K, K = w1.heap.size := ⟨_, rfl⟩
      rw [← hKe] at hMO
      have hKs : K ≤ w1.heap.size := by omega
      have hNK : w.heap.size ≤ K := by have := hS.ext.size; omega
      clear hKe
      refine W_sr rfl (fun K hK => ?_)
      refine sv hF (v_lss rfl rfl) rfl ?_; clear hF a; intro a hF
      refine WL_nil (hK _ _ ?_)
      clear hK K
      refine W_seq ?_
      refine W_if hF rfl (fun hc2 => ?_) (fun hc2 => ?_)
      · skip
        try simp only [decide_eq_true_eq, decide_eq_false_iff_not, Bool.not_eq_true', Bool.not_eq_false', Bool.not_true, Bool.not_false] at hc2
        have hlt : i < n.toNat := by omega
        refine W_skip ?_
        refine W_seq ?_
        refine W_block ?_
        refine W_sr rfl (fun K hK => ?_)
        refine sv hF (v_move rfl) rfl ?_; clear hF a; intro a hF
        refine sv hF (v_assign rfl) rfl ?_; clear hF a; intro a hF
        refine WL_nil (hK _ _ ?_)
        clear hK K
        replace hF := hF.sub _ (c_ 4 rfl (c_ 0 rfl (c_ 3 rfl (c_ 9 rfl (c_ 10 rfl (n_))))))
        refine W_sr rfl (fun K hK => ?_)
        refine sv hF (v_move rfl) rfl ?_; clear hF a; intro a hF
        refine s_mk (D := FDx) (B := B) (m := n.toNat) hF sl23 rfl rfl (by omega) (by omega) (by simp only [maxLen]; omega) (by decide) hS.inv rfl ?_; clear hF a; intro w' a hm hI' hO hF
        replace hO := hO.le hKs
        replace hMO := hMO.mb0 hm
        replace hKs := Nat.le_trans hKs hm.size
        replace hS := hS.mb0 hm
        clear hm hI'
        replace hO := hO.cast (show List.replicate n.toNat (Value.int .i64 0) = zints (List.replicate n.toNat 0) by simp [zints])
        generalize Array.size _ = gO at hO hF
        refine sv hF (v_assign rfl) rfl ?_; clear hF a; intro a hF
        refine WL_nil (hK _ _ ?_)
        clear hK K
        replace hF := hF.sub _ (c_ 5 rfl (c_ 4 rfl (c_ 0 rfl (c_ 3 rfl (c_ 9 rfl (c_ 10 rfl (n_)))))))
        refine W_sr rfl (fun K hK => ?_)
        refine sv hF (v_move rfl) rfl ?_; clear hF a; intro a hF
        refine sv hF (v_move rfl) rfl ?_; clear hF a; intro a hF
        refine sv hF (v_ixS sl23 rfl rfl (by omega) (by omega)) rfl ?_; clear hF a; intro a hF
        refine s_set (D := FDx) (B := B) hF on3 rfl (by rw [toNat_c]; simp; omega) rfl rfl hO (by decide) hS.inv ?_; intro w' hm hI' ho'
        replace hMO := hMO.mbo hm hO (by decide) (Nat.le_refl _) (Nat.zero_le _)
        replace hKs := Nat.le_trans hKs hm.size
        replace hS := hS.mb hm (fun k h => Nat.le_trans (hNK) (hO.lt k h).1)
        replace hO := ho'
        clear hm hI' ho'
        rw [toNat_c, Nat.zero_add, zints_set, unitR_set _ _ (by omega)] at hO
        refine WL_nil (hK _ _ ?_)
        clear hK K
        replace hF := hF.sub _ (c_ 5 rfl (c_ 0 rfl (c_ 3 rfl (c_ 9 rfl (c_ 10 rfl (n_))))))
        refine W_reg rfl (fun K hK => ?_)
        refine sv hF (v_move rfl) rfl ?_; clear hF a; intro a hF
        refine sv hF (v_move rfl) rfl ?_; clear hF a; intro a hF
        skip
        refine s_bs (D := FDx) (B := B) hF sl30 rfl rfl (by decide) (by simp [Value.cells]) (by decide) hS.inv rfl ?_; clear hF a; intro w' a hm hI' hL hF
        replace hMO := hMO.mb0 hm
        replace hKs := Nat.le_trans hKs hm.size
        replace hO := hO.mb hm (fun _ _ => by simp)
        replace hS := hS.mb0 hm
        clear hm hI'
        replace hMO := hMO.up hKs
        clear hKs
        refine s_appM (D := FDx) (B := B) hF rfl sl30 rfl rfl hMO hL (.of hO (Nat.zero_le _)) rfl rfl (by simp; omega) (hS.ext.size) (by decide) (by decide) hS.inv rfl ?_; clear hF a; intro v' b' w' a ho' hm hI' hF
        replace hS := hS.mb hm (fun k h => (hMO.lt k h).1)
        have hKm := hm.size
        replace hMO := ho'
        clear hm hI' ho' hL
        refine sv hF (v_assign rfl) rfl ?_; clear hF a; intro a hF
        refine WL_nil (hK _ _ ?_)
        clear hK K
        replace hF := hF.sub _ (c_ 3 rfl (c_ 0 rfl (c_ 9 rfl (c_ 10 rfl (n_)))))
        refine W_reg rfl (fun K hK => ?_)
        refine sv hF (v_addI rfl rfl (by omega)) rfl ?_; clear hF a; intro a hF
        refine sv hF (v_move rfl) rfl ?_; clear hF a; intro a hF
        refine WL_nil (hK _ _ ?_)
        clear hK K
        exact ⟨m - 1, by omega, i + 1, _, _, hF.sub _ (c_ 0 rfl (c_ 3 rfl (c_ 9 rfl (c_ 10 rfl (n_))))), hS, (hMO.up hKm).cast (idM_snoc _ _).symm, by omega, by omega⟩
      · skip
        try simp only [decide_eq_true_eq, decide_eq_false_iff_not, Bool.not_eq_true', Bool.not_eq_false', Bool.not_true, Bool.not_false] at hc2
        refine W_exit rfl ?_
        refine W_sr rfl (fun K hK => ?_)
        refine sv hF (v_move rfl) rfl ?_; clear hF a; intro a hF
        refine sv hF (v_assign rfl) rfl ?_; clear hF a; intro a hF
        refine WL_nil (hK _ _ ?_)
        clear hK K
        replace hF := hF.sub _ (c_ 2 rfl (c_ 23 rfl (c_ 0 rfl (c_ 3 rfl (c_ 9 rfl (c_ 10 rfl (n_)))))))
        refine W_ret ?_
        refine ⟨_, _, hF, rfl, ?_⟩
        obtain rfl : i = n.toNat := by omega
        exact ⟨_, (hMO.up hKs).cast (by unfold identM; rw [if_pos hn20, idM_eq]), hS⟩

end Go.Proofs.YtcnlooajjnghaaaGreat
