/- The walks of gambrelref04: identity, rows picked, joined, products. -/
import Derived.Test.YtlkifpmlpnaaoaaFRef04
set_option linter.unusedVariables false
set_option linter.unusedSimpArgs false
namespace Go.Proofs.Ytlkifpmlpnaaoaa
open Go Go.Gam


namespace FxFRef04b
theorem en51 : Ent Try.prog 51 := ent Try.func51 (by kernel_rfl) (by kernel_rfl)
theorem hmix : Try.prog.follows .mixedOrders = true := by kernel_rfl
theorem sc23 : Scalar Try.prog 23 := ⟨_, Try.underlying23, by simp, by simp⟩
theorem sc3 : Scalar Try.prog 3 := ⟨_, Try.underlying3, by simp, by simp⟩
theorem sl23 : Sl Try.prog 23 3 (.int .i64 0) 8 := sl_of Try.underlying23 rfl (by kernel_rfl)
theorem sl51 : Sl Try.prog 51 23 (.slice none 0 0) 24 := sl_of Try.underlying51 rfl (by kernel_rfl)
end FxFRef04b
open FxFRef04b

set_option maxRecDepth 100000 in
set_option maxHeartbeats 1000000 in
theorem rIdentity_ok (B : Nat) (n : Int) (w : World) (hI : Inv FDx B w) (hn : -9223372036854775808 ≤ n ∧ n < 9223372036854775808) : Ret Try.prog 45 [.int .i64 n] w fun v w' => ∃ ob, MOwn FDx B w.heap.size 0 w'.heap.size w' 23 v ob (identM n) ∧ St FDx B w w' := by
  refine enter 34 [(0, .int .i64 n)] 2 Try.func45 rfl rfl rfl rfl rfl ?_; intro a hF
  have hS := St.refl hI
  refine W_sr rfl (fun K hK => ?_)
  refine sv hF (v_assign rfl) rfl ?_; clear hF a; intro a hF
  refine WL_nil (hK _ _ ?_)
  clear hK K
  refine W_sr rfl (fun K hK => ?_)
  refine sv hF (v_assign rfl) rfl ?_; clear hF a; intro a hF
  refine WL_nil (hK _ _ ?_)
  clear hK K
  refine W_seq ?_
  refine W_sr rfl (fun K hK => ?_)
  refine sv hF (v_assign rfl) rfl ?_; clear hF a; intro a hF
  refine WL_nil (hK _ _ ?_)
  clear hK K
  refine W_block ?_
  refine W_loop (fun m a w1 => ∃ (i : Nat) (v3 : Value) (b3 : Option Nat), Fr 34 [(0, .int .i64 n), (3, v3), (4, .int .i64 (i : Int))] a ∧ (St FDx B w w1) ∧ (MOwn FDx B w.heap.size 0 w1.heap.size w1 23 v3 b3 ((List.range i).map (unitR n.toNat))) ∧ (i ≤ n.toNat) ∧ (i = 0 ∨ n ≤ 20) ∧ (m + i = n.toNat)) (n.toNat) ?_ ?_
  · skip
    exact ⟨0, _, none, hF.sub _ (c_ 0 rfl (c_ 3 rfl (c_ 4 rfl (n_)))), hS, MOwn.nil _ _ _ _ _ _ _ (Nat.zero_le _), by omega, by omega, by omega⟩
  · skip
    clear hF
    clear hS
    rintro m a w1 ⟨i, v3, b3, hF, hS, hMO, hi, hi2, hm⟩
    refine W_seq ?_
    obtain ⟨KM, hKe⟩ : ∃ KM, KM = w1.heap.size := ⟨_, rfl⟩
    rw [← hKe] at hMO
    have hKs : KM ≤ w1.heap.size := by omega
    have hNK : w.heap.size ≤ KM := by have := hS.ext.size; omega
    clear hKe
    refine W_sr rfl (fun K hK => ?_)
    refine sv hF (v_move rfl) rfl ?_; clear hF a; intro a hF
    refine sv hF (v_move rfl) rfl ?_; clear hF a; intro a hF
    refine sb hF (v_lss rfl rfl) rfl ?_ ?_
    · clear hF a; intro hc1 a hF
      try simp only [decide_eq_true_eq, decide_eq_false_iff_not, Bool.not_eq_true', Bool.not_eq_false', Bool.not_true, Bool.not_false] at hc1
      refine sv hF (v_move rfl) rfl ?_; clear hF a; intro a hF
      refine svg hF rfl ?_
      refine sv hF (v_move rfl) rfl ?_; clear hF a; intro a hF
      refine svg hF rfl ?_
      refine sv hF (v_leq rfl rfl) rfl ?_; clear hF a; intro a hF
      refine sv hF (v_pickT rfl rfl) rfl ?_; clear hF a; intro a hF
      refine WL_nil (hK _ _ ?_)
      clear hK K
      replace hF := hF.sub _ (c_ 14 rfl (c_ 0 rfl (c_ 3 rfl (c_ 4 rfl (n_)))))
      refine W_if hF rfl (fun hc2 => ?_) (fun hc2 => ?_)
      · skip
        try simp only [decide_eq_true_eq, decide_eq_false_iff_not, Bool.not_eq_true', Bool.not_eq_false', Bool.not_true, Bool.not_false] at hc2
        refine W_skip ?_
        refine W_seq ?_
        refine W_block ?_
        refine W_sr rfl (fun K hK => ?_)
        refine sv hF (v_assign rfl) rfl ?_; clear hF a; intro a hF
        refine WL_nil (hK _ _ ?_)
        clear hK K
        replace hF := hF.sub _ (c_ 5 rfl (c_ 0 rfl (c_ 3 rfl (c_ 4 rfl (n_)))))
        refine W_seq ?_
        refine W_sr rfl (fun K hK => ?_)
        refine sv hF (v_assign rfl) rfl ?_; clear hF a; intro a hF
        refine WL_nil (hK _ _ ?_)
        clear hK K
        refine W_block ?_
        refine W_loop (fun m2 a w2 => ∃ (j : Nat) (v5 : Value) (b5 : Option Nat), Fr 34 [(0, .int .i64 n), (3, v3), (4, .int .i64 (i : Int)), (5, v5), (6, .int .i64 (j : Int))] a ∧ (St FDx B w w2) ∧ (MOwn FDx B w.heap.size 0 KM w2 23 v3 b3 ((List.range i).map (unitR n.toNat))) ∧ (KM ≤ w2.heap.size) ∧ (Gam.Own FDx B KM w2 FDx.E v5 b5 (zints ((unitR n.toNat i).take j))) ∧ (j ≤ n.toNat) ∧ (m2 + j = n.toNat)) (n.toNat) ?_ ?_
        · skip
          exact ⟨0, _, none, hF.sub _ (c_ 0 rfl (c_ 3 rfl (c_ 4 rfl (c_ 5 rfl (c_ 6 rfl (n_)))))), hS, hMO, hKs, Gam.Own.nil _ _ _ _ _, by omega, by omega⟩
        · skip
          clear hF
          clear hS hMO hKs
          rintro m2 a w2 ⟨j, v5, b5, hF, hS, hMO, hKs, hO, hj, hm2⟩
          refine W_seq ?_
          refine W_sr rfl (fun K hK => ?_)
          refine sv hF (v_move rfl) rfl ?_; clear hF a; intro a hF
          refine sv hF (v_move rfl) rfl ?_; clear hF a; intro a hF
          refine sv hF (v_lss rfl rfl) rfl ?_; clear hF a; intro a hF
          refine WL_nil (hK _ _ ?_)
          clear hK K
          replace hF := hF.sub _ (c_ 19 rfl (c_ 0 rfl (c_ 3 rfl (c_ 4 rfl (c_ 5 rfl (c_ 6 rfl (n_)))))))
          refine W_if hF rfl (fun hc3 => ?_) (fun hc3 => ?_)
          · skip
            try simp only [decide_eq_true_eq, decide_eq_false_iff_not, Bool.not_eq_true', Bool.not_eq_false', Bool.not_true, Bool.not_false] at hc3
            refine W_skip ?_
            refine W_seq ?_
            refine W_block ?_
            refine W_sr rfl (fun K hK => ?_)
            refine sv hF (v_assign rfl) rfl ?_; clear hF a; intro a hF
            refine WL_nil (hK _ _ ?_)
            clear hK K
            replace hF := hF.sub _ (c_ 7 rfl (c_ 0 rfl (c_ 3 rfl (c_ 4 rfl (c_ 5 rfl (c_ 6 rfl (n_)))))))
            refine W_seq ?_
            refine W_sr rfl (fun K hK => ?_)
            refine sv hF (v_move rfl) rfl ?_; clear hF a; intro a hF
            refine sv hF (v_move rfl) rfl ?_; clear hF a; intro a hF
            refine sv hF (v_eql rfl rfl) rfl ?_; clear hF a; intro a hF
            refine WL_nil (hK _ _ ?_)
            clear hK K
            replace hF := hF.sub _ (c_ 24 rfl (c_ 7 rfl (c_ 0 rfl (c_ 3 rfl (c_ 4 rfl (c_ 5 rfl (c_ 6 rfl (n_))))))))
            refine W_if hF rfl (fun hc4 => ?_) (fun hc4 => ?_)
            · skip
              try simp only [decide_eq_true_eq, decide_eq_false_iff_not, Bool.not_eq_true', Bool.not_eq_false', Bool.not_true, Bool.not_false] at hc4
              refine W_reg rfl (fun K hK => ?_)
              refine sv hF (v_assign rfl) rfl ?_; clear hF a; intro a hF
              refine WL_nil (hK _ _ ?_)
              clear hK K
              replace hF := hF.sub _ (c_ 7 rfl (c_ 0 rfl (c_ 3 rfl (c_ 4 rfl (c_ 5 rfl (c_ 6 rfl (n_)))))))
              have hul := unitR_length n.toNat i
              refine W_reg rfl (fun K hK => ?_)
              refine sv hF (v_move rfl) rfl ?_; clear hF a; intro a hF
              refine sv hF (v_move rfl) rfl ?_; clear hF a; intro a hF
              refine s_bs (D := FDx) (B := B) hF sl23 rfl rfl (by decide) (by simp [Value.cells]) (by decide) hS.inv rfl ?_; clear hF a; intro w' a hm hI' hL hF
              replace hMO := hMO.mb0 hm
              replace hKs := Nat.le_trans hKs hm.size
              replace hO := hO.mb hm (fun _ _ => by simp)
              replace hS := hS.mb0 hm
              clear hm hI'
              refine s_app (D := FDx) (B := B) hF rfl sl23 rfl rfl hO (hL.row (by decide)) (by simp [Value.oneCell']) (by simp; omega) (by simp [maxLen]; omega) (hKs) (by decide) hS.inv rfl ?_; clear hF a; intro v' b' w' a ho' hm hI' hb' hF
              replace hMO := hMO.mbo hm hO (by decide) (Nat.le_refl _) (Nat.zero_le _)
              replace hKs := Nat.le_trans hKs hm.size
              replace hS := hS.mb hm (fun k h => Nat.le_trans (hNK) (hO.lt k h).1)
              replace hO := ho'
              clear hm hI' ho'
              refine sv hF (v_assign rfl) rfl ?_; clear hF a; intro a hF
              refine WL_nil (hK _ _ ?_)
              clear hK K
              replace hF := hF.sub _ (c_ 5 rfl (c_ 0 rfl (c_ 3 rfl (c_ 4 rfl (c_ 6 rfl (n_))))))
              refine W_reg rfl (fun K hK => ?_)
              refine sv hF (v_move rfl) rfl ?_; clear hF a; intro a hF
              refine sv hF (v_addI rfl rfl (by omega)) rfl ?_; clear hF a; intro a hF
              refine sv hF (v_assign rfl) rfl ?_; clear hF a; intro a hF
              refine WL_nil (hK _ _ ?_)
              clear hK K
              exact ⟨m2 - 1, by omega, j + 1, _, _, hF.sub _ (c_ 0 rfl (c_ 3 rfl (c_ 4 rfl (c_ 5 rfl (c_ 6 rfl (n_)))))), hS, hMO, hKs, hO.cast (by rw [unitR_snoc _ _ _ (by omega)]; (first | rw [if_pos (by omega)] | rw [if_neg (by omega)]); simp [zints]), by omega, by omega⟩
            · skip
              try simp only [decide_eq_true_eq, decide_eq_false_iff_not, Bool.not_eq_true', Bool.not_eq_false', Bool.not_true, Bool.not_false] at hc4
              refine W_skip ?_
              have hul := unitR_length n.toNat i
              refine W_reg rfl (fun K hK => ?_)
              refine sv hF (v_move rfl) rfl ?_; clear hF a; intro a hF
              refine sv hF (v_move rfl) rfl ?_; clear hF a; intro a hF
              refine s_bs (D := FDx) (B := B) hF sl23 rfl rfl (by decide) (by simp [Value.cells]) (by decide) hS.inv rfl ?_; clear hF a; intro w' a hm hI' hL hF
              replace hMO := hMO.mb0 hm
              replace hKs := Nat.le_trans hKs hm.size
              replace hO := hO.mb hm (fun _ _ => by simp)
              replace hS := hS.mb0 hm
              clear hm hI'
              refine s_app (D := FDx) (B := B) hF rfl sl23 rfl rfl hO (hL.row (by decide)) (by simp [Value.oneCell']) (by simp; omega) (by simp [maxLen]; omega) (hKs) (by decide) hS.inv rfl ?_; clear hF a; intro v' b' w' a ho' hm hI' hb' hF
              replace hMO := hMO.mbo hm hO (by decide) (Nat.le_refl _) (Nat.zero_le _)
              replace hKs := Nat.le_trans hKs hm.size
              replace hS := hS.mb hm (fun k h => Nat.le_trans (hNK) (hO.lt k h).1)
              replace hO := ho'
              clear hm hI' ho'
              refine sv hF (v_assign rfl) rfl ?_; clear hF a; intro a hF
              refine WL_nil (hK _ _ ?_)
              clear hK K
              replace hF := hF.sub _ (c_ 5 rfl (c_ 0 rfl (c_ 3 rfl (c_ 4 rfl (c_ 6 rfl (n_))))))
              refine W_reg rfl (fun K hK => ?_)
              refine sv hF (v_move rfl) rfl ?_; clear hF a; intro a hF
              refine sv hF (v_addI rfl rfl (by omega)) rfl ?_; clear hF a; intro a hF
              refine sv hF (v_assign rfl) rfl ?_; clear hF a; intro a hF
              refine WL_nil (hK _ _ ?_)
              clear hK K
              exact ⟨m2 - 1, by omega, j + 1, _, _, hF.sub _ (c_ 0 rfl (c_ 3 rfl (c_ 4 rfl (c_ 5 rfl (c_ 6 rfl (n_)))))), hS, hMO, hKs, hO.cast (by rw [unitR_snoc _ _ _ (by omega)]; (first | rw [if_pos (by omega)] | rw [if_neg (by omega)]); simp [zints]), by omega, by omega⟩
          · skip
            try simp only [decide_eq_true_eq, decide_eq_false_iff_not, Bool.not_eq_true', Bool.not_eq_false', Bool.not_true, Bool.not_false] at hc3
            refine W_exit rfl ?_
            obtain rfl : j = n.toNat := by omega
            rw [List.take_of_length_le (by rw [unitR_length]; omega)] at hO
            refine W_reg rfl (fun K hK => ?_)
            refine sv hF (v_move rfl) rfl ?_; clear hF a; intro a hF
            refine sv hF (v_move rfl) rfl ?_; clear hF a; intro a hF
            obtain ⟨a_, c_r, rfl⟩ := hO.shape
            refine s_bs (D := FDx) (B := B) hF sl51 rfl rfl (by decide) (by simp [Value.cells]) (by decide) hS.inv rfl ?_; clear hF a; intro w' a hm hI' hL hF
            replace hMO := hMO.mb0 hm
            replace hKs := Nat.le_trans hKs hm.size
            replace hO := hO.mb hm (fun _ _ => by simp)
            replace hS := hS.mb0 hm
            clear hm hI'
            replace hMO := hMO.up hKs
            clear hKs
            refine s_appM (D := FDx) (B := B) hF rfl sl51 rfl rfl hMO hL (.of hO (Nat.zero_le _)) rfl rfl (by simp; omega) (hS.ext.size) (by decide) (by decide) hS.inv rfl ?_; clear hF a; intro v' b' w' a ho' hm hI' hF
            replace hS := hS.mb hm (fun k h => (hMO.lt k h).1)
            have hKm := hm.size
            replace hMO := ho'
            clear hm hI' ho' hL
            refine sv hF (v_assign rfl) rfl ?_; clear hF a; intro a hF
            refine WL_nil (hK _ _ ?_)
            clear hK K
            replace hF := hF.sub _ (c_ 3 rfl (c_ 32 rfl (c_ 31 rfl (c_ 30 rfl (c_ 29 rfl (c_ 0 rfl (c_ 4 rfl (c_ 5 rfl (c_ 6 rfl (n_))))))))))
            refine W_reg rfl (fun K hK => ?_)
            refine sv hF (v_move rfl) rfl ?_; clear hF a; intro a hF
            refine sv hF (v_addI rfl rfl (by omega)) rfl ?_; clear hF a; intro a hF
            refine sv hF (v_assign rfl) rfl ?_; clear hF a; intro a hF
            refine WL_nil (hK _ _ ?_)
            clear hK K
            exact ⟨m - 1, by omega, i + 1, _, _, hF.sub _ (c_ 0 rfl (c_ 3 rfl (c_ 4 rfl (n_)))), hS, (hMO.up hKm).cast (idM_snoc _ _).symm, by omega, by omega, by omega⟩
      · skip
        try simp only [decide_eq_true_eq, decide_eq_false_iff_not, Bool.not_eq_true', Bool.not_eq_false', Bool.not_true, Bool.not_false] at hc2
        refine W_exit rfl ?_
        refine W_sr rfl (fun K hK => ?_)
        refine sv hF (v_move rfl) rfl ?_; clear hF a; intro a hF
        refine sv hF (v_assign rfl) rfl ?_; clear hF a; intro a hF
        refine WL_nil (hK _ _ ?_)
        clear hK K
        replace hF := hF.sub _ (c_ 2 rfl (c_ 33 rfl (c_ 0 rfl (c_ 3 rfl (c_ 4 rfl (n_))))))
        refine W_ret ?_
        refine ⟨_, _, hF, rfl, ?_⟩
        rw [ident_done (by omega)] at hMO
        exact ⟨_, hMO.up hKs, hS⟩
    · clear hF a; intro hc1 a hF
      try simp only [decide_eq_true_eq, decide_eq_false_iff_not, Bool.not_eq_true', Bool.not_eq_false', Bool.not_true, Bool.not_false] at hc1
      refine sv hF (v_move rfl) rfl ?_; clear hF a; intro a hF
      refine svn hF rfl rfl rfl ?_; clear hF a; intro a hF
      refine svn hF rfl rfl rfl ?_; clear hF a; intro a hF
      refine sv hF (v_pickF rfl rfl) rfl ?_; clear hF a; intro a hF
      refine WL_nil (hK _ _ ?_)
      clear hK K
      replace hF := hF.sub _ (c_ 14 rfl (c_ 0 rfl (c_ 3 rfl (c_ 4 rfl (n_)))))
      refine W_ifF hF rfl ?_
      refine W_exit rfl ?_
      refine W_sr rfl (fun K hK => ?_)
      refine sv hF (v_move rfl) rfl ?_; clear hF a; intro a hF
      refine sv hF (v_assign rfl) rfl ?_; clear hF a; intro a hF
      refine WL_nil (hK _ _ ?_)
      clear hK K
      replace hF := hF.sub _ (c_ 2 rfl (c_ 33 rfl (c_ 0 rfl (c_ 3 rfl (c_ 4 rfl (n_))))))
      refine W_ret ?_
      refine ⟨_, _, hF, rfl, ?_⟩
      rw [ident_done (by omega)] at hMO
      exact ⟨_, hMO.up hKs, hS⟩

set_option maxRecDepth 100000 in
set_option maxHeartbeats 1000000 in
theorem rPick_ok (B M wb p : Nat) (hp : Prm wb p) (pmt : Option Addr) (cmt : Nat) (mt : Mtx) (pl : Option Addr) (cl : Nat) (l : List Int) (w : World) (hI : Inv FDx B w) (hM : M ≤ w.heap.size) (hAmt : Mat FDx B M w pmt cmt mt) (hlmt : mt.length ≤ 1000) (hbmt : ∀ r ∈ mt, r.length ≤ 1000) (hx : Row FDx B M w (.slice pl l.length cl) (zints l)) (hxl : l.length ≤ 1000) : Ret Try.prog 47 [.int .i64 (wb : Int), .slice pmt mt.length cmt, .slice pl l.length cl] w fun v w' => ∃ ob u, v = .tuple #[u, .bool (pickM (some (wb, p)) mt l).isSome] ∧ MOwn FDx B w.heap.size M w'.heap.size w' 23 u ob ((pickM (some (wb, p)) mt l).getD []) ∧ St FDx B w w' := by
  refine enter2 55 [(0, .int .i64 (wb : Int)), (1, .slice pmt mt.length cmt), (2, .slice pl l.length cl)] 6 7 Try.func47 rfl rfl rfl rfl rfl ?_; intro a hF
  have hS := St.refl hI
  refine W_sr rfl (fun K hK => ?_)
  refine sv hF (v_assign rfl) rfl ?_; clear hF a; intro a hF
  refine sv hF (v_assign rfl) rfl ?_; clear hF a; intro a hF
  refine WL_nil (hK _ _ ?_)
  clear hK K
  refine W_seq ?_
  refine W_sr rfl (fun K hK => ?_)
  refine sv hF (v_move rfl) rfl ?_; clear hF a; intro a hF
  refine sv hF (v_move rfl) rfl ?_; clear hF a; intro a hF
  refine sc hF rfl rfl rfl en51 rfl (rMay_ok B M wb p hp _ cmt mt _ hS.inv hAmt (Nat.le_trans hlmt (by decide)) (fun r hr => Nat.le_trans (hbmt r hr) (by decide))) ?_; clear hF a; intro v w' a hv hF
  obtain ⟨rfl, hS'⟩ := hv
  replace hAmt := hAmt.st hS'
  replace hx := hx.st hS'
  replace hS := hS.trans hS'
  clear hS'
  refine sb hF (v_not rfl) rfl ?_ ?_
  · clear hF a; intro hc1 a hF
    try simp only [decide_eq_true_eq, decide_eq_false_iff_not, Bool.not_eq_true', Bool.not_eq_false', Bool.not_true, Bool.not_false] at hc1
    refine sv hF (v_move rfl) rfl ?_; clear hF a; intro a hF
    refine svn hF rfl rfl rfl ?_; clear hF a; intro a hF
    refine svn hF rfl rfl rfl ?_; clear hF a; intro a hF
    refine svn hF rfl rfl rfl ?_; clear hF a; intro a hF
    refine sv hF (v_pickT rfl rfl) rfl ?_; clear hF a; intro a hF
    refine sv hF (v_move rfl) rfl ?_; clear hF a; intro a hF
    refine svn hF rfl rfl rfl ?_; clear hF a; intro a hF
    refine svn hF rfl rfl rfl ?_; clear hF a; intro a hF
    refine svn hF rfl rfl rfl ?_; clear hF a; intro a hF
    refine sv hF (v_pickT rfl rfl) rfl ?_; clear hF a; intro a hF
    refine WL_nil (hK _ _ ?_)
    clear hK K
    replace hF := hF.sub _ (c_ 23 rfl (c_ 7 rfl (c_ 6 rfl (c_ 1 rfl (c_ 2 rfl (n_))))))
    refine W_ifT hF rfl ?_
    refine W_sr rfl (fun K hK => ?_)
    refine sv hF (v_assign rfl) rfl ?_; clear hF a; intro a hF
    refine sv hF (v_assign rfl) rfl ?_; clear hF a; intro a hF
    refine WL_nil (hK _ _ ?_)
    clear hK K
    replace hF := hF.sub _ (c_ 7 rfl (c_ 6 rfl (c_ 1 rfl (c_ 2 rfl (n_)))))
    refine W_ret ?_
    refine ⟨_, _, _, hF, rfl, rfl, ?_⟩
    have hno : pickM (some (wb, p)) mt l = none := pickM_f (.inl (by simpa using hc1))
    rw [hno]
    exact ⟨none, _, rfl, MOwn.nil _ _ _ _ _ _ _ hM, hS⟩
  · clear hF a; intro hc1 a hF
    try simp only [decide_eq_true_eq, decide_eq_false_iff_not, Bool.not_eq_true', Bool.not_eq_false', Bool.not_true, Bool.not_false] at hc1
    refine sv hF (v_move rfl) rfl ?_; clear hF a; intro a hF
    refine svg hF rfl ?_
    refine sv hF (v_move rfl) rfl ?_; clear hF a; intro a hF
    refine svg hF rfl ?_
    refine sv hF (v_lenS rfl sl23 rfl) rfl ?_; clear hF a; intro a hF
    refine svg hF rfl ?_
    refine sb hF (v_lss rfl rfl) rfl ?_ ?_
    · clear hF a; intro hc2 a hF
      try simp only [decide_eq_true_eq, decide_eq_false_iff_not, Bool.not_eq_true', Bool.not_eq_false', Bool.not_true, Bool.not_false] at hc2
      refine sv hF (v_pickF rfl rfl) rfl ?_; clear hF a; intro a hF
      refine sv hF (v_move rfl) rfl ?_; clear hF a; intro a hF
      refine svn hF rfl rfl rfl ?_; clear hF a; intro a hF
      refine svn hF rfl rfl rfl ?_; clear hF a; intro a hF
      refine svn hF rfl rfl rfl ?_; clear hF a; intro a hF
      refine sv hF (v_pickT rfl rfl) rfl ?_; clear hF a; intro a hF
      refine WL_nil (hK _ _ ?_)
      clear hK K
      replace hF := hF.sub _ (c_ 23 rfl (c_ 7 rfl (c_ 6 rfl (c_ 1 rfl (c_ 2 rfl (n_))))))
      refine W_ifT hF rfl ?_
      refine W_sr rfl (fun K hK => ?_)
      refine sv hF (v_assign rfl) rfl ?_; clear hF a; intro a hF
      refine sv hF (v_assign rfl) rfl ?_; clear hF a; intro a hF
      refine WL_nil (hK _ _ ?_)
      clear hK K
      replace hF := hF.sub _ (c_ 7 rfl (c_ 6 rfl (c_ 1 rfl (c_ 2 rfl (n_)))))
      refine W_ret ?_
      refine ⟨_, _, _, hF, rfl, rfl, ?_⟩
      have hno : pickM (some (wb, p)) mt l = none := pickM_f (.inr (.inl (by omega)))
      rw [hno]
      exact ⟨none, _, rfl, MOwn.nil _ _ _ _ _ _ _ hM, hS⟩
    · clear hF a; intro hc2 a hF
      try simp only [decide_eq_true_eq, decide_eq_false_iff_not, Bool.not_eq_true', Bool.not_eq_false', Bool.not_true, Bool.not_false] at hc2
      refine sv hF (v_pickF rfl rfl) rfl ?_; clear hF a; intro a hF
      refine sv hF (v_move rfl) rfl ?_; clear hF a; intro a hF
      refine svg hF rfl ?_
      refine sv hF (v_move rfl) rfl ?_; clear hF a; intro a hF
      refine svg hF rfl ?_
      refine sv hF (v_lenS rfl sl23 rfl) rfl ?_; clear hF a; intro a hF
      refine svg hF rfl ?_
      refine sv hF (v_gtr rfl rfl) rfl ?_; clear hF a; intro a hF
      refine sv hF (v_pickF rfl rfl) rfl ?_; clear hF a; intro a hF
      refine WL_nil (hK _ _ ?_)
      clear hK K
      replace hF := hF.sub _ (c_ 23 rfl (c_ 7 rfl (c_ 6 rfl (c_ 1 rfl (c_ 2 rfl (n_))))))
      refine W_if hF rfl (fun hc3 => ?_) (fun hc3 => ?_)
      · skip
        try simp only [decide_eq_true_eq, decide_eq_false_iff_not, Bool.not_eq_true', Bool.not_eq_false', Bool.not_true, Bool.not_false] at hc3
        refine W_sr rfl (fun K hK => ?_)
        refine sv hF (v_assign rfl) rfl ?_; clear hF a; intro a hF
        refine sv hF (v_assign rfl) rfl ?_; clear hF a; intro a hF
        refine WL_nil (hK _ _ ?_)
        clear hK K
        replace hF := hF.sub _ (c_ 7 rfl (c_ 6 rfl (c_ 1 rfl (c_ 2 rfl (n_)))))
        refine W_ret ?_
        refine ⟨_, _, _, hF, rfl, rfl, ?_⟩
        have hno : pickM (some (wb, p)) mt l = none := pickM_f (.inr (.inl (by omega)))
        rw [hno]
        exact ⟨none, _, rfl, MOwn.nil _ _ _ _ _ _ _ hM, hS⟩
      · skip
        try simp only [decide_eq_true_eq, decide_eq_false_iff_not, Bool.not_eq_true', Bool.not_eq_false', Bool.not_true, Bool.not_false] at hc3
        refine W_skip ?_
        have hmay : mayM (some (wb, p)) mt = true := by simpa using hc1
        have hmp := mayM_pos hmay
        obtain ⟨gmt, omt, rfl⟩ := hAmt.at1 (by omega)
        refine W_sr rfl (fun K hK => ?_)
        refine sv hF (v_assign rfl) rfl ?_; clear hF a; intro a hF
        refine WL_nil (hK _ _ ?_)
        clear hK K
        replace hF := hF.sub _ (c_ 8 rfl (c_ 7 rfl (c_ 6 rfl (c_ 1 rfl (c_ 2 rfl (n_))))))
        refine W_seq ?_
        refine W_sr rfl (fun K hK => ?_)
        refine sv hF (v_assign rfl) rfl ?_; clear hF a; intro a hF
        refine WL_nil (hK _ _ ?_)
        clear hK K
        refine W_block ?_
        refine W_loop (fun m a w1 => ∃ (i : Nat) (v8 : Value) (b8 : Option Nat), Fr 55 [(1, .slice (some ⟨gmt, omt, none⟩) mt.length cmt), (2, .slice pl l.length cl), (8, v8), (9, .int .i64 (i : Int))] a ∧ (St FDx B w w1) ∧ (Mat FDx B M w1 (some ⟨gmt, omt, none⟩) cmt mt) ∧ (Row FDx B M w1 (.slice pl l.length cl) (zints l)) ∧ (MOwn FDx B w.heap.size M w1.heap.size w1 23 v8 b8 ((l.take i).map (rowM mt))) ∧ (((l.take i).all fun i => decide (0 ≤ i ∧ i < (mt.length : Int))) = true) ∧ (i ≤ l.length) ∧ (m + i = l.length)) (l.length) ?_ ?_
        · skip
          exact ⟨0, _, none, hF.sub _ (c_ 1 rfl (c_ 2 rfl (c_ 8 rfl (c_ 9 rfl (n_))))), hS, hAmt, hx, MOwn.nil _ _ _ _ _ _ _ hM, rfl, by omega, by omega⟩
        · skip
          clear hF
          clear hS hAmt hx
          rintro m a w1 ⟨i, v8, b8, hF, hS, hAmt, hx, hMO, hal, hi, hm⟩
          refine W_seq ?_
          obtain ⟨KM, hKe⟩ : ∃ KM, KM = w1.heap.size := ⟨_, rfl⟩
          rw [← hKe] at hMO
          have hKs : KM ≤ w1.heap.size := by omega
          have hNK : w.heap.size ≤ KM := by have := hS.ext.size; omega
          clear hKe
          refine W_sr rfl (fun K hK => ?_)
          refine sv hF (v_move rfl) rfl ?_; clear hF a; intro a hF
          refine sv hF (v_move rfl) rfl ?_; clear hF a; intro a hF
          refine sv hF (v_lenS rfl sl23 rfl) rfl ?_; clear hF a; intro a hF
          refine sv hF (v_lss rfl rfl) rfl ?_; clear hF a; intro a hF
          refine WL_nil (hK _ _ ?_)
          clear hK K
          replace hF := hF.sub _ (c_ 27 rfl (c_ 1 rfl (c_ 2 rfl (c_ 8 rfl (c_ 9 rfl (n_))))))
          refine W_if hF rfl (fun hc4 => ?_) (fun hc4 => ?_)
          · skip
            try simp only [decide_eq_true_eq, decide_eq_false_iff_not, Bool.not_eq_true', Bool.not_eq_false', Bool.not_true, Bool.not_false] at hc4
            refine W_skip ?_
            refine W_seq ?_
            refine W_block ?_
            refine W_seq ?_
            have hlt : i < l.length := by omega
            obtain ⟨z, hz⟩ : ∃ z, l[i]? = some z := ⟨_, List.getElem?_eq_getElem hlt⟩
            obtain ⟨gx, ox, hgx, hkz, -⟩ := hx.kat (zints_at hz)
            subst hgx
            refine W_sr rfl (fun K hK => ?_)
            refine sv hF (v_move rfl) rfl ?_; clear hF a; intro a hF
            refine sv hF (v_move rfl) rfl ?_; clear hF a; intro a hF
            refine sv hF (v_ixS sl23 rfl rfl (by omega) (by omega)) rfl ?_; clear hF a; intro a hF
            refine sv hF (v_load sc3 rfl (by rw [toNat_c]; exact hkz.c)) rfl ?_; clear hF a; intro a hF
            refine sb hF (v_lss rfl rfl) rfl ?_ ?_
            · clear hF a; intro hc5 a hF
              try simp only [decide_eq_true_eq, decide_eq_false_iff_not, Bool.not_eq_true', Bool.not_eq_false', Bool.not_true, Bool.not_false] at hc5
              refine sv hF (v_move rfl) rfl ?_; clear hF a; intro a hF
              refine svn hF rfl rfl rfl ?_; clear hF a; intro a hF
              refine svn hF rfl rfl rfl ?_; clear hF a; intro a hF
              refine svn hF rfl rfl rfl ?_; clear hF a; intro a hF
              refine svn hF rfl rfl rfl ?_; clear hF a; intro a hF
              refine svn hF rfl rfl rfl ?_; clear hF a; intro a hF
              refine svn hF rfl rfl rfl ?_; clear hF a; intro a hF
              refine svn hF rfl rfl rfl ?_; clear hF a; intro a hF
              refine sv hF (v_pickT rfl rfl) rfl ?_; clear hF a; intro a hF
              refine WL_nil (hK _ _ ?_)
              clear hK K
              replace hF := hF.sub _ (c_ 43 rfl (c_ 1 rfl (c_ 2 rfl (c_ 8 rfl (c_ 9 rfl (n_))))))
              refine W_ifT hF rfl ?_
              refine W_sr rfl (fun K hK => ?_)
              refine sv hF (v_assign rfl) rfl ?_; clear hF a; intro a hF
              refine sv hF (v_assign rfl) rfl ?_; clear hF a; intro a hF
              refine WL_nil (hK _ _ ?_)
              clear hK K
              replace hF := hF.sub _ (c_ 7 rfl (c_ 6 rfl (c_ 1 rfl (c_ 2 rfl (c_ 8 rfl (c_ 9 rfl (n_)))))))
              refine W_ret ?_
              refine ⟨_, _, _, hF, rfl, rfl, ?_⟩
              have hno : pickM (some (wb, p)) mt l = none := pickM_f (.inr (.inr (all_no hz (by rw [decide_eq_false_iff_not]; omega))))
              rw [hno]
              exact ⟨none, _, rfl, MOwn.nil _ _ _ _ _ _ _ hM, hS⟩
            · clear hF a; intro hc5 a hF
              try simp only [decide_eq_true_eq, decide_eq_false_iff_not, Bool.not_eq_true', Bool.not_eq_false', Bool.not_true, Bool.not_false] at hc5
              refine sv hF (v_move rfl) rfl ?_; clear hF a; intro a hF
              refine svg hF rfl ?_
              refine sv hF (v_move rfl) rfl ?_; clear hF a; intro a hF
              refine svg hF rfl ?_
              refine sv hF (v_move rfl) rfl ?_; clear hF a; intro a hF
              refine svg hF rfl ?_
              refine sv hF (v_ixS sl23 rfl rfl (by omega) (by omega)) rfl ?_; clear hF a; intro a hF
              refine svg hF rfl ?_
              refine sv hF (v_load sc3 rfl (by rw [toNat_c]; exact hkz.c)) rfl ?_; clear hF a; intro a hF
              refine svg hF rfl ?_
              refine sv hF (v_move rfl) rfl ?_; clear hF a; intro a hF
              refine svg hF rfl ?_
              refine sv hF (v_lenS rfl sl51 rfl) rfl ?_; clear hF a; intro a hF
              refine svg hF rfl ?_
              refine sv hF (v_geq rfl rfl) rfl ?_; clear hF a; intro a hF
              refine sv hF (v_pickF rfl rfl) rfl ?_; clear hF a; intro a hF
              refine WL_nil (hK _ _ ?_)
              clear hK K
              replace hF := hF.sub _ (c_ 43 rfl (c_ 1 rfl (c_ 2 rfl (c_ 8 rfl (c_ 9 rfl (n_))))))
              refine W_if hF rfl (fun hc6 => ?_) (fun hc6 => ?_)
              · skip
                try simp only [decide_eq_true_eq, decide_eq_false_iff_not, Bool.not_eq_true', Bool.not_eq_false', Bool.not_true, Bool.not_false] at hc6
                refine W_sr rfl (fun K hK => ?_)
                refine sv hF (v_assign rfl) rfl ?_; clear hF a; intro a hF
                refine sv hF (v_assign rfl) rfl ?_; clear hF a; intro a hF
                refine WL_nil (hK _ _ ?_)
                clear hK K
                replace hF := hF.sub _ (c_ 7 rfl (c_ 6 rfl (c_ 1 rfl (c_ 2 rfl (c_ 8 rfl (c_ 9 rfl (n_)))))))
                refine W_ret ?_
                refine ⟨_, _, _, hF, rfl, rfl, ?_⟩
                have hno : pickM (some (wb, p)) mt l = none := pickM_f (.inr (.inr (all_no hz (by rw [decide_eq_false_iff_not]; omega))))
                rw [hno]
                exact ⟨none, _, rfl, MOwn.nil _ _ _ _ _ _ _ hM, hS⟩
              · skip
                try simp only [decide_eq_true_eq, decide_eq_false_iff_not, Bool.not_eq_true', Bool.not_eq_false', Bool.not_true, Bool.not_false] at hc6
                refine W_skip ?_
                obtain ⟨zn, rfl⟩ : ∃ zn : Nat, z = (zn : Int) := ⟨z.toNat, by omega⟩
                obtain ⟨r, hr⟩ : ∃ r, mt[zn]? = some r := ⟨_, List.getElem?_eq_getElem (by omega)⟩
                obtain ⟨pr, cr, hkr, hrow, -⟩ := hAmt.row2 hr
                refine W_reg rfl (fun K hK => ?_)
                refine sv hF (v_move rfl) rfl ?_; clear hF a; intro a hF
                refine sv hF (v_move rfl) rfl ?_; clear hF a; intro a hF
                refine sv hF (v_move rfl) rfl ?_; clear hF a; intro a hF
                refine sv hF (v_move rfl) rfl ?_; clear hF a; intro a hF
                refine sv hF (v_ixS sl23 rfl rfl (by omega) (by omega)) rfl ?_; clear hF a; intro a hF
                refine sv hF (v_load sc3 rfl (by rw [toNat_c]; exact hkz.c)) rfl ?_; clear hF a; intro a hF
                refine sv hF (v_ixS sl51 rfl rfl (by omega) (by omega)) rfl ?_; clear hF a; intro a hF
                refine sv hF (v_load sc23 rfl (by rw [toNat_c]; exact hkr.c)) rfl ?_; clear hF a; intro a hF
                refine s_bs (D := FDx) (B := B) hF sl51 rfl rfl (by decide) (by simp [Value.cells]) (by decide) hS.inv rfl ?_; clear hF a; intro w' a hm hI' hL hF
                replace hAmt := hAmt.mb hm (fun _ h => by cases h)
                replace hx := hx.mb hm (fun _ h => by cases h)
                replace hMO := hMO.mb0 hm
                replace hKs := Nat.le_trans hKs hm.size
                replace hrow := hrow.mb hm (fun _ h => by cases h)
                replace hS := hS.mb0 hm
                clear hm hI'
                replace hMO := hMO.up hKs
                clear hKs
                refine s_appM (D := FDx) (B := B) hF rfl sl51 rfl rfl hMO hL (.inr (hrow.mono (Nat.le_refl _))) rfl rfl (by simp; omega) (hS.ext.size) (by decide) (by decide) hS.inv rfl ?_; clear hF a; intro v' b' w' a ho' hm hI' hF
                replace hAmt := hAmt.mb hm (fun k h => Nat.le_trans (by omega) (hMO.lt k h).1)
                replace hx := hx.mb hm (fun k h => Nat.le_trans (by omega) (hMO.lt k h).1)
                replace hS := hS.mb hm (fun k h => (hMO.lt k h).1)
                have hKm := hm.size
                replace hMO := ho'
                clear hm hI' ho' hL
                refine sv hF (v_assign rfl) rfl ?_; clear hF a; intro a hF
                refine WL_nil (hK _ _ ?_)
                clear hK K
                replace hF := hF.sub _ (c_ 8 rfl (c_ 1 rfl (c_ 2 rfl (c_ 9 rfl (n_)))))
                refine W_reg rfl (fun K hK => ?_)
                refine sv hF (v_move rfl) rfl ?_; clear hF a; intro a hF
                refine sv hF (v_addI rfl rfl (by omega)) rfl ?_; clear hF a; intro a hF
                refine sv hF (v_assign rfl) rfl ?_; clear hF a; intro a hF
                refine WL_nil (hK _ _ ?_)
                clear hK K
                exact ⟨m - 1, by omega, i + 1, _, _, hF.sub _ (c_ 1 rfl (c_ 2 rfl (c_ 8 rfl (c_ 9 rfl (n_))))), hS, hAmt, hx, (hMO.up hKm).cast (by rw [pick_snoc hz, rowM_of hr]), all_snoc hal hz (by rw [decide_eq_true_iff]; omega), by omega, by omega⟩
          · skip
            try simp only [decide_eq_true_eq, decide_eq_false_iff_not, Bool.not_eq_true', Bool.not_eq_false', Bool.not_true, Bool.not_false] at hc4
            refine W_exit rfl ?_
            refine W_sr rfl (fun K hK => ?_)
            refine sv hF (v_move rfl) rfl ?_; clear hF a; intro a hF
            refine sv hF (v_assign rfl) rfl ?_; clear hF a; intro a hF
            refine sv hF (v_assign rfl) rfl ?_; clear hF a; intro a hF
            refine WL_nil (hK _ _ ?_)
            clear hK K
            replace hF := hF.sub _ (c_ 7 rfl (c_ 6 rfl (c_ 54 rfl (c_ 1 rfl (c_ 2 rfl (c_ 8 rfl (c_ 9 rfl (n_))))))))
            refine W_ret ?_
            refine ⟨_, _, _, hF, rfl, rfl, ?_⟩
            obtain rfl : i = l.length := by omega
            rw [List.take_length] at hMO hal
            have hyes := pickM_t hmay (by omega) hal
            rw [hyes]
            exact ⟨_, _, rfl, hMO.up hKs, hS⟩

set_option maxRecDepth 100000 in
set_option maxHeartbeats 1000000 in
theorem rJoin_ok (B M wb p : Nat) (hp : Prm wb p) (pma : Option Addr) (cma : Nat) (ma : Mtx) (pmb : Option Addr) (cmb : Nat) (mb : Mtx) (w : World) (hI : Inv FDx B w) (hM : M ≤ w.heap.size) (hAma : Mat FDx B M w pma cma ma) (hlma : ma.length ≤ 1000) (hbma : ∀ r ∈ ma, r.length ≤ 1000) (hAmb : Mat FDx B M w pmb cmb mb) (hlmb : mb.length ≤ 1000) (hbmb : ∀ r ∈ mb, r.length ≤ 1000) : Ret Try.prog 49 [.int .i64 (wb : Int), .slice pma ma.length cma, .slice pmb mb.length cmb] w fun v w' => ∃ ob u, v = .tuple #[u, .bool (joinM (some (wb, p)) ma mb).isSome] ∧ MOwn FDx B w.heap.size M w'.heap.size w' 23 u ob ((joinM (some (wb, p)) ma mb).getD []) ∧ St FDx B w w' := by
  refine enter2 45 [(0, .int .i64 (wb : Int)), (1, .slice pma ma.length cma), (2, .slice pmb mb.length cmb)] 6 7 Try.func49 rfl rfl rfl rfl rfl ?_; intro a hF
  have hS := St.refl hI
  refine W_sr rfl (fun K hK => ?_)
  refine sv hF (v_assign rfl) rfl ?_; clear hF a; intro a hF
  refine sv hF (v_assign rfl) rfl ?_; clear hF a; intro a hF
  refine WL_nil (hK _ _ ?_)
  clear hK K
  refine W_seq ?_
  refine W_sd (m := 29) rfl hmix hS.inv (fun K hK w1 hS' hh => ?_)
  replace hAma := hAma.st hS'
  replace hAmb := hAmb.st hS'
  replace hS := hS.trans hS'
  clear hS'
  clear hh
  refine a_v (i := 0) rfl (by kernel_rfl) hF (fun w2 hx => v_move rfl) rfl ?_; clear hF a; intro a hF
  refine a_v (i := 1) rfl (by kernel_rfl) hF (fun w2 hx => v_move rfl) rfl ?_; clear hF a; intro a hF
  refine a_e (i := 2) rfl (by kernel_rfl) ?_
  refine sc hF rfl rfl rfl en51 rfl (rMay_ok B M wb p hp _ cma ma _ hS.inv hAma (Nat.le_trans hlma (by decide)) (fun r hr => Nat.le_trans (hbma r hr) (by decide))) ?_; clear hF a; intro v w' a hv hF
  obtain ⟨rfl, hS'⟩ := hv
  refine WL_nil ⟨hS'.ext, ?_⟩
  replace hAma := hAma.st hS'
  replace hAmb := hAmb.st hS'
  replace hS := hS.trans hS'
  clear hS'
  refine a_b (i := 3) rfl (by kernel_rfl) hF (fun w2 hx => v_not rfl) rfl ?_ ?_
  · clear hF a; intro hc1 a hF
    try simp only [decide_eq_true_eq, decide_eq_false_iff_not, Bool.not_eq_true', Bool.not_eq_false', Bool.not_true, Bool.not_false] at hc1
    refine a_v (i := 4) rfl (by kernel_rfl) hF (fun w2 hx => v_move rfl) rfl ?_; clear hF a; intro a hF
    refine a_vn (i := 5) rfl (by kernel_rfl) hF rfl rfl rfl ?_; clear hF a; intro a hF
    refine a_vn (i := 6) rfl (by kernel_rfl) hF rfl rfl rfl ?_; clear hF a; intro a hF
    refine a_vn (i := 7) rfl (by kernel_rfl) hF rfl rfl rfl ?_; clear hF a; intro a hF
    refine a_vn (i := 8) rfl (by kernel_rfl) hF rfl rfl rfl ?_; clear hF a; intro a hF
    refine a_v (i := 9) rfl (by kernel_rfl) hF (fun w2 hx => v_pickT rfl rfl) rfl ?_; clear hF a; intro a hF
    refine a_v (i := 10) rfl (by kernel_rfl) hF (fun w2 hx => v_move rfl) rfl ?_; clear hF a; intro a hF
    refine a_vn (i := 11) rfl (by kernel_rfl) hF rfl rfl rfl ?_; clear hF a; intro a hF
    refine a_vn (i := 12) rfl (by kernel_rfl) hF rfl rfl rfl ?_; clear hF a; intro a hF
    refine a_vn (i := 13) rfl (by kernel_rfl) hF rfl rfl rfl ?_; clear hF a; intro a hF
    refine a_vn (i := 14) rfl (by kernel_rfl) hF rfl rfl rfl ?_; clear hF a; intro a hF
    refine a_vn (i := 15) rfl (by kernel_rfl) hF rfl rfl rfl ?_; clear hF a; intro a hF
    refine a_vn (i := 16) rfl (by kernel_rfl) hF rfl rfl rfl ?_; clear hF a; intro a hF
    refine a_vn (i := 17) rfl (by kernel_rfl) hF rfl rfl rfl ?_; clear hF a; intro a hF
    refine a_vn (i := 18) rfl (by kernel_rfl) hF rfl rfl rfl ?_; clear hF a; intro a hF
    refine a_vn (i := 19) rfl (by kernel_rfl) hF rfl rfl rfl ?_; clear hF a; intro a hF
    refine a_v (i := 20) rfl (by kernel_rfl) hF (fun w2 hx => v_pickT rfl rfl) rfl ?_; clear hF a; intro a hF
    refine a_v (i := 21) rfl (by kernel_rfl) hF (fun w2 hx => v_move rfl) rfl ?_; clear hF a; intro a hF
    refine a_vn (i := 22) rfl (by kernel_rfl) hF rfl rfl rfl ?_; clear hF a; intro a hF
    refine a_vn (i := 23) rfl (by kernel_rfl) hF rfl rfl rfl ?_; clear hF a; intro a hF
    refine a_vn (i := 24) rfl (by kernel_rfl) hF rfl rfl rfl ?_; clear hF a; intro a hF
    refine a_vn (i := 25) rfl (by kernel_rfl) hF rfl rfl rfl ?_; clear hF a; intro a hF
    refine a_vn (i := 26) rfl (by kernel_rfl) hF rfl rfl rfl ?_; clear hF a; intro a hF
    refine a_vn (i := 27) rfl (by kernel_rfl) hF rfl rfl rfl ?_; clear hF a; intro a hF
    refine a_v (i := 28) rfl (by kernel_rfl) hF (fun w2 hx => v_pickT rfl rfl) rfl ?_; clear hF a; intro a hF
    refine a_done (by kernel_rfl) (hK _ _ ?_)
    clear hK K
    replace hF := hF.sub _ (c_ 37 rfl (c_ 7 rfl (c_ 6 rfl (c_ 1 rfl (c_ 2 rfl (n_))))))
    refine W_ifT hF rfl ?_
    refine W_sr rfl (fun K hK => ?_)
    refine sv hF (v_assign rfl) rfl ?_; clear hF a; intro a hF
    refine sv hF (v_assign rfl) rfl ?_; clear hF a; intro a hF
    refine WL_nil (hK _ _ ?_)
    clear hK K
    replace hF := hF.sub _ (c_ 7 rfl (c_ 6 rfl (c_ 1 rfl (c_ 2 rfl (n_)))))
    refine W_ret ?_
    refine ⟨_, _, _, hF, rfl, rfl, ?_⟩
    have hno : joinM (some (wb, p)) ma mb = none := joinM_f (.inl (by simpa using hc1))
    rw [hno]
    exact ⟨none, _, rfl, MOwn.nil _ _ _ _ _ _ _ hM, hS⟩
  · clear hF a; intro hc1 a hF
    try simp only [decide_eq_true_eq, decide_eq_false_iff_not, Bool.not_eq_true', Bool.not_eq_false', Bool.not_true, Bool.not_false] at hc1
    refine a_v (i := 4) rfl (by kernel_rfl) hF (fun w2 hx => v_move rfl) rfl ?_; clear hF a; intro a hF
    refine a_vg (i := 5) rfl (by kernel_rfl) hF rfl (fun w2 hx => v_move rfl) rfl ?_; clear hF a; intro a hF
    refine a_vg (i := 6) rfl (by kernel_rfl) hF rfl (fun w2 hx => v_move rfl) rfl ?_; clear hF a; intro a hF
    refine a_e (i := 7) rfl (by kernel_rfl) ?_
    refine svg hF rfl ?_
    refine sc hF rfl rfl rfl en51 rfl (rMay_ok B M wb p hp _ cmb mb _ hS.inv hAmb (Nat.le_trans hlmb (by decide)) (fun r hr => Nat.le_trans (hbmb r hr) (by decide))) ?_; clear hF a; intro v w' a hv hF
    obtain ⟨rfl, hS'⟩ := hv
    refine WL_nil ⟨hS'.ext, ?_⟩
    replace hAma := hAma.st hS'
    replace hAmb := hAmb.st hS'
    replace hS := hS.trans hS'
    clear hS'
    refine a_bg (i := 8) rfl (by kernel_rfl) hF rfl (fun w2 hx => v_not rfl) rfl ?_ ?_
    · clear hF a; intro hc2 a hF
      try simp only [decide_eq_true_eq, decide_eq_false_iff_not, Bool.not_eq_true', Bool.not_eq_false', Bool.not_true, Bool.not_false] at hc2
      refine a_v (i := 9) rfl (by kernel_rfl) hF (fun w2 hx => v_pickF rfl rfl) rfl ?_; clear hF a; intro a hF
      refine a_v (i := 10) rfl (by kernel_rfl) hF (fun w2 hx => v_move rfl) rfl ?_; clear hF a; intro a hF
      refine a_vn (i := 11) rfl (by kernel_rfl) hF rfl rfl rfl ?_; clear hF a; intro a hF
      refine a_vn (i := 12) rfl (by kernel_rfl) hF rfl rfl rfl ?_; clear hF a; intro a hF
      refine a_vn (i := 13) rfl (by kernel_rfl) hF rfl rfl rfl ?_; clear hF a; intro a hF
      refine a_vn (i := 14) rfl (by kernel_rfl) hF rfl rfl rfl ?_; clear hF a; intro a hF
      refine a_vn (i := 15) rfl (by kernel_rfl) hF rfl rfl rfl ?_; clear hF a; intro a hF
      refine a_vn (i := 16) rfl (by kernel_rfl) hF rfl rfl rfl ?_; clear hF a; intro a hF
      refine a_vn (i := 17) rfl (by kernel_rfl) hF rfl rfl rfl ?_; clear hF a; intro a hF
      refine a_vn (i := 18) rfl (by kernel_rfl) hF rfl rfl rfl ?_; clear hF a; intro a hF
      refine a_vn (i := 19) rfl (by kernel_rfl) hF rfl rfl rfl ?_; clear hF a; intro a hF
      refine a_v (i := 20) rfl (by kernel_rfl) hF (fun w2 hx => v_pickT rfl rfl) rfl ?_; clear hF a; intro a hF
      refine a_v (i := 21) rfl (by kernel_rfl) hF (fun w2 hx => v_move rfl) rfl ?_; clear hF a; intro a hF
      refine a_vn (i := 22) rfl (by kernel_rfl) hF rfl rfl rfl ?_; clear hF a; intro a hF
      refine a_vn (i := 23) rfl (by kernel_rfl) hF rfl rfl rfl ?_; clear hF a; intro a hF
      refine a_vn (i := 24) rfl (by kernel_rfl) hF rfl rfl rfl ?_; clear hF a; intro a hF
      refine a_vn (i := 25) rfl (by kernel_rfl) hF rfl rfl rfl ?_; clear hF a; intro a hF
      refine a_vn (i := 26) rfl (by kernel_rfl) hF rfl rfl rfl ?_; clear hF a; intro a hF
      refine a_vn (i := 27) rfl (by kernel_rfl) hF rfl rfl rfl ?_; clear hF a; intro a hF
      refine a_v (i := 28) rfl (by kernel_rfl) hF (fun w2 hx => v_pickT rfl rfl) rfl ?_; clear hF a; intro a hF
      refine a_done (by kernel_rfl) (hK _ _ ?_)
      clear hK K
      replace hF := hF.sub _ (c_ 37 rfl (c_ 7 rfl (c_ 6 rfl (c_ 1 rfl (c_ 2 rfl (n_))))))
      refine W_ifT hF rfl ?_
      refine W_sr rfl (fun K hK => ?_)
      refine sv hF (v_assign rfl) rfl ?_; clear hF a; intro a hF
      refine sv hF (v_assign rfl) rfl ?_; clear hF a; intro a hF
      refine WL_nil (hK _ _ ?_)
      clear hK K
      replace hF := hF.sub _ (c_ 7 rfl (c_ 6 rfl (c_ 1 rfl (c_ 2 rfl (n_)))))
      refine W_ret ?_
      refine ⟨_, _, _, hF, rfl, rfl, ?_⟩
      have hno : joinM (some (wb, p)) ma mb = none := joinM_f (.inr (.inl (by simpa using hc2)))
      rw [hno]
      exact ⟨none, _, rfl, MOwn.nil _ _ _ _ _ _ _ hM, hS⟩
    · clear hF a; intro hc2 a hF
      try simp only [decide_eq_true_eq, decide_eq_false_iff_not, Bool.not_eq_true', Bool.not_eq_false', Bool.not_true, Bool.not_false] at hc2
      refine a_v (i := 9) rfl (by kernel_rfl) hF (fun w2 hx => v_pickF rfl rfl) rfl ?_; clear hF a; intro a hF
      refine a_v (i := 10) rfl (by kernel_rfl) hF (fun w2 hx => v_move rfl) rfl ?_; clear hF a; intro a hF
      have hm1 : mayM (some (wb, p)) ma = true := by simpa using hc1
      have hm2 : mayM (some (wb, p)) mb = true := by simpa using hc2
      have hp1 := mayM_pos hm1
      have hp2 := mayM_pos hm2
      obtain ⟨gma, oma, rfl⟩ := hAma.at1 (by omega)
      obtain ⟨r0ma, h0ma⟩ : ∃ r, ma[0]? = some r := ⟨_, List.getElem?_eq_getElem (by omega)⟩
      obtain ⟨p0ma, c0ma, hk0ma, hrow0ma, -⟩ := hAma.row2 h0ma
      have hwma := wid_at h0ma
      obtain ⟨gmb, omb, rfl⟩ := hAmb.at1 (by omega)
      obtain ⟨r0mb, h0mb⟩ : ∃ r, mb[0]? = some r := ⟨_, List.getElem?_eq_getElem (by omega)⟩
      obtain ⟨p0mb, c0mb, hk0mb, hrow0mb, -⟩ := hAmb.row2 h0mb
      have hwmb := wid_at h0mb
      refine a_vg (i := 11) rfl (by kernel_rfl) hF rfl (fun w2 hx => v_move rfl) rfl ?_; clear hF a; intro a hF
      refine a_vg (i := 12) rfl (by kernel_rfl) hF rfl (fun w2 hx => v_ixS sl51 rfl rfl (by decide) (by omega)) rfl ?_; clear hF a; intro a hF
      refine a_vg (i := 13) rfl (by kernel_rfl) hF rfl (fun w2 hx => v_load sc23 rfl (hk0ma.ld hx)) rfl ?_; clear hF a; intro a hF
      refine a_vg (i := 14) rfl (by kernel_rfl) hF rfl (fun w2 hx => v_lenS rfl sl23 rfl) rfl ?_; clear hF a; intro a hF
      refine a_vg (i := 15) rfl (by kernel_rfl) hF rfl (fun w2 hx => v_move rfl) rfl ?_; clear hF a; intro a hF
      refine a_vg (i := 16) rfl (by kernel_rfl) hF rfl (fun w2 hx => v_ixS sl51 rfl rfl (by decide) (by omega)) rfl ?_; clear hF a; intro a hF
      refine a_vg (i := 17) rfl (by kernel_rfl) hF rfl (fun w2 hx => v_load sc23 rfl (hk0mb.ld hx)) rfl ?_; clear hF a; intro a hF
      refine a_vg (i := 18) rfl (by kernel_rfl) hF rfl (fun w2 hx => v_lenS rfl sl23 rfl) rfl ?_; clear hF a; intro a hF
      refine a_bg (i := 19) rfl (by kernel_rfl) hF rfl (fun w2 hx => v_neq rfl rfl) rfl ?_ ?_
      · clear hF a; intro hc3 a hF
        try simp only [decide_eq_true_eq, decide_eq_false_iff_not, Bool.not_eq_true', Bool.not_eq_false', Bool.not_true, Bool.not_false] at hc3
        refine a_v (i := 20) rfl (by kernel_rfl) hF (fun w2 hx => v_pickF rfl rfl) rfl ?_; clear hF a; intro a hF
        refine a_v (i := 21) rfl (by kernel_rfl) hF (fun w2 hx => v_move rfl) rfl ?_; clear hF a; intro a hF
        refine a_vn (i := 22) rfl (by kernel_rfl) hF rfl rfl rfl ?_; clear hF a; intro a hF
        refine a_vn (i := 23) rfl (by kernel_rfl) hF rfl rfl rfl ?_; clear hF a; intro a hF
        refine a_vn (i := 24) rfl (by kernel_rfl) hF rfl rfl rfl ?_; clear hF a; intro a hF
        refine a_vn (i := 25) rfl (by kernel_rfl) hF rfl rfl rfl ?_; clear hF a; intro a hF
        refine a_vn (i := 26) rfl (by kernel_rfl) hF rfl rfl rfl ?_; clear hF a; intro a hF
        refine a_vn (i := 27) rfl (by kernel_rfl) hF rfl rfl rfl ?_; clear hF a; intro a hF
        refine a_v (i := 28) rfl (by kernel_rfl) hF (fun w2 hx => v_pickT rfl rfl) rfl ?_; clear hF a; intro a hF
        refine a_done (by kernel_rfl) (hK _ _ ?_)
        clear hK K
        replace hF := hF.sub _ (c_ 37 rfl (c_ 7 rfl (c_ 6 rfl (c_ 1 rfl (c_ 2 rfl (n_))))))
        refine W_ifT hF rfl ?_
        refine W_sr rfl (fun K hK => ?_)
        refine sv hF (v_assign rfl) rfl ?_; clear hF a; intro a hF
        refine sv hF (v_assign rfl) rfl ?_; clear hF a; intro a hF
        refine WL_nil (hK _ _ ?_)
        clear hK K
        replace hF := hF.sub _ (c_ 7 rfl (c_ 6 rfl (c_ 1 rfl (c_ 2 rfl (n_)))))
        refine W_ret ?_
        refine ⟨_, _, _, hF, rfl, rfl, ?_⟩
        have hno : joinM (some (wb, p)) ma mb = none := joinM_f (.inr (.inr (.inl (by rw [hwma, hwmb]; omega))))
        rw [hno]
        exact ⟨none, _, rfl, MOwn.nil _ _ _ _ _ _ _ hM, hS⟩
      · clear hF a; intro hc3 a hF
        try simp only [decide_eq_true_eq, decide_eq_false_iff_not, Bool.not_eq_true', Bool.not_eq_false', Bool.not_true, Bool.not_false] at hc3
        refine a_v (i := 20) rfl (by kernel_rfl) hF (fun w2 hx => v_pickF rfl rfl) rfl ?_; clear hF a; intro a hF
        refine a_v (i := 21) rfl (by kernel_rfl) hF (fun w2 hx => v_move rfl) rfl ?_; clear hF a; intro a hF
        refine a_vg (i := 22) rfl (by kernel_rfl) hF rfl (fun w2 hx => v_move rfl) rfl ?_; clear hF a; intro a hF
        refine a_vg (i := 23) rfl (by kernel_rfl) hF rfl (fun w2 hx => v_lenS rfl sl51 rfl) rfl ?_; clear hF a; intro a hF
        refine a_vg (i := 24) rfl (by kernel_rfl) hF rfl (fun w2 hx => v_move rfl) rfl ?_; clear hF a; intro a hF
        refine a_vg (i := 25) rfl (by kernel_rfl) hF rfl (fun w2 hx => v_lenS rfl sl51 rfl) rfl ?_; clear hF a; intro a hF
        refine a_vg (i := 26) rfl (by kernel_rfl) hF rfl (fun w2 hx => v_addI rfl rfl (by omega)) rfl ?_; clear hF a; intro a hF
        refine a_vg (i := 27) rfl (by kernel_rfl) hF rfl (fun w2 hx => v_gtr rfl rfl) rfl ?_; clear hF a; intro a hF
        refine a_v (i := 28) rfl (by kernel_rfl) hF (fun w2 hx => v_pickF rfl rfl) rfl ?_; clear hF a; intro a hF
        refine a_done (by kernel_rfl) (hK _ _ ?_)
        clear hK K
        replace hF := hF.sub _ (c_ 37 rfl (c_ 7 rfl (c_ 6 rfl (c_ 1 rfl (c_ 2 rfl (n_))))))
        refine W_if hF rfl (fun hc4 => ?_) (fun hc4 => ?_)
        · skip
          try simp only [decide_eq_true_eq, decide_eq_false_iff_not, Bool.not_eq_true', Bool.not_eq_false', Bool.not_true, Bool.not_false] at hc4
          refine W_sr rfl (fun K hK => ?_)
          refine sv hF (v_assign rfl) rfl ?_; clear hF a; intro a hF
          refine sv hF (v_assign rfl) rfl ?_; clear hF a; intro a hF
          refine WL_nil (hK _ _ ?_)
          clear hK K
          replace hF := hF.sub _ (c_ 7 rfl (c_ 6 rfl (c_ 1 rfl (c_ 2 rfl (n_)))))
          refine W_ret ?_
          refine ⟨_, _, _, hF, rfl, rfl, ?_⟩
          have hno : joinM (some (wb, p)) ma mb = none := joinM_f (.inr (.inr (.inr (by omega))))
          rw [hno]
          exact ⟨none, _, rfl, MOwn.nil _ _ _ _ _ _ _ hM, hS⟩
        · skip
          try simp only [decide_eq_true_eq, decide_eq_false_iff_not, Bool.not_eq_true', Bool.not_eq_false', Bool.not_true, Bool.not_false] at hc4
          refine W_skip ?_
          have hyes := joinM_t hm1 hm2 (by rw [hwma, hwmb]; omega) (by omega)
          have hs0 := hS.ext.size
          refine W_sr rfl (fun K hK => ?_)
          refine s_bs (D := FDx) (B := B) hF sl51 rfl rfl (by decide) (by simp [Value.cells]) (by decide) hS.inv rfl ?_; clear hF a; intro w' a hm hI' hL hF
          replace hAma := hAma.mb hm (fun _ h => by cases h)
          replace hAmb := hAmb.mb hm (fun _ h => by cases h)
          replace hS := hS.mb0 hm
          clear hm hI'
          have hMO : MOwn FDx B w.heap.size M w.heap.size w' 23 _ _ [] := ⟨⟨[], rfl, hL.le hs0, fun j v r x => by simp at x⟩, hM⟩
          clear hL
          refine sv hF (v_move rfl) rfl ?_; clear hF a; intro a hF
          refine s_appMM (D := FDx) (B := B) hF rfl sl51 rfl rfl hMO (hAma.rowsO (Nat.le_refl _)) rfl (by simp; omega) (hS.ext.size) (by decide) (by decide) hS.inv rfl ?_; clear hF a; intro v' b' w' a ho' hm hI' hF
          replace hAma := hAma.mb hm (fun k h => Nat.le_trans (hM) (hMO.lt k h).1)
          replace hAmb := hAmb.mb hm (fun k h => Nat.le_trans (hM) (hMO.lt k h).1)
          replace hS := hS.mb hm (fun k h => (hMO.lt k h).1)
          have hKm := hm.size
          replace hMO := ho'
          clear hm hI' ho'
          refine sv hF (v_assign rfl) rfl ?_; clear hF a; intro a hF
          refine WL_nil (hK _ _ ?_)
          clear hK K
          replace hF := hF.sub _ (c_ 8 rfl (c_ 7 rfl (c_ 6 rfl (c_ 2 rfl (n_)))))
          clear hKm
          refine W_sr rfl (fun K hK => ?_)
          refine sv hF (v_move rfl) rfl ?_; clear hF a; intro a hF
          refine sv hF (v_move rfl) rfl ?_; clear hF a; intro a hF
          refine s_appMM (D := FDx) (B := B) hF rfl sl51 rfl rfl hMO (hAmb.rowsO (Nat.le_refl _)) rfl (by simp; omega) (hS.ext.size) (by decide) (by decide) hS.inv rfl ?_; clear hF a; intro v' b' w' a ho' hm hI' hF
          replace hAma := hAma.mb hm (fun k h => Nat.le_trans (hM) (hMO.lt k h).1)
          replace hAmb := hAmb.mb hm (fun k h => Nat.le_trans (hM) (hMO.lt k h).1)
          replace hS := hS.mb hm (fun k h => (hMO.lt k h).1)
          have hKm := hm.size
          replace hMO := ho'
          clear hm hI' ho'
          refine sv hF (v_assign rfl) rfl ?_; clear hF a; intro a hF
          refine WL_nil (hK _ _ ?_)
          clear hK K
          replace hF := hF.sub _ (c_ 8 rfl (c_ 7 rfl (c_ 6 rfl (n_))))
          refine W_sr rfl (fun K hK => ?_)
          refine sv hF (v_move rfl) rfl ?_; clear hF a; intro a hF
          refine sv hF (v_assign rfl) rfl ?_; clear hF a; intro a hF
          refine sv hF (v_assign rfl) rfl ?_; clear hF a; intro a hF
          refine WL_nil (hK _ _ ?_)
          clear hK K
          replace hF := hF.sub _ (c_ 7 rfl (c_ 6 rfl (n_)))
          refine W_ret ?_
          refine ⟨_, _, _, hF, rfl, rfl, ?_⟩
          rw [hyes]
          exact ⟨_, _, rfl, hMO.up hS.ext.size, hS⟩

end Go.Proofs.Ytlkifpmlpnaaoaa
