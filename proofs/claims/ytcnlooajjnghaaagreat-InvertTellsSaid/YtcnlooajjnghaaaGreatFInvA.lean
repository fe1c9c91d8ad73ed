/- The walks of slices.Grow and slices.Concat over numbers, of rows side by side. -/
import Derived.Test.YtcnlooajjnghaaaGreatFMatA
import Derived.Test.YtcnlooajjnghaaaGreatGWm
set_option linter.unusedVariables false
set_option linter.unusedSimpArgs false
namespace Go.Proofs.YtcnlooajjnghaaaGreat
open Go Go.Gam


namespace FxFInvA
theorem en53 : Ent Tryz.prog 53 := ent Tryz.func53 (by kernel_rfl) (by kernel_rfl)
theorem en79 : Ent Tryz.prog 79 := ent Tryz.func79 (by kernel_rfl) (by kernel_rfl)
theorem sc23 : Scalar Tryz.prog 23 := ⟨_, Tryz.underlying23, by simp, by simp⟩
theorem sl22 : Sl Tryz.prog 22 23 (.slice none 0 0) 24 := sl_of Tryz.underlying22 rfl (by kernel_rfl)
theorem sl23 : Sl Tryz.prog 23 3 (.int .i64 0) 8 := sl_of Tryz.underlying23 rfl (by kernel_rfl)
theorem sl30 : Sl Tryz.prog 30 23 (.slice none 0 0) 24 := sl_of Tryz.underlying30 rfl (by kernel_rfl)
end FxFInvA
open FxFInvA

set_option maxRecDepth 100000 in
set_option maxHeartbeats 1000000 in
theorem Grow_nil (B m : Nat) (w : World) (hI : Inv FDx B w) (hm : m ≤ 1000000) : Ret Tryz.prog 79 [.slice none 0 0, .int .i64 (m : Int)] w fun v w' => ∃ ob, Gam.Own FDx B w.heap.size w' FDx.E v ob [] ∧ St FDx B w w' := by
  refine enter 27 [(0, .slice none 0 0), (1, .int .i64 (m : Int))] 4 Tryz.func79 rfl rfl rfl rfl rfl ?_; intro a hF
  have hS := St.refl hI
  refine W_sr rfl (fun K hK => ?_)
  refine sv hF (v_assign rfl) rfl ?_; clear hF a; intro a hF
  refine WL_nil (hK _ _ ?_)
  clear hK K
  refine W_seq ?_
  refine W_sr rfl (fun K hK => ?_)
  refine sv hF (v_move rfl) rfl ?_; clear hF a; intro a hF
  refine sv hF ((v_lss rfl rfl).as (congrArg Value.bool (decide_eq_false (by omega)))) rfl ?_; clear hF a; intro a hF
  refine WL_nil (hK _ _ ?_)
  clear hK K
  replace hF := hF.sub _ (c_ 6 rfl (c_ 4 rfl (c_ 0 rfl (c_ 1 rfl (n_)))))
  refine W_ifF hF rfl ?_
  refine W_skip ?_
  refine W_seq ?_
  refine W_sr rfl (fun K hK => ?_)
  refine sv hF (v_move rfl) rfl ?_; clear hF a; intro a hF
  refine sv hF (v_move rfl) rfl ?_; clear hF a; intro a hF
  refine sv hF (v_capS rfl sl23 rfl) rfl ?_; clear hF a; intro a hF
  refine sv hF (v_move rfl) rfl ?_; clear hF a; intro a hF
  refine sv hF (v_lenS rfl sl23 rfl) rfl ?_; clear hF a; intro a hF
  refine sv hF (v_subI rfl rfl (by omega)) rfl ?_; clear hF a; intro a hF
  refine sv hF (v_subI rfl rfl (by omega)) rfl ?_; clear hF a; intro a hF
  refine sv hF (v_assign rfl) rfl ?_; clear hF a; intro a hF
  refine WL_nil (hK _ _ ?_)
  clear hK K
  replace hF := hF.sub _ (c_ 1 rfl (c_ 4 rfl (c_ 0 rfl (n_))))
  refine W_sr rfl (fun K hK => ?_)
  refine sv hF (v_move rfl) rfl ?_; clear hF a; intro a hF
  refine sv hF (v_gtr rfl rfl) rfl ?_; clear hF a; intro a hF
  refine WL_nil (hK _ _ ?_)
  clear hK K
  replace hF := hF.sub _ (c_ 16 rfl (c_ 1 rfl (c_ 4 rfl (c_ 0 rfl (n_)))))
  refine W_if hF rfl (fun hc1 => ?_) (fun hc1 => ?_)
  · skip
    try simp only [decide_eq_true_eq, decide_eq_false_iff_not, Bool.not_eq_true', Bool.not_eq_false', Bool.not_true, Bool.not_false] at hc1
    refine W_reg rfl (fun K hK => ?_)
    refine sv hF (v_move rfl) rfl ?_; clear hF a; intro a hF
    refine sv hF (v_move rfl) rfl ?_; clear hF a; intro a hF
    refine sv hF (v_capS rfl sl23 rfl) rfl ?_; clear hF a; intro a hF
    refine sv hF (v_slHi sl23 rfl rfl (by omega) (by omega)) rfl ?_; clear hF a; intro a hF
    refine sv hF (v_move rfl) rfl ?_; clear hF a; intro a hF
    refine s_appZ (D := FDx) (B := B) (m := m) hF rfl sl23 Tryz.underlying3 rfl rfl (by omega) (by omega) (by omega) (by decide) hS.inv rfl ?_; clear hF a; intro w' a c hm hI' hO hF
    replace hS := hS.mb0 hm
    clear hm hI'
    refine sv hF (v_move rfl) rfl ?_; clear hF a; intro a hF
    refine sv hF (v_lenS rfl sl23 rfl) rfl ?_; clear hF a; intro a hF
    refine sv hF (v_slHi sl23 rfl rfl (by omega) (by omega)) rfl ?_; clear hF a; intro a hF
    refine sv hF (v_assign rfl) rfl ?_; clear hF a; intro a hF
    refine WL_nil (hK _ _ ?_)
    clear hK K
    replace hF := hF.sub _ (c_ 0 rfl (c_ 4 rfl (n_)))
    refine W_sr rfl (fun K hK => ?_)
    refine sv hF (v_move rfl) rfl ?_; clear hF a; intro a hF
    refine sv hF (v_assign rfl) rfl ?_; clear hF a; intro a hF
    refine WL_nil (hK _ _ ?_)
    clear hK K
    replace hF := hF.sub _ (c_ 4 rfl (n_))
    refine W_ret ?_
    refine ⟨_, _, hF, rfl, ?_⟩
    exact ⟨_, (hO.to (hi := 0) (Nat.zero_le _)).cast (List.take_zero ..), hS⟩
  · skip
    try simp only [decide_eq_true_eq, decide_eq_false_iff_not, Bool.not_eq_true', Bool.not_eq_false', Bool.not_true, Bool.not_false] at hc1
    refine W_skip ?_
    refine W_sr rfl (fun K hK => ?_)
    refine sv hF (v_move rfl) rfl ?_; clear hF a; intro a hF
    refine sv hF (v_assign rfl) rfl ?_; clear hF a; intro a hF
    refine WL_nil (hK _ _ ?_)
    clear hK K
    replace hF := hF.sub _ (c_ 4 rfl (n_))
    refine W_ret ?_
    refine ⟨_, _, hF, rfl, ?_⟩
    exact ⟨none, Gam.Own.nil _ _ _ _ _, hS⟩

set_option maxRecDepth 100000 in
set_option maxHeartbeats 1000000 in
theorem Concat_ok (B M : Nat) (pmt : Option Addr) (cmt : Nat) (mt : Mtx) (w : World) (hI : Inv FDx B w) (hA : Mat FDx B M w pmt cmt mt) (hM : M ≤ w.heap.size) (hl : mt.length ≤ 100) (hb : ∀ r ∈ mt, r.length ≤ 1000) : Ret Tryz.prog 53 [.slice pmt mt.length cmt] w fun v w' => ∃ ob, Gam.Own FDx B w.heap.size w' FDx.E v ob (zints (mt.flatten)) ∧ St FDx B w w' := by
  refine enter 36 [(0, .slice pmt mt.length cmt)] 2 Tryz.func53 rfl rfl rfl rfl rfl ?_; intro a hF
  have hS := St.refl hI
  have hfl := flat_le hb
  refine W_sr rfl (fun K hK => ?_)
  refine sv hF (v_assign rfl) rfl ?_; clear hF a; intro a hF
  refine WL_nil (hK _ _ ?_)
  clear hK K
  refine W_sr rfl (fun K hK => ?_)
  refine sv hF (v_assign rfl) rfl ?_; clear hF a; intro a hF
  refine WL_nil (hK _ _ ?_)
  clear hK K
  refine W_seq ?_
  refine W_sr rfl (fun K hK => ?_)
  refine sv hF (v_move rfl) rfl ?_; clear hF a; intro a hF
  refine sv hF (v_lenS rfl sl22 rfl) rfl ?_; clear hF a; intro a hF
  refine sv hF (v_move rfl) rfl ?_; clear hF a; intro a hF
  refine WL_nil (hK _ _ ?_)
  clear hK K
  refine W_block ?_
  refine W_loop (fun m a w1 => ∃ (i : Nat), Fr 36 [(0, .slice pmt mt.length cmt), (3, .int .i64 (((mt.take i).flatten.length : Nat) : Int)), (9, .slice pmt mt.length cmt), (10, .int .i64 (mt.length : Int)), (11, .int .i64 (i : Int))] a ∧ (St FDx B w w1) ∧ (Mat FDx B M w1 pmt cmt mt) ∧ (i ≤ mt.length) ∧ (m + i = mt.length)) (mt.length) ?_ ?_
  · skip
    exact ⟨0, hF.sub _ (c_ 0 rfl (c_ 3 rfl (c_ 9 rfl (c_ 10 rfl (c_ 11 rfl (n_)))))), hS, hA, by omega, by omega⟩
  · skip
    clear hF
    clear hS hA
    rintro m a w1 ⟨i, hF, hS, hA, hi, hm⟩
    refine W_sr rfl (fun K hK => ?_)
    refine sv hF (v_lss rfl rfl) rfl ?_; clear hF a; intro a hF
    refine WL_nil (hK _ _ ?_)
    clear hK K
    refine W_seq ?_
    refine W_if hF rfl (fun hc1 => ?_) (fun hc1 => ?_)
    · skip
      try simp only [decide_eq_true_eq, decide_eq_false_iff_not, Bool.not_eq_true', Bool.not_eq_false', Bool.not_true, Bool.not_false] at hc1
      have hlt : i < mt.length := by omega
      obtain ⟨r, hr⟩ : ∃ z, mt[i]? = some z := ⟨_, List.getElem?_eq_getElem hlt⟩
      obtain ⟨gx, ox, pr, cr, hgx, hkc, hrow, -⟩ := hA.row hr
      have hrl := hb r (List.mem_of_getElem? hr)
      have hf1 := hfl i
      have hf2 := hfl (i + 1)
      have hf3 : ((mt.take (i + 1)).flatten.length : Int) = ((mt.take i).flatten.length : Int) + (r.length : Int) := by rw [flat_snoc hr, List.length_append]; omega
      subst hgx
      refine W_skip ?_
      refine W_seq ?_
      refine W_block ?_
      refine W_sr rfl (fun K hK => ?_)
      refine sv hF (v_ixS sl22 rfl rfl (by omega) (by omega)) rfl ?_; clear hF a; intro a hF
      refine sv hF (v_load sc23 rfl (by rw [toNat_c]; exact hkc.c)) rfl ?_; clear hF a; intro a hF
      refine sv hF (v_assign rfl) rfl ?_; clear hF a; intro a hF
      refine WL_nil (hK _ _ ?_)
      clear hK K
      replace hF := hF.sub _ (c_ 5 rfl (c_ 0 rfl (c_ 3 rfl (c_ 9 rfl (c_ 10 rfl (c_ 11 rfl (n_)))))))
      refine W_sr rfl (fun K hK => ?_)
      refine sv hF (v_move rfl) rfl ?_; clear hF a; intro a hF
      refine sv hF (v_move rfl) rfl ?_; clear hF a; intro a hF
      refine sv hF (v_lenS rfl sl23 rfl) rfl ?_; clear hF a; intro a hF
      refine sv hF ((v_addI rfl rfl (by omega)).as (congrArg _ hf3.symm)) rfl ?_; clear hF a; intro a hF
      refine sv hF (v_assign rfl) rfl ?_; clear hF a; intro a hF
      refine WL_nil (hK _ _ ?_)
      clear hK K
      replace hF := hF.sub _ (c_ 3 rfl (c_ 0 rfl (c_ 9 rfl (c_ 10 rfl (c_ 11 rfl (n_))))))
      refine W_sr rfl (fun K hK => ?_)
      refine sv hF (v_move rfl) rfl ?_; clear hF a; intro a hF
      refine sv hF ((v_lss rfl rfl).as (congrArg Value.bool (decide_eq_false (by omega)))) rfl ?_; clear hF a; intro a hF
      refine WL_nil (hK _ _ ?_)
      clear hK K
      replace hF := hF.sub _ (c_ 20 rfl (c_ 3 rfl (c_ 0 rfl (c_ 9 rfl (c_ 10 rfl (c_ 11 rfl (n_)))))))
      refine W_ifF hF rfl ?_
      refine W_skip ?_
      refine W_reg rfl (fun K hK => ?_)
      refine sv hF (v_addI rfl rfl (by omega)) rfl ?_; clear hF a; intro a hF
      refine sv hF (v_move rfl) rfl ?_; clear hF a; intro a hF
      refine WL_nil (hK _ _ ?_)
      clear hK K
      replace hF := hF.sub _ (c_ 11 rfl (c_ 22 rfl (c_ 3 rfl (c_ 0 rfl (c_ 9 rfl (c_ 10 rfl (n_)))))))
      exact ⟨m - 1, by omega, i + 1, hF.sub _ (c_ 0 rfl (c_ 3 rfl (c_ 9 rfl (c_ 10 rfl (c_ 11 rfl (n_)))))), hS, hA, by omega, by omega⟩
    · skip
      try simp only [decide_eq_true_eq, decide_eq_false_iff_not, Bool.not_eq_true', Bool.not_eq_false', Bool.not_true, Bool.not_false] at hc1
      refine W_exit rfl ?_
      obtain rfl : i = mt.length := by omega
      have hf1 := hfl mt.length
      rw [List.take_length] at hF hf1
      refine W_sr rfl (fun K hK => ?_)
      refine sv hF (v_move rfl) rfl ?_; clear hF a; intro a hF
      refine sc hF rfl rfl rfl en79 rfl (Grow_nil B mt.flatten.length _ hS.inv (by omega)) ?_; clear hF a; intro v w' a hv hF
      obtain ⟨ob, hO, hS'⟩ := hv
      replace hO := hO.le hS.ext.size
      replace hA := hA.st hS'
      replace hS := hS.trans hS'
      clear hS'
      refine sv hF (v_assign rfl) rfl ?_; clear hF a; intro a hF
      refine WL_nil (hK _ _ ?_)
      clear hK K
      replace hF := hF.sub _ (c_ 6 rfl (c_ 24 rfl (c_ 23 rfl (c_ 0 rfl (c_ 3 rfl (c_ 9 rfl (c_ 10 rfl (c_ 11 rfl (n_)))))))))
      refine W_seq ?_
      refine W_sr rfl (fun K hK => ?_)
      refine sv hF (v_move rfl) rfl ?_; clear hF a; intro a hF
      refine sv hF (v_lenS rfl sl22 rfl) rfl ?_; clear hF a; intro a hF
      refine sv hF (v_move rfl) rfl ?_; clear hF a; intro a hF
      refine WL_nil (hK _ _ ?_)
      clear hK K
      refine W_block ?_
      refine W_loop (fun m2 a w2 => ∃ (i : Nat) (v6 : Value) (b6 : Option Nat), Fr 36 [(6, v6), (25, .slice pmt mt.length cmt), (26, .int .i64 (mt.length : Int)), (27, .int .i64 (i : Int))] a ∧ (St FDx B w w2) ∧ (Mat FDx B M w2 pmt cmt mt) ∧ (Gam.Own FDx B w.heap.size w2 FDx.E v6 b6 (zints (mt.take i).flatten)) ∧ (i ≤ mt.length) ∧ (m2 + i = mt.length)) (mt.length) ?_ ?_
      · skip
        exact ⟨0, _, _, hF.sub _ (c_ 6 rfl (c_ 25 rfl (c_ 26 rfl (c_ 27 rfl (n_))))), hS, hA, hO.cast rfl, by omega, by omega⟩
      · skip
        clear hF
        clear hS hA hO
        rintro m2 a w2 ⟨i, v6, b6, hF, hS, hA, hO, hi, hm2⟩
        refine W_sr rfl (fun K hK => ?_)
        refine sv hF (v_lss rfl rfl) rfl ?_; clear hF a; intro a hF
        refine WL_nil (hK _ _ ?_)
        clear hK K
        refine W_seq ?_
        refine W_if hF rfl (fun hc2 => ?_) (fun hc2 => ?_)
        · skip
          try simp only [decide_eq_true_eq, decide_eq_false_iff_not, Bool.not_eq_true', Bool.not_eq_false', Bool.not_true, Bool.not_false] at hc2
          have hlt : i < mt.length := by omega
          obtain ⟨r, hr⟩ : ∃ z, mt[i]? = some z := ⟨_, List.getElem?_eq_getElem hlt⟩
          obtain ⟨gx, ox, pr, cr, hgx, hkc, hrow, -⟩ := hA.row hr
          have hrl := hb r (List.mem_of_getElem? hr)
          have hf1 := hfl i
          have hzl := zints_length (mt.take i).flatten
          have hzr := zints_length r
          subst hgx
          refine W_skip ?_
          refine W_seq ?_
          refine W_block ?_
          refine W_sr rfl (fun K hK => ?_)
          refine sv hF (v_ixS sl22 rfl rfl (by omega) (by omega)) rfl ?_; clear hF a; intro a hF
          refine sv hF (v_load sc23 rfl (by rw [toNat_c]; exact hkc.c)) rfl ?_; clear hF a; intro a hF
          refine sv hF (v_assign rfl) rfl ?_; clear hF a; intro a hF
          refine WL_nil (hK _ _ ?_)
          clear hK K
          refine W_reg rfl (fun K hK => ?_)
          refine sv hF (v_move rfl) rfl ?_; clear hF a; intro a hF
          refine sv hF (v_move rfl) rfl ?_; clear hF a; intro a hF
          refine s_app (D := FDx) (B := B) hF rfl sl23 rfl rfl hO (hrow) (by intro u hu; obtain ⟨_, _, rfl⟩ := List.mem_map.1 hu; rfl) (by rw [hzl, hzr]; omega) (by rw [hzl, hzr]; simp only [maxLen]; omega) (hS.ext.size) (by decide) hS.inv rfl ?_; clear hF a; intro v' b' w' a ho' hm hI' hb' hF
          replace hA := hA.mb hm (fun k h => Nat.le_trans (hM) (hO.lt k h).1)
          replace hS := hS.mb hm (fun k h => Nat.le_trans (Nat.le_refl _) (hO.lt k h).1)
          replace hO := ho'
          clear hm hI' ho'
          refine sv hF (v_assign rfl) rfl ?_; clear hF a; intro a hF
          refine WL_nil (hK _ _ ?_)
          clear hK K
          refine W_reg rfl (fun K hK => ?_)
          refine sv hF (v_addI rfl rfl (by omega)) rfl ?_; clear hF a; intro a hF
          refine sv hF (v_move rfl) rfl ?_; clear hF a; intro a hF
          refine WL_nil (hK _ _ ?_)
          clear hK K
          exact ⟨m2 - 1, by omega, i + 1, _, _, hF.sub _ (c_ 6 rfl (c_ 25 rfl (c_ 26 rfl (c_ 27 rfl (n_))))), hS, hA, hO.cast (by rw [flat_snoc hr]; simp [zints]), by omega, by omega⟩
        · skip
          try simp only [decide_eq_true_eq, decide_eq_false_iff_not, Bool.not_eq_true', Bool.not_eq_false', Bool.not_true, Bool.not_false] at hc2
          refine W_exit rfl ?_
          refine W_sr rfl (fun K hK => ?_)
          refine sv hF (v_move rfl) rfl ?_; clear hF a; intro a hF
          refine sv hF (v_assign rfl) rfl ?_; clear hF a; intro a hF
          refine WL_nil (hK _ _ ?_)
          clear hK K
          refine W_ret ?_
          refine ⟨_, _, hF, rfl, ?_⟩
          obtain rfl : i = mt.length := by omega
          rw [List.take_length] at hO
          exact ⟨_, hO, hS⟩

set_option maxRecDepth 100000 in
set_option maxHeartbeats 1000000 in
theorem beside_ok (B M n m k : Nat) (pa pb : Option Addr) (ca cb : Nat) (f g : Tb) (w : World) (hI : Inv FDx B w) (hM : M ≤ w.heap.size) (hA : Mat FDx B M w pa ca (tab n m f)) (hB : Mat FDx B M w pb cb (tab n k g)) (hn : 1 ≤ n ∧ n ≤ 20) (hm : 1 ≤ m ∧ m ≤ 20) (hk : k ≤ 20) : Ret Tryz.prog 27 [.slice pa n ca, .slice pb n cb] w fun v w' => ∃ gv cap bs rc, v = .slice (some ⟨gv, 0, none⟩) n cap ∧ Gam.Own FDx B w.heap.size w' 23 v (some gv) (vls n (m + k) bs rc) ∧ Wr FDx B w.heap.size w'.heap.size w' n (m + k) bs rc (Fld.bes m f g) ∧ St FDx B w w' := by
  refine enter 27 [(0, .slice pa n ca), (1, .slice pb n cb)] 4 Tryz.func27 rfl rfl rfl rfl rfl ?_; intro a hF
  have hS := St.refl hI
  have htn := tab_length n m f
  have htl := tab_length n k g
  refine W_sr rfl (fun K hK => ?_)
  refine sv hF (v_assign rfl) rfl ?_; clear hF a; intro a hF
  refine WL_nil (hK _ _ ?_)
  clear hK K
  refine W_sr rfl (fun K hK => ?_)
  refine sv hF (v_assign rfl) rfl ?_; clear hF a; intro a hF
  refine WL_nil (hK _ _ ?_)
  clear hK K
  refine W_seq ?_
  refine W_sr rfl (fun K hK => ?_)
  refine sv hF (v_move rfl) rfl ?_; clear hF a; intro a hF
  refine sv hF (v_lenS rfl sl30 rfl) rfl ?_; clear hF a; intro a hF
  refine sv hF (v_move rfl) rfl ?_; clear hF a; intro a hF
  refine WL_nil (hK _ _ ?_)
  clear hK K
  replace hF := hF.sub _ (c_ 10 rfl (c_ 9 rfl (c_ 8 rfl (c_ 5 rfl (c_ 4 rfl (c_ 1 rfl (n_)))))))
  refine W_block ?_
  refine W_loop (fun q a w1 => ∃ (i : Nat) (v5 : Value) (b5 : Option Nat) (bs rc : Nat → Nat), Fr 27 [(1, .slice pb n cb), (5, v5), (8, .slice pa n ca), (9, .int .i64 (n : Int)), (10, .int .i64 (i : Int))] a ∧ (St FDx B w w1) ∧ (Mat FDx B M w1 pa ca (tab n m f)) ∧ (Mat FDx B M w1 pb cb (tab n k g)) ∧ (Gam.Own FDx B w.heap.size w1 23 v5 b5 (vls i (m + k) bs rc)) ∧ (Wr FDx B w.heap.size w1.heap.size w1 i (m + k) bs rc (Fld.bes m f g)) ∧ (i ≤ n) ∧ (q + i = n)) (n) ?_ ?_
  · skip
    exact ⟨0, _, none, id, id, hF.sub _ (c_ 1 rfl (c_ 5 rfl (c_ 8 rfl (c_ 9 rfl (c_ 10 rfl (n_)))))), hS, hA, hB, Gam.Own.nil _ _ _ _ _, Wr.nil, by omega, by omega⟩
  · skip
    clear hF
    clear hS hA hB
    rintro q a w1 ⟨i, v5, b5, bs, rc, hF, hS, hA, hB, hO, hW, hi, hq⟩
    obtain ⟨K, hKe⟩ : ∃ K, K = w1.heap.size := ⟨_, rfl⟩
    rw [← hKe] at hW
    have hKs : K ≤ w1.heap.size := by omega
    have hNK : w.heap.size ≤ K := by have := hS.ext.size; omega
    clear hKe
    refine W_sr rfl (fun K hK => ?_)
    refine sv hF (v_lss rfl rfl) rfl ?_; clear hF a; intro a hF
    refine WL_nil (hK _ _ ?_)
    clear hK K
    refine W_seq ?_
    refine W_if hF rfl (fun hc1 => ?_) (fun hc1 => ?_)
    · skip
      try simp only [decide_eq_true_eq, decide_eq_false_iff_not, Bool.not_eq_true', Bool.not_eq_false', Bool.not_true, Bool.not_false] at hc1
      have hlt : i < n := by omega
      obtain ⟨ga, oa, pa, ca, hga, hka, hra, -⟩ := hA.row (tab_at (f := f) (m := m) hlt)
      subst hga
      obtain ⟨gb, ob, pb, cb, hgb, hkb, hrb, -⟩ := hB.row (tab_at (f := g) (m := k) hlt)
      subst hgb
      have hla : ((List.range m).map fun j => (f i j : Int)).length = m := by simp
      have hlb : ((List.range k).map fun j => (g i j : Int)).length = k := by simp
      have hvl := vls_length i (m + k) bs rc
      refine W_skip ?_
      refine W_seq ?_
      refine W_block ?_
      refine W_sr rfl (fun K hK => ?_)
      refine sv hF (v_move rfl) rfl ?_; clear hF a; intro a hF
      refine sv hF (v_ixS sl30 rfl rfl (by omega) (by omega)) rfl ?_; clear hF a; intro a hF
      refine sv hF (v_load sc23 rfl (by rw [toNat_c]; exact hka.c)) rfl ?_; clear hF a; intro a hF
      refine sv hF (v_assign rfl) rfl ?_; clear hF a; intro a hF
      refine sv hF (v_assign rfl) rfl ?_; clear hF a; intro a hF
      refine WL_nil (hK _ _ ?_)
      clear hK K
      replace hF := hF.sub _ (c_ 7 rfl (c_ 6 rfl (c_ 1 rfl (c_ 5 rfl (c_ 8 rfl (c_ 9 rfl (c_ 10 rfl (n_))))))))
      refine W_reg rfl (fun K hK => ?_)
      refine sv hF (v_move rfl) rfl ?_; clear hF a; intro a hF
      refine sv hF (v_move rfl) rfl ?_; clear hF a; intro a hF
      refine sv hF (v_move rfl) rfl ?_; clear hF a; intro a hF
      refine sv hF (v_move rfl) rfl ?_; clear hF a; intro a hF
      refine sv hF (v_ixS sl30 rfl rfl (by omega) (by omega)) rfl ?_; clear hF a; intro a hF
      refine sv hF (v_load sc23 rfl (by rw [toNat_c]; exact hkb.c)) rfl ?_; clear hF a; intro a hF
      refine s_bs (D := FDx) (B := B) hF sl22 rfl rfl (by decide) (by simp [Value.cells]) (by decide) hS.inv rfl ?_; clear hF a; intro w' a hm hI' hL2 hF
      replace hA := hA.mb hm (fun _ h => by cases h)
      replace hB := hB.mb hm (fun _ h => by cases h)
      replace hO := hO.mb hm (fun _ _ => by simp)
      replace hW := hW.mb0 hm
      replace hKs := Nat.le_trans hKs hm.size
      replace hra := hra.mb hm (fun _ h => by cases h)
      replace hrb := hrb.mb hm (fun _ h => by cases h)
      replace hS := hS.mb0 hm
      clear hm hI'
      refine sc hF rfl rfl rfl en53 rfl (Concat_ok B _ _ _ [trow m f i, trow k g i] _ hS.inv (Mat.two hL2 (by decide) (hra.mono (Nat.le_trans hM hS.ext.size)) (hrb.mono (Nat.le_trans hM hS.ext.size))) (Nat.le_refl _) (by simp) (by intro r hr; simp at hr; rcases hr with rfl | rfl <;> simp <;> omega)) ?_; clear hF a; intro v w' a hv hF
      obtain ⟨ob, hC, hS'⟩ := hv
      replace hC := (hC.le hKs).cast (congrArg zints (bes_row m k f g i))
      obtain ⟨gx, cx, rfl, rfl⟩ := hC.ptr (by simp; omega)
      rw [zints_length, trow_length] at hC hF
      clear hL2
      replace hA := hA.st hS'
      replace hB := hB.st hS'
      replace hO := hO.st (by decide) hS'
      replace hW := hW.st hS'
      replace hKs := Nat.le_trans hKs hS'.ext.size
      replace hra := hra.st hS'
      replace hrb := hrb.st hS'
      replace hS := hS.trans hS'
      clear hS'
      refine s_bs (D := FDx) (B := B) hF sl30 rfl rfl (by decide) (by simp [Value.cells]) (by decide) hS.inv rfl ?_; clear hF a; intro w' a hm hI' hL hF
      replace hA := hA.mb hm (fun _ h => by cases h)
      replace hB := hB.mb hm (fun _ h => by cases h)
      replace hO := hO.mb hm (fun _ _ => by simp)
      replace hW := hW.mb0 hm
      replace hKs := Nat.le_trans hKs hm.size
      replace hC := hC.mb hm (fun _ _ => by simp)
      replace hS := hS.mb0 hm
      clear hm hI'
      refine s_app (D := FDx) (B := B) hF rfl sl30 rfl rfl hO (hL.row (by decide)) (by simp [Value.oneCell']) (by simp; omega) (by simp [maxLen]; omega) (hS.ext.size) (by decide) hS.inv rfl ?_; clear hF a; intro v' b' w' a ho' hm hI' hb' hF
      replace hA := hA.mb hm (fun k h => Nat.le_trans (hM) (hO.lt k h).1)
      replace hB := hB.mb hm (fun k h => Nat.le_trans (hM) (hO.lt k h).1)
      replace hW := hW.mbo hm hO (by decide)
      replace hKs := Nat.le_trans hKs hm.size
      replace hC := hC.mb hm (hC.ne_type hO (by decide))
      replace hS := hS.mb hm (fun k h => Nat.le_trans (Nat.le_refl _) (hO.lt k h).1)
      replace hO := ho'
      clear hm hI' ho'
      refine sv hF (v_assign rfl) rfl ?_; clear hF a; intro a hF
      refine WL_nil (hK _ _ ?_)
      clear hK K
      replace hF := hF.sub _ (c_ 5 rfl (c_ 1 rfl (c_ 8 rfl (c_ 9 rfl (c_ 10 rfl (n_))))))
      refine W_reg rfl (fun K hK => ?_)
      refine sv hF (v_addI rfl rfl (by omega)) rfl ?_; clear hF a; intro a hF
      refine sv hF (v_move rfl) rfl ?_; clear hF a; intro a hF
      refine WL_nil (hK _ _ ?_)
      clear hK K
      exact ⟨q - 1, by omega, i + 1, _, _, _, _, hF.sub _ (c_ 1 rfl (c_ 5 rfl (c_ 8 rfl (c_ 9 rfl (c_ 10 rfl (n_)))))), hS, hA, hB, hO.cast vls_snoc.symm, hW.snoc (hC.le hNK) ((hC.lt _ rfl).1), by omega, by omega⟩
    · skip
      try simp only [decide_eq_true_eq, decide_eq_false_iff_not, Bool.not_eq_true', Bool.not_eq_false', Bool.not_true, Bool.not_false] at hc1
      refine W_exit rfl ?_
      refine W_sr rfl (fun K hK => ?_)
      refine sv hF (v_move rfl) rfl ?_; clear hF a; intro a hF
      refine sv hF (v_assign rfl) rfl ?_; clear hF a; intro a hF
      refine WL_nil (hK _ _ ?_)
      clear hK K
      replace hF := hF.sub _ (c_ 4 rfl (c_ 26 rfl (c_ 1 rfl (c_ 5 rfl (c_ 8 rfl (c_ 9 rfl (c_ 10 rfl (n_))))))))
      refine W_ret ?_
      refine ⟨_, _, hF, rfl, ?_⟩
      obtain rfl : i = n := by omega
      obtain ⟨gv, cap, rfl, rfl⟩ := hO.ptr (by simp; omega)
      exact ⟨gv, cap, bs, rc, by rw [vls_length], hO, hW.up hKs, hS⟩

end Go.Proofs.YtcnlooajjnghaaaGreat
