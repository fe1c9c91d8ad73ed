/- The walk of gambrelref06.Chosen. -/
import Derived.Test.YtaeljbdpjiciaaaFMatA
import Derived.Test.YtaeljbdpjiciaaaGVan
set_option linter.unusedVariables false
set_option linter.unusedSimpArgs false
namespace Go.Proofs.Ytaeljbdpjiciaaa
open Go Go.Gam


namespace FxFCho
theorem on4 : Gam.One Try.prog 4 := by unfold Gam.One; kernel_rfl
theorem sc4 : Scalar Try.prog 4 := ⟨_, Try.underlying4, by simp, by simp⟩
theorem sl108 : Sl Try.prog 108 4 (.bool false) 1 := sl_of Try.underlying108 rfl (by kernel_rfl)
theorem sl37 : Sl Try.prog 37 3 (.int .i64 0) 8 := sl_of Try.underlying37 rfl (by kernel_rfl)
end FxFCho
open FxFCho

set_option maxRecDepth 100000 in
set_option maxHeartbeats 1000000 in
theorem Chosen_ok (B rows many fr step : Nat) (w : World) (hI : Inv FDx B w) (hr : 1 ≤ rows ∧ rows ≤ 20) (hm : many + 1 ≤ rows) (hfs : fr ≤ 1000 ∧ step ≤ 1000) : Ret Try.prog 30 [.int .i64 (rows : Int), .int .i64 (many : Int), .int .i64 (fr : Int), .int .i64 (step : Int)] w fun v w' => ∃ ob u, ∃ l : List Nat, v = .tuple #[u, .bool true] ∧ Gam.Own FDx B w.heap.size w' FDx.E u ob (zints (l.map fun (x : Nat) => (x : Int))) ∧ l.length = many ∧ l.Nodup ∧ (∀ x ∈ l, x < rows) ∧ St FDx B w w' := by
  refine enter2 60 [(0, .int .i64 (rows : Int)), (1, .int .i64 (many : Int)), (2, .int .i64 (fr : Int)), (3, .int .i64 (step : Int))] 8 9 Try.func30 rfl rfl rfl rfl rfl ?_; intro a hF
  have hS := St.refl hI
  have hft : fr % rows < rows := Nat.mod_lt _ (by omega)
  have hat := chS_at (step := step % rows) (show 0 < rows by omega) hft
  have hck := chS_ok (step := step % rows) (show 0 < rows by omega) hft
  have hmn := chS_many (step := step) hr.2 hft
  refine W_sr rfl (fun K hK => ?_)
  refine sv hF (v_assign rfl) rfl ?_; clear hF a; intro a hF
  refine sv hF (v_assign rfl) rfl ?_; clear hF a; intro a hF
  refine WL_nil (hK _ _ ?_)
  clear hK K
  refine W_sr rfl (fun K hK => ?_)
  refine sv hF (v_assign rfl) rfl ?_; clear hF a; intro a hF
  refine WL_nil (hK _ _ ?_)
  clear hK K
  refine W_sr rfl (fun K hK => ?_)
  obtain ⟨gb, hgb⟩ : ∃ g, g = w.heap.size := ⟨_, rfl⟩
  refine s_mk (D := FDx) (B := B) (m := 20) hF sl108 rfl rfl (by simp) (by omega) (by simp only [maxLen]; omega) (by decide) hS.inv rfl ?_; clear hF a; intro w' a hm hI' hB hF
  replace hS := hS.mb0 hm
  clear hm hI'
  rw [← hgb] at hB hF
  replace hB := (hB.le (show w.heap.size ≤ gb by omega)).cast bls_zero
  refine sv hF (v_assign rfl) rfl ?_; clear hF a; intro a hF
  refine WL_nil (hK _ _ ?_)
  clear hK K
  replace hF := hF.sub _ (c_ 11 rfl (c_ 10 rfl (c_ 9 rfl (c_ 8 rfl (c_ 0 rfl (c_ 1 rfl (c_ 2 rfl (c_ 3 rfl (n_)))))))))
  refine W_sr rfl (fun K hK => ?_)
  refine sv hF (v_move rfl) rfl ?_; clear hF a; intro a hF
  refine sv hF (v_move rfl) rfl ?_; clear hF a; intro a hF
  refine sv hF ((v_remI rfl rfl (by omega) (by omega)).as (show Value.int .i64 ((fr : Int) % (rows : Int)) = .int .i64 ((fr % rows : Nat) : Int) by simp)) rfl ?_; clear hF a; intro a hF
  refine sv hF (v_assign rfl) rfl ?_; clear hF a; intro a hF
  refine WL_nil (hK _ _ ?_)
  clear hK K
  replace hF := hF.sub _ (c_ 12 rfl (c_ 11 rfl (c_ 10 rfl (c_ 9 rfl (c_ 8 rfl (c_ 0 rfl (c_ 1 rfl (c_ 3 rfl (n_)))))))))
  refine W_seq ?_
  refine W_sr rfl (fun K hK => ?_)
  refine sv hF (v_assign rfl) rfl ?_; clear hF a; intro a hF
  refine WL_nil (hK _ _ ?_)
  clear hK K
  refine W_block ?_
  refine W_loop (fun q a w1 => ∃ (i : Nat) (v10 : Value) (b10 : Option Nat), Fr 60 [(0, .int .i64 (rows : Int)), (1, .int .i64 (many : Int)), (3, .int .i64 (step : Int)), (10, v10), (11, .slice (some ⟨gb, 0, none⟩) 20 20), (12, .int .i64 ((chS rows (step % rows) (fr % rows) i).2.2 : Int)), (13, .int .i64 (i : Int))] a ∧ (St FDx B w w1) ∧ (Gam.Own FDx B w.heap.size w1 4 (.slice (some ⟨gb, 0, none⟩) 20 20) (some gb) (bls (chS rows (step % rows) (fr % rows) i).2.1)) ∧ (Gam.Own FDx B w.heap.size w1 FDx.E v10 b10 (zints ((chS rows (step % rows) (fr % rows) i).1.map fun (x : Nat) => (x : Int)))) ∧ ((chS rows (step % rows) (fr % rows) i).1.length ≤ many) ∧ (i ≤ 2 * rows) ∧ (q + i = 2 * rows)) (2 * rows) ?_ ?_
  · skip
    exact ⟨0, _, none, hF.sub _ (c_ 0 rfl (c_ 1 rfl (c_ 3 rfl (c_ 10 rfl (c_ 11 rfl (c_ 12 rfl (c_ 13 rfl (n_)))))))), hS, hB, Gam.Own.nil _ _ _ _ _, Nat.zero_le _, by omega, by omega⟩
  · skip
    clear hF
    clear hS hB
    rintro q a w1 ⟨i, v10, b10, hF, hS, hB, hO, hl, hi, hq⟩
    refine W_seq ?_
    have hti := hat i
    have hzl : (zints ((chS rows (step % rows) (fr % rows) i).1.map fun (x : Nat) => (x : Int))).length = (chS rows (step % rows) (fr % rows) i).1.length := by rw [zints_length, List.length_map]
    obtain ⟨a10, c10, rfl⟩ := hO.shape
    rw [hzl] at hF hO
    refine W_sr rfl (fun K hK => ?_)
    refine sv hF (v_move rfl) rfl ?_; clear hF a; intro a hF
    refine sv hF (v_move rfl) rfl ?_; clear hF a; intro a hF
    refine sv hF (v_mulI rfl rfl (by omega)) rfl ?_; clear hF a; intro a hF
    refine sb hF (v_lss rfl rfl) rfl ?_ ?_
    · clear hF a; intro hc1 a hF
      try simp only [decide_eq_true_eq, decide_eq_false_iff_not, Bool.not_eq_true', Bool.not_eq_false', Bool.not_true, Bool.not_false] at hc1
      refine sv hF (v_move rfl) rfl ?_; clear hF a; intro a hF
      refine svg hF rfl ?_
      refine sv hF (v_move rfl) rfl ?_; clear hF a; intro a hF
      refine svg hF rfl ?_
      refine sv hF (v_lenS rfl sl37 rfl) rfl ?_; clear hF a; intro a hF
      refine svg hF rfl ?_
      refine sv hF (v_move rfl) rfl ?_; clear hF a; intro a hF
      refine svg hF rfl ?_
      refine sv hF (v_lss rfl rfl) rfl ?_; clear hF a; intro a hF
      refine sv hF (v_pickT rfl rfl) rfl ?_; clear hF a; intro a hF
      refine WL_nil (hK _ _ ?_)
      clear hK K
      replace hF := hF.sub _ (c_ 27 rfl (c_ 0 rfl (c_ 1 rfl (c_ 3 rfl (c_ 10 rfl (c_ 11 rfl (c_ 12 rfl (c_ 13 rfl (n_)))))))))
      refine W_if hF rfl (fun hc2 => ?_) (fun hc2 => ?_)
      · skip
        try simp only [decide_eq_true_eq, decide_eq_false_iff_not, Bool.not_eq_true', Bool.not_eq_false', Bool.not_true, Bool.not_false] at hc2
        have hbk := (hB.kc (by decide) (bls_at (b := (chS rows (step % rows) (fr % rows) i).2.1) (show (chS rows (step % rows) (fr % rows) i).2.2 < 20 by omega)))
        obtain ⟨⟨l, b, t⟩, hs⟩ : ∃ s, s = (chS rows (step % rows) (fr % rows) i) := ⟨_, rfl⟩
        rw [← hs] at hF hB hO hl hti hbk hzl hc2
        dsimp only at hF hB hO hl hti hbk hzl hc2
        have hmo : (t + step % rows) % rows = (t + step) % rows := by rw [Nat.add_mod, Nat.mod_mod, ← Nat.add_mod]
        refine W_skip ?_
        refine W_seq ?_
        refine W_block ?_
        refine W_seq ?_
        refine W_sr rfl (fun K hK => ?_)
        refine sv hF (v_move rfl) rfl ?_; clear hF a; intro a hF
        refine sv hF (v_move rfl) rfl ?_; clear hF a; intro a hF
        refine sv hF (v_ixS sl108 rfl rfl (by omega) (by omega)) rfl ?_; clear hF a; intro a hF
        refine sv hF (v_load sc4 rfl (by rw [toNat_c]; exact hbk.c)) rfl ?_; clear hF a; intro a hF
        refine sv hF (v_not rfl) rfl ?_; clear hF a; intro a hF
        refine WL_nil (hK _ _ ?_)
        clear hK K
        replace hF := hF.sub _ (c_ 34 rfl (c_ 0 rfl (c_ 1 rfl (c_ 3 rfl (c_ 10 rfl (c_ 11 rfl (c_ 12 rfl (c_ 13 rfl (n_)))))))))
        refine W_if hF rfl (fun hc3 => ?_) (fun hc3 => ?_)
        · skip
          try simp only [decide_eq_true_eq, decide_eq_false_iff_not, Bool.not_eq_true', Bool.not_eq_false', Bool.not_true, Bool.not_false] at hc3
          have hbt : b.testBit t = false := by simpa using hc3
          have hlm : l.length < many := by omega
          refine W_sr rfl (fun K hK => ?_)
          refine sv hF (v_move rfl) rfl ?_; clear hF a; intro a hF
          refine sv hF (v_move rfl) rfl ?_; clear hF a; intro a hF
          refine s_bs (D := FDx) (B := B) hF sl37 rfl rfl (by decide) (by simp [Value.cells]) (by decide) hS.inv rfl ?_; clear hF a; intro w' a hm hI' hL hF
          replace hB := hB.mb hm (fun _ _ => by simp)
          replace hO := hO.mb hm (fun _ _ => by simp)
          replace hS := hS.mb0 hm
          clear hm hI'
          refine s_app (D := FDx) (B := B) hF rfl sl37 rfl rfl hO (hL.row (by decide)) (by simp [Value.oneCell']) (by rw [hzl]; simp; omega) (by rw [hzl]; simp [maxLen]; omega) (hS.ext.size) (by decide) hS.inv rfl ?_; clear hF a; intro v' b' w' a ho' hm hI' hb' hF
          replace hB := hB.mb hm (hB.ne_type hO (by decide))
          replace hS := hS.mb hm (fun k h => Nat.le_trans (Nat.le_refl _) (hO.lt k h).1)
          replace hO := ho'
          clear hm hI' ho'
          replace hO : Gam.Own FDx B w.heap.size _ _ _ _ (zints ((l ++ [t]).map fun (x : Nat) => (x : Int))) := hO.cast (by simp [zints])
          clear hb'
          refine sv hF (v_assign rfl) rfl ?_; clear hF a; intro a hF
          refine WL_nil (hK _ _ ?_)
          clear hK K
          replace hF := hF.sub _ (c_ 10 rfl (c_ 0 rfl (c_ 1 rfl (c_ 3 rfl (c_ 11 rfl (c_ 12 rfl (c_ 13 rfl (n_))))))))
          refine W_reg rfl (fun K hK => ?_)
          refine sv hF (v_move rfl) rfl ?_; clear hF a; intro a hF
          refine sv hF (v_move rfl) rfl ?_; clear hF a; intro a hF
          refine sv hF (v_ixS sl108 rfl rfl (by omega) (by omega)) rfl ?_; clear hF a; intro a hF
          refine s_set (D := FDx) (B := B) hF on4 rfl (by rw [toNat_c, bls_length]; omega) rfl rfl hB (by decide) hS.inv ?_; intro w' hm hI' ho'
          replace hO := hO.mb hm (hO.ne_type hB (by decide))
          replace hS := hS.mb hm (fun k h => Nat.le_trans (Nat.le_refl _) (hB.lt k h).1)
          replace hB := ho'
          clear hm hI' ho'
          rw [toNat_c, Nat.zero_add, bls_set (by omega)] at hB
          refine WL_nil (hK _ _ ?_)
          clear hK K
          replace hF := hF.sub _ (c_ 10 rfl (c_ 0 rfl (c_ 1 rfl (c_ 3 rfl (c_ 11 rfl (c_ 12 rfl (c_ 13 rfl (n_))))))))
          refine W_sr rfl (fun K hK => ?_)
          refine sv hF (v_move rfl) rfl ?_; clear hF a; intro a hF
          refine sv hF (v_move rfl) rfl ?_; clear hF a; intro a hF
          refine sv hF (v_addI rfl rfl (by omega)) rfl ?_; clear hF a; intro a hF
          refine sv hF (v_move rfl) rfl ?_; clear hF a; intro a hF
          refine sv hF ((v_remI rfl rfl (by omega) (by omega)).as (show Value.int .i64 (((t : Int) + (step : Int)) % (rows : Int)) = .int .i64 (((t + step) % rows : Nat) : Int) by simp)) rfl ?_; clear hF a; intro a hF
          refine sv hF (v_assign rfl) rfl ?_; clear hF a; intro a hF
          refine WL_nil (hK _ _ ?_)
          clear hK K
          replace hF := hF.sub _ (c_ 12 rfl (c_ 10 rfl (c_ 0 rfl (c_ 1 rfl (c_ 3 rfl (c_ 11 rfl (c_ 13 rfl (n_))))))))
          have hta : (t + step) % rows < rows := Nat.mod_lt _ (by omega)
          have hbk2 := hB.kc (by decide) (bls_at (show (t + step) % rows < 20 by omega))
          refine W_sr rfl (fun K hK => ?_)
          refine sv hF (v_move rfl) rfl ?_; clear hF a; intro a hF
          refine sv hF (v_move rfl) rfl ?_; clear hF a; intro a hF
          refine sv hF (v_ixS sl108 rfl rfl (by omega) (by omega)) rfl ?_; clear hF a; intro a hF
          refine sv hF (v_load sc4 rfl (by rw [toNat_c]; exact hbk2.c)) rfl ?_; clear hF a; intro a hF
          refine WL_nil (hK _ _ ?_)
          clear hK K
          replace hF := hF.sub _ (c_ 50 rfl (c_ 12 rfl (c_ 10 rfl (c_ 0 rfl (c_ 1 rfl (c_ 3 rfl (c_ 11 rfl (c_ 13 rfl (n_)))))))))
          refine W_if hF rfl (fun hc4 => ?_) (fun hc4 => ?_)
          · skip
            try simp only [decide_eq_true_eq, decide_eq_false_iff_not, Bool.not_eq_true', Bool.not_eq_false', Bool.not_true, Bool.not_false] at hc4
            have hb2 : (b ||| 1 <<< t).testBit ((t + step) % rows) = true := by assumption
            have hst : chS rows (step % rows) (fr % rows) (i + 1) = (l ++ [t], (b ||| 1 <<< t), ((t + step) % rows + 1) % rows) := by
              rw [chS, ← hs]
              unfold stC
              dsimp only
              rw [hmo, hbt]
              simp only [Bool.false_eq_true, if_false, if_true]
              rw [hb2]
              rfl
            replace hl : (l ++ [t]).length ≤ many := by rw [List.length_append]; simp; omega
            clear hbk hbk2
            refine W_reg rfl (fun K hK => ?_)
            refine sv hF (v_move rfl) rfl ?_; clear hF a; intro a hF
            refine sv hF (v_addI rfl rfl (by omega)) rfl ?_; clear hF a; intro a hF
            refine sv hF (v_move rfl) rfl ?_; clear hF a; intro a hF
            refine sv hF ((v_remI rfl rfl (by omega) (by omega)).as (show Value.int .i64 (((((t + step) % rows : Nat) : Int) + 1) % (rows : Int)) = .int .i64 ((((t + step) % rows + 1) % rows : Nat) : Int) by simp)) rfl ?_; clear hF a; intro a hF
            refine sv hF (v_assign rfl) rfl ?_; clear hF a; intro a hF
            refine WL_nil (hK _ _ ?_)
            clear hK K
            replace hF := hF.sub _ (c_ 12 rfl (c_ 10 rfl (c_ 0 rfl (c_ 1 rfl (c_ 3 rfl (c_ 11 rfl (c_ 13 rfl (n_))))))))
            refine W_reg rfl (fun K hK => ?_)
            refine sv hF (v_move rfl) rfl ?_; clear hF a; intro a hF
            refine sv hF (v_addI rfl rfl (by omega)) rfl ?_; clear hF a; intro a hF
            refine sv hF (v_assign rfl) rfl ?_; clear hF a; intro a hF
            refine WL_nil (hK _ _ ?_)
            clear hK K
            exact ⟨q - 1, by omega, i + 1, _, _, hF.sub _ (c_ 0 rfl (c_ 1 rfl (c_ 3 rfl (c_ 10 rfl (c_ 11 rfl (c_ 12 (by rw [hst]; rfl) (c_ 13 rfl n_))))))), hS, by rw [hst]; exact hB, by rw [hst]; exact hO, by rw [hst]; exact hl, by omega, by omega⟩
          · skip
            try simp only [decide_eq_true_eq, decide_eq_false_iff_not, Bool.not_eq_true', Bool.not_eq_false', Bool.not_true, Bool.not_false] at hc4
            have hb2 : (b ||| 1 <<< t).testBit ((t + step) % rows) = false := by assumption
            have hst : chS rows (step % rows) (fr % rows) (i + 1) = (l ++ [t], (b ||| 1 <<< t), (t + step) % rows) := by
              rw [chS, ← hs]
              unfold stC
              dsimp only
              rw [hmo, hbt]
              simp only [Bool.false_eq_true, if_false, if_true]
              rw [hb2]
              rfl
            replace hl : (l ++ [t]).length ≤ many := by rw [List.length_append]; simp; omega
            clear hbk hbk2
            refine W_skip ?_
            refine W_reg rfl (fun K hK => ?_)
            refine sv hF (v_move rfl) rfl ?_; clear hF a; intro a hF
            refine sv hF (v_addI rfl rfl (by omega)) rfl ?_; clear hF a; intro a hF
            refine sv hF (v_assign rfl) rfl ?_; clear hF a; intro a hF
            refine WL_nil (hK _ _ ?_)
            clear hK K
            replace hF := hF.sub _ (c_ 13 rfl (c_ 29 rfl (c_ 28 rfl (c_ 12 rfl (c_ 10 rfl (c_ 0 rfl (c_ 1 rfl (c_ 3 rfl (c_ 11 rfl (n_))))))))))
            exact ⟨q - 1, by omega, i + 1, _, _, hF.sub _ (c_ 0 rfl (c_ 1 rfl (c_ 3 rfl (c_ 10 rfl (c_ 11 rfl (c_ 12 (by rw [hst]; rfl) (c_ 13 rfl n_))))))), hS, by rw [hst]; exact hB, by rw [hst]; exact hO, by rw [hst]; exact hl, by omega, by omega⟩
        · skip
          try simp only [decide_eq_true_eq, decide_eq_false_iff_not, Bool.not_eq_true', Bool.not_eq_false', Bool.not_true, Bool.not_false] at hc3
          have hbt : b.testBit t = true := by simpa using hc3
          refine W_skip ?_
          refine W_sr rfl (fun K hK => ?_)
          refine sv hF (v_move rfl) rfl ?_; clear hF a; intro a hF
          refine sv hF (v_move rfl) rfl ?_; clear hF a; intro a hF
          refine sv hF (v_addI rfl rfl (by omega)) rfl ?_; clear hF a; intro a hF
          refine sv hF (v_move rfl) rfl ?_; clear hF a; intro a hF
          refine sv hF ((v_remI rfl rfl (by omega) (by omega)).as (show Value.int .i64 (((t : Int) + (step : Int)) % (rows : Int)) = .int .i64 (((t + step) % rows : Nat) : Int) by simp)) rfl ?_; clear hF a; intro a hF
          refine sv hF (v_assign rfl) rfl ?_; clear hF a; intro a hF
          refine WL_nil (hK _ _ ?_)
          clear hK K
          replace hF := hF.sub _ (c_ 12 rfl (c_ 0 rfl (c_ 1 rfl (c_ 3 rfl (c_ 10 rfl (c_ 11 rfl (c_ 13 rfl (n_))))))))
          have hta : (t + step) % rows < rows := Nat.mod_lt _ (by omega)
          have hbk2 := hB.kc (by decide) (bls_at (show (t + step) % rows < 20 by omega))
          refine W_sr rfl (fun K hK => ?_)
          refine sv hF (v_move rfl) rfl ?_; clear hF a; intro a hF
          refine sv hF (v_move rfl) rfl ?_; clear hF a; intro a hF
          refine sv hF (v_ixS sl108 rfl rfl (by omega) (by omega)) rfl ?_; clear hF a; intro a hF
          refine sv hF (v_load sc4 rfl (by rw [toNat_c]; exact hbk2.c)) rfl ?_; clear hF a; intro a hF
          refine WL_nil (hK _ _ ?_)
          clear hK K
          replace hF := hF.sub _ (c_ 50 rfl (c_ 12 rfl (c_ 0 rfl (c_ 1 rfl (c_ 3 rfl (c_ 10 rfl (c_ 11 rfl (c_ 13 rfl (n_)))))))))
          refine W_if hF rfl (fun hc5 => ?_) (fun hc5 => ?_)
          · skip
            try simp only [decide_eq_true_eq, decide_eq_false_iff_not, Bool.not_eq_true', Bool.not_eq_false', Bool.not_true, Bool.not_false] at hc5
            have hb2 : b.testBit ((t + step) % rows) = true := by assumption
            have hst : chS rows (step % rows) (fr % rows) (i + 1) = (l, b, ((t + step) % rows + 1) % rows) := by
              rw [chS, ← hs]
              unfold stC
              dsimp only
              rw [hmo, hbt]
              simp only [Bool.false_eq_true, if_false, if_true]
              rw [hb2]
              rfl
            replace hl : (l).length ≤ many := by exact hl
            clear hbk hbk2
            refine W_reg rfl (fun K hK => ?_)
            refine sv hF (v_move rfl) rfl ?_; clear hF a; intro a hF
            refine sv hF (v_addI rfl rfl (by omega)) rfl ?_; clear hF a; intro a hF
            refine sv hF (v_move rfl) rfl ?_; clear hF a; intro a hF
            refine sv hF ((v_remI rfl rfl (by omega) (by omega)).as (show Value.int .i64 (((((t + step) % rows : Nat) : Int) + 1) % (rows : Int)) = .int .i64 ((((t + step) % rows + 1) % rows : Nat) : Int) by simp)) rfl ?_; clear hF a; intro a hF
            refine sv hF (v_assign rfl) rfl ?_; clear hF a; intro a hF
            refine WL_nil (hK _ _ ?_)
            clear hK K
            replace hF := hF.sub _ (c_ 12 rfl (c_ 0 rfl (c_ 1 rfl (c_ 3 rfl (c_ 10 rfl (c_ 11 rfl (c_ 13 rfl (n_))))))))
            refine W_reg rfl (fun K hK => ?_)
            refine sv hF (v_move rfl) rfl ?_; clear hF a; intro a hF
            refine sv hF (v_addI rfl rfl (by omega)) rfl ?_; clear hF a; intro a hF
            refine sv hF (v_assign rfl) rfl ?_; clear hF a; intro a hF
            refine WL_nil (hK _ _ ?_)
            clear hK K
            exact ⟨q - 1, by omega, i + 1, _, _, hF.sub _ (c_ 0 rfl (c_ 1 rfl (c_ 3 rfl (c_ 10 rfl (c_ 11 rfl (c_ 12 (by rw [hst]; rfl) (c_ 13 rfl n_))))))), hS, by rw [hst]; exact hB, by rw [hst]; exact hO, by rw [hst]; exact hl, by omega, by omega⟩
          · skip
            try simp only [decide_eq_true_eq, decide_eq_false_iff_not, Bool.not_eq_true', Bool.not_eq_false', Bool.not_true, Bool.not_false] at hc5
            have hb2 : b.testBit ((t + step) % rows) = false := by assumption
            have hst : chS rows (step % rows) (fr % rows) (i + 1) = (l, b, (t + step) % rows) := by
              rw [chS, ← hs]
              unfold stC
              dsimp only
              rw [hmo, hbt]
              simp only [Bool.false_eq_true, if_false, if_true]
              rw [hb2]
              rfl
            replace hl : (l).length ≤ many := by exact hl
            clear hbk hbk2
            refine W_skip ?_
            refine W_reg rfl (fun K hK => ?_)
            refine sv hF (v_move rfl) rfl ?_; clear hF a; intro a hF
            refine sv hF (v_addI rfl rfl (by omega)) rfl ?_; clear hF a; intro a hF
            refine sv hF (v_assign rfl) rfl ?_; clear hF a; intro a hF
            refine WL_nil (hK _ _ ?_)
            clear hK K
            replace hF := hF.sub _ (c_ 13 rfl (c_ 29 rfl (c_ 28 rfl (c_ 12 rfl (c_ 0 rfl (c_ 1 rfl (c_ 3 rfl (c_ 10 rfl (c_ 11 rfl (n_))))))))))
            exact ⟨q - 1, by omega, i + 1, _, _, hF.sub _ (c_ 0 rfl (c_ 1 rfl (c_ 3 rfl (c_ 10 rfl (c_ 11 rfl (c_ 12 (by rw [hst]; rfl) (c_ 13 rfl n_))))))), hS, by rw [hst]; exact hB, by rw [hst]; exact hO, by rw [hst]; exact hl, by omega, by omega⟩
      · skip
        try simp only [decide_eq_true_eq, decide_eq_false_iff_not, Bool.not_eq_true', Bool.not_eq_false', Bool.not_true, Bool.not_false] at hc2
        refine W_exit rfl ?_
        have hlm : (chS rows (step % rows) (fr % rows) i).1.length = many := by
          by_cases hi2 : i = 2 * rows
          · subst hi2; omega
          · omega
        refine W_sr rfl (fun K hK => ?_)
        refine sv hF (v_move rfl) rfl ?_; clear hF a; intro a hF
        refine sv hF (v_move rfl) rfl ?_; clear hF a; intro a hF
        refine sv hF (v_lenS rfl sl37 rfl) rfl ?_; clear hF a; intro a hF
        refine sv hF (v_move rfl) rfl ?_; clear hF a; intro a hF
        refine sv hF ((v_eql rfl rfl).as (congrArg Value.bool (decide_eq_true (by omega)))) rfl ?_; clear hF a; intro a hF
        refine sv hF (v_assign rfl) rfl ?_; clear hF a; intro a hF
        refine sv hF (v_assign rfl) rfl ?_; clear hF a; intro a hF
        refine WL_nil (hK _ _ ?_)
        clear hK K
        replace hF := hF.sub _ (c_ 9 rfl (c_ 8 rfl (c_ 59 rfl (c_ 58 rfl (c_ 57 rfl (c_ 56 rfl (c_ 55 rfl (c_ 0 rfl (c_ 1 rfl (c_ 3 rfl (c_ 10 rfl (c_ 11 rfl (c_ 12 rfl (c_ 13 rfl (n_)))))))))))))))
        refine W_ret ?_
        refine ⟨_, _, _, hF, rfl, rfl, ?_⟩
        obtain ⟨h1, h2⟩ := hck i
        exact ⟨_, _, _, rfl, hO, hlm, h1, fun x hx => (h2 x).2 hx, hS⟩
    · clear hF a; intro hc1 a hF
      try simp only [decide_eq_true_eq, decide_eq_false_iff_not, Bool.not_eq_true', Bool.not_eq_false', Bool.not_true, Bool.not_false] at hc1
      refine sv hF (v_move rfl) rfl ?_; clear hF a; intro a hF
      refine svn hF rfl rfl rfl ?_; clear hF a; intro a hF
      refine svn hF rfl rfl rfl ?_; clear hF a; intro a hF
      refine svn hF rfl rfl rfl ?_; clear hF a; intro a hF
      refine svn hF rfl rfl rfl ?_; clear hF a; intro a hF
      refine sv hF (v_pickF rfl rfl) rfl ?_; clear hF a; intro a hF
      refine WL_nil (hK _ _ ?_)
      clear hK K
      replace hF := hF.sub _ (c_ 27 rfl (c_ 0 rfl (c_ 1 rfl (c_ 3 rfl (c_ 10 rfl (c_ 11 rfl (c_ 12 rfl (c_ 13 rfl (n_)))))))))
      refine W_ifF hF rfl ?_
      refine W_exit rfl ?_
      have hlm : (chS rows (step % rows) (fr % rows) i).1.length = many := by
        by_cases hi2 : i = 2 * rows
        · subst hi2; omega
        · omega
      refine W_sr rfl (fun K hK => ?_)
      refine sv hF (v_move rfl) rfl ?_; clear hF a; intro a hF
      refine sv hF (v_move rfl) rfl ?_; clear hF a; intro a hF
      refine sv hF (v_lenS rfl sl37 rfl) rfl ?_; clear hF a; intro a hF
      refine sv hF (v_move rfl) rfl ?_; clear hF a; intro a hF
      refine sv hF ((v_eql rfl rfl).as (congrArg Value.bool (decide_eq_true (by omega)))) rfl ?_; clear hF a; intro a hF
      refine sv hF (v_assign rfl) rfl ?_; clear hF a; intro a hF
      refine sv hF (v_assign rfl) rfl ?_; clear hF a; intro a hF
      refine WL_nil (hK _ _ ?_)
      clear hK K
      replace hF := hF.sub _ (c_ 9 rfl (c_ 8 rfl (c_ 59 rfl (c_ 58 rfl (c_ 57 rfl (c_ 56 rfl (c_ 55 rfl (c_ 0 rfl (c_ 1 rfl (c_ 3 rfl (c_ 10 rfl (c_ 11 rfl (c_ 12 rfl (c_ 13 rfl (n_)))))))))))))))
      refine W_ret ?_
      refine ⟨_, _, _, hF, rfl, rfl, ?_⟩
      obtain ⟨h1, h2⟩ := hck i
      exact ⟨_, _, _, rfl, hO, hlm, h1, fun x hx => (h2 x).2 hx, hS⟩

end Go.Proofs.Ytaeljbdpjiciaaa
