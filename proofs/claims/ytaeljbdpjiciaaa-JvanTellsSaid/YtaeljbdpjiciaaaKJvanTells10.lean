/- Texts of the claim JvanTells (part 10), put together in the order of their imports. -/
import Derived.Test.YtaeljbdpjiciaaaKJvanTells9
/- The walk of gambrelref06.Chosen. -/
set_option linter.unusedVariables false
set_option linter.unusedSimpArgs false
namespace Go.Proofs.Ytaeljbdpjiciaaa
open Go Go.Gam


namespace FxFCho
theorem on4 : Gam.One Try.prog 4 := by unfold Gam.One; kernel_rfl
theorem sc4 : Scalar Try.prog 4 := ⟨_, Try.underlying4, by simp, by simp⟩
theorem sl108 : Sl Try.prog 108 4 (.bool false) 1 := sl_of Try.underlying108 rfl (by kernel_rfl)
theorem sl37 : Sl Try.prog 37 3 (.int .i64 0) 8 := sl_of Try.underlying37 rfl (by kernel_rfl)
end FxFCho
open FxFCho

set_option maxRecDepth 100000 in
set_option maxHeartbeats 1000000 in
theorem Chosen_ok (B rows many fr step : Nat) (w : World) (hI : Inv FDx B w) (hr : 1 ≤ rows ∧ rows ≤ 20) (hm : many + 1 ≤ rows) (hfs : fr ≤ 1000 ∧ step ≤ 1000) : Ret Try.prog 30 [.int .i64 (rows : Int), .int .i64 (many : Int), .int .i64 (fr : Int), .int .i64 (step : Int)] w fun v w' => ∃ ob u, ∃ l : List Nat, v = .tuple #[u, .bool true] ∧ Gam.Own FDx B w.heap.size w' FDx.E u ob (zints (l.map fun (x : Nat) => (x : Int))) ∧ l.length = many ∧ l.Nodup ∧ (∀ x ∈ l, x < rows) ∧ St FDx B w w' := by
 refine enter2 60 [(0, .int .i64 (rows : Int)), (1, .int .i64 (many : Int)), (2, .int .i64 (fr : Int)), (3, .int .i64 (step : Int))] 8 9 Try.func30 rfl rfl rfl rfl rfl ?_; intro a hF
 have hS := St.refl hI
 have hft : fr % rows < rows := Nat.mod_lt _ (by omega)
 have hat := chS_at (step := step % rows) (show 0 < rows by omega) hft
 have hck := chS_ok (step := step % rows) (show 0 < rows by omega) hft
 have hmn := chS_many (step := step) hr.2 hft
 refine W_sr rfl (fun K hK => ?_)
 refine sv2 hF (v_assign rfl) (v_assign rfl) rfl rfl ?_; clear hF a; intro a hF
 refine WL_nil (hK _ _ ?_)
 clear hK K
 refine W_sr rfl (fun K hK => ?_)
 refine sv hF (v_assign rfl) rfl ?_; clear hF a; intro a hF
 refine WL_nil (hK _ _ ?_)
 clear hK K
 refine W_sr rfl (fun K hK => ?_)
 obtain ⟨gb, hgb⟩ : ∃ g, g = w.heap.size := ⟨_, rfl⟩
 refine s_mk (D := FDx) (B := B) (m := 20) hF sl108 rfl rfl (by simp) (by omega) (by simp only [maxLen]; omega) (by decide) hS.inv rfl ?_; clear hF a; intro w' a hm hI' hB hF
 replace hS := hS.mb0 hm
 clear hm hI'
 rw [← hgb] at hB hF
 replace hB := (hB.le (show w.heap.size ≤ gb by omega)).cast bls_zero
 refine sv hF (v_assign rfl) rfl ?_; clear hF a; intro a hF
 refine WL_nil (hK _ _ ?_)
 clear hK K
 replace hF := hF.sub _ (c_ 11 rfl (c_ 10 rfl (c_ 9 rfl (c_ 8 rfl (c_ 0 rfl (c_ 1 rfl (c_ 2 rfl (c_ 3 rfl (n_)))))))))
 refine W_sr rfl (fun K hK => ?_)
 refine sv2 hF (v_move rfl) (v_move rfl) rfl rfl ?_; clear hF a; intro a hF
 refine sv hF ((v_remI rfl rfl (by omega) (by omega)).as (show Value.int .i64 ((fr : Int) % (rows : Int)) = .int .i64 ((fr % rows : Nat) : Int) by simp)) rfl ?_; clear hF a; intro a hF
 refine sv hF (v_assign rfl) rfl ?_; clear hF a; intro a hF
 refine WL_nil (hK _ _ ?_)
 clear hK K
 replace hF := hF.sub _ (c_ 12 rfl (c_ 11 rfl (c_ 10 rfl (c_ 9 rfl (c_ 8 rfl (c_ 0 rfl (c_ 1 rfl (c_ 3 rfl (n_)))))))))
 refine W_seq ?_
 refine W_sr rfl (fun K hK => ?_)
 refine sv hF (v_assign rfl) rfl ?_; clear hF a; intro a hF
 refine WL_nil (hK _ _ ?_)
 clear hK K
 refine W_block ?_
 refine W_loop (fun q a w1 => ∃ (i : Nat) (v10 : Value) (b10 : Option Nat), Fr 60 [(0, .int .i64 (rows : Int)), (1, .int .i64 (many : Int)), (3, .int .i64 (step : Int)), (10, v10), (11, .slice (some ⟨gb, 0, none⟩) 20 20), (12, .int .i64 ((chS rows (step % rows) (fr % rows) i).2.2 : Int)), (13, .int .i64 (i : Int))] a ∧ (St FDx B w w1) ∧ (Gam.Own FDx B w.heap.size w1 4 (.slice (some ⟨gb, 0, none⟩) 20 20) (some gb) (bls (chS rows (step % rows) (fr % rows) i).2.1)) ∧ (Gam.Own FDx B w.heap.size w1 FDx.E v10 b10 (zints ((chS rows (step % rows) (fr % rows) i).1.map fun (x : Nat) => (x : Int)))) ∧ ((chS rows (step % rows) (fr % rows) i).1.length ≤ many) ∧ (i ≤ 2 * rows) ∧ (q + i = 2 * rows)) (2 * rows) ?_ ?_
 ·
  skip
  exact ⟨0, _, none, hF.sub _ (c_ 0 rfl (c_ 1 rfl (c_ 3 rfl (c_ 10 rfl (c_ 11 rfl (c_ 12 rfl (c_ 13 rfl (n_)))))))), hS, hB, Gam.Own.nil _ _ _ _ _, Nat.zero_le _, by omega, by omega⟩
 ·
  skip
  clear hF
  clear hS hB
  rintro q a w1 ⟨i, v10, b10, hF, hS, hB, hO, hl, hi, hq⟩
  refine W_seq ?_
  have hti := hat i
  have hzl : (zints ((chS rows (step % rows) (fr % rows) i).1.map fun (x : Nat) => (x : Int))).length = (chS rows (step % rows) (fr % rows) i).1.length := by rw [zints_length, List.length_map]
  obtain ⟨a10, c10, rfl⟩ := hO.shape
  rw [hzl] at hF hO
  refine W_sr rfl (fun K hK => ?_)
  refine sv2 hF (v_move rfl) (v_move rfl) rfl rfl ?_; clear hF a; intro a hF
  refine sv hF (v_mulI rfl rfl (by omega)) rfl ?_; clear hF a; intro a hF
  refine sb hF (v_lss rfl rfl) rfl ?_ ?_
  ·
   clear hF a; intro hc1 a hF
   try simp only [dcl] at hc1
   refine sv hF (v_move rfl) rfl ?_; clear hF a; intro a hF
   refine svg hF rfl ?_
   refine sv hF (v_move rfl) rfl ?_; clear hF a; intro a hF
   refine svg hF rfl ?_
   refine sv hF (v_lenS rfl sl37 rfl) rfl ?_; clear hF a; intro a hF
   refine svg hF rfl ?_
   refine sv hF (v_move rfl) rfl ?_; clear hF a; intro a hF
   refine svg hF rfl ?_
   refine sv hF (v_lss rfl rfl) rfl ?_; clear hF a; intro a hF
   refine sv hF (v_pickT rfl rfl) rfl ?_; clear hF a; intro a hF
   refine WL_nil (hK _ _ ?_)
   clear hK K
   replace hF := hF.sub _ (c_ 27 rfl (c_ 0 rfl (c_ 1 rfl (c_ 3 rfl (c_ 10 rfl (c_ 11 rfl (c_ 12 rfl (c_ 13 rfl (n_)))))))))
   refine W_if hF rfl (fun hc2 => ?_) (fun hc2 => ?_)
   ·
    skip
    try simp only [dcl] at hc2
    have hbk := (hB.kc (by decide) (bls_at (b := (chS rows (step % rows) (fr % rows) i).2.1) (show (chS rows (step % rows) (fr % rows) i).2.2 < 20 by omega)))
    obtain ⟨⟨l, b, t⟩, hs⟩ : ∃ s, s = (chS rows (step % rows) (fr % rows) i) := ⟨_, rfl⟩
    rw [← hs] at hF hB hO hl hti hbk hzl hc2
    dsimp only at hF hB hO hl hti hbk hzl hc2
    have hmo : (t + step % rows) % rows = (t + step) % rows := by rw [Nat.add_mod, Nat.mod_mod, ← Nat.add_mod]
    refine W_skip ?_
    refine W_seq ?_
    refine W_block ?_
    refine W_seq ?_
    refine W_sr rfl (fun K hK => ?_)
    refine sv2 hF (v_move rfl) (v_move rfl) rfl rfl ?_; clear hF a; intro a hF
    refine sv hF (v_ixS sl108 rfl rfl (by omega) (by omega)) rfl ?_; clear hF a; intro a hF
    refine sv hF (v_load sc4 rfl (by rw [toNat_c]; exact hbk.c)) rfl ?_; clear hF a; intro a hF
    refine sv hF (v_not rfl) rfl ?_; clear hF a; intro a hF
    refine WL_nil (hK _ _ ?_)
    clear hK K
    replace hF := hF.sub _ (c_ 34 rfl (c_ 0 rfl (c_ 1 rfl (c_ 3 rfl (c_ 10 rfl (c_ 11 rfl (c_ 12 rfl (c_ 13 rfl (n_)))))))))
    refine W_if hF rfl (fun hc3 => ?_) (fun hc3 => ?_)
    ·
     skip
     try simp only [dcl] at hc3
     have hbt : b.testBit t = false := by simpa using hc3
     have hlm : l.length < many := by omega
     refine W_sr rfl (fun K hK => ?_)
     refine sv2 hF (v_move rfl) (v_move rfl) rfl rfl ?_; clear hF a; intro a hF
     refine s_bs (D := FDx) (B := B) hF sl37 rfl rfl (by decide) (by simp [Value.cells]) (by decide) hS.inv rfl ?_; clear hF a; intro w' a hm hI' hL hF
     replace hB := hB.mb hm (fun _ _ => by simp)
     replace hO := hO.mb hm (fun _ _ => by simp)
     replace hS := hS.mb0 hm
     clear hm hI'
     refine s_app (D := FDx) (B := B) hF rfl sl37 rfl rfl hO (hL.row (by decide)) (by simp [Value.oneCell']) (by rw [hzl]; simp; omega) (by rw [hzl]; simp [maxLen]; omega) (hS.ext.size) (by decide) hS.inv rfl ?_; clear hF a; intro v' b' w' a ho' hm hI' hb' hF
     replace hB := hB.mb hm (hB.ne_type hO (by decide))
     replace hS := hS.mb hm (fun k h => Nat.le_trans (Nat.le_refl _) (hO.lt k h).1)
     replace hO := ho'
     clear hm hI' ho'
     replace hO : Gam.Own FDx B w.heap.size _ _ _ _ (zints ((l ++ [t]).map fun (x : Nat) => (x : Int))) := hO.cast (by simp [zints])
     clear hb'
     refine sv hF (v_assign rfl) rfl ?_; clear hF a; intro a hF
     refine WL_nil (hK _ _ ?_)
     clear hK K
     replace hF := hF.sub _ (c_ 10 rfl (c_ 0 rfl (c_ 1 rfl (c_ 3 rfl (c_ 11 rfl (c_ 12 rfl (c_ 13 rfl (n_))))))))
     refine W_reg rfl (fun K hK => ?_)
     refine sv2 hF (v_move rfl) (v_move rfl) rfl rfl ?_; clear hF a; intro a hF
     refine sv hF (v_ixS sl108 rfl rfl (by omega) (by omega)) rfl ?_; clear hF a; intro a hF
     refine s_set (D := FDx) (B := B) hF on4 rfl (by rw [toNat_c, bls_length]; omega) rfl rfl hB (by decide) hS.inv ?_; intro w' hm hI' ho'
     replace hO := hO.mb hm (hO.ne_type hB (by decide))
     replace hS := hS.mb hm (fun k h => Nat.le_trans (Nat.le_refl _) (hB.lt k h).1)
     replace hB := ho'
     clear hm hI' ho'
     rw [toNat_c, Nat.zero_add, bls_set (by omega)] at hB
     refine WL_nil (hK _ _ ?_)
     clear hK K
     replace hF := hF.sub _ (c_ 10 rfl (c_ 0 rfl (c_ 1 rfl (c_ 3 rfl (c_ 11 rfl (c_ 12 rfl (c_ 13 rfl (n_))))))))
     refine W_sr rfl (fun K hK => ?_)
     refine sv2 hF (v_move rfl) (v_move rfl) rfl rfl ?_; clear hF a; intro a hF
     refine sv hF (v_addI rfl rfl (by omega)) rfl ?_; clear hF a; intro a hF
     refine sv hF (v_move rfl) rfl ?_; clear hF a; intro a hF
     refine sv hF ((v_remI rfl rfl (by omega) (by omega)).as (show Value.int .i64 (((t : Int) + (step : Int)) % (rows : Int)) = .int .i64 (((t + step) % rows : Nat) : Int) by simp)) rfl ?_; clear hF a; intro a hF
     refine sv hF (v_assign rfl) rfl ?_; clear hF a; intro a hF
     refine WL_nil (hK _ _ ?_)
     clear hK K
     replace hF := hF.sub _ (c_ 12 rfl (c_ 10 rfl (c_ 0 rfl (c_ 1 rfl (c_ 3 rfl (c_ 11 rfl (c_ 13 rfl (n_))))))))
     have hta : (t + step) % rows < rows := Nat.mod_lt _ (by omega)
     have hbk2 := hB.kc (by decide) (bls_at (show (t + step) % rows < 20 by omega))
     refine W_sr rfl (fun K hK => ?_)
     refine sv2 hF (v_move rfl) (v_move rfl) rfl rfl ?_; clear hF a; intro a hF
     refine sv hF (v_ixS sl108 rfl rfl (by omega) (by omega)) rfl ?_; clear hF a; intro a hF
     refine sv hF (v_load sc4 rfl (by rw [toNat_c]; exact hbk2.c)) rfl ?_; clear hF a; intro a hF
     refine WL_nil (hK _ _ ?_)
     clear hK K
     replace hF := hF.sub _ (c_ 50 rfl (c_ 12 rfl (c_ 10 rfl (c_ 0 rfl (c_ 1 rfl (c_ 3 rfl (c_ 11 rfl (c_ 13 rfl (n_)))))))))
     refine W_if hF rfl (fun hc4 => ?_) (fun hc4 => ?_)
     ·
      skip
      try simp only [dcl] at hc4
      have hb2 : (b ||| 1 <<< t).testBit ((t + step) % rows) = true := by assumption
      have hst : chS rows (step % rows) (fr % rows) (i + 1) = (l ++ [t], (b ||| 1 <<< t), ((t + step) % rows + 1) % rows) := by
       rw [chS, ← hs]
       unfold stC
       dsimp only
       rw [hmo, hbt]
       simp only [Bool.false_eq_true, if_false, if_true]
       rw [hb2]
       rfl
      replace hl : (l ++ [t]).length ≤ many := by rw [List.length_append]; simp; omega
      clear hbk hbk2
      refine W_reg rfl (fun K hK => ?_)
      refine sv hF (v_move rfl) rfl ?_; clear hF a; intro a hF
      refine sv hF (v_addI rfl rfl (by omega)) rfl ?_; clear hF a; intro a hF
      refine sv hF (v_move rfl) rfl ?_; clear hF a; intro a hF
      refine sv hF ((v_remI rfl rfl (by omega) (by omega)).as (show Value.int .i64 (((((t + step) % rows : Nat) : Int) + 1) % (rows : Int)) = .int .i64 ((((t + step) % rows + 1) % rows : Nat) : Int) by simp)) rfl ?_; clear hF a; intro a hF
      refine sv hF (v_assign rfl) rfl ?_; clear hF a; intro a hF
      refine WL_nil (hK _ _ ?_)
      clear hK K
      replace hF := hF.sub _ (c_ 12 rfl (c_ 10 rfl (c_ 0 rfl (c_ 1 rfl (c_ 3 rfl (c_ 11 rfl (c_ 13 rfl (n_))))))))
      refine W_reg rfl (fun K hK => ?_)
      refine sv hF (v_move rfl) rfl ?_; clear hF a; intro a hF
      refine sv hF (v_addI rfl rfl (by omega)) rfl ?_; clear hF a; intro a hF
      refine sv hF (v_assign rfl) rfl ?_; clear hF a; intro a hF
      refine WL_nil (hK _ _ ?_)
      clear hK K
      exact ⟨q - 1, by omega, i + 1, _, _, hF.sub _ (c_ 0 rfl (c_ 1 rfl (c_ 3 rfl (c_ 10 rfl (c_ 11 rfl (c_ 12 (by rw [hst]; rfl) (c_ 13 rfl n_))))))), hS, by rw [hst]; exact hB, by rw [hst]; exact hO, by rw [hst]; exact hl, by omega, by omega⟩
     ·
      skip
      try simp only [dcl] at hc4
      have hb2 : (b ||| 1 <<< t).testBit ((t + step) % rows) = false := by assumption
      have hst : chS rows (step % rows) (fr % rows) (i + 1) = (l ++ [t], (b ||| 1 <<< t), (t + step) % rows) := by
       rw [chS, ← hs]
       unfold stC
       dsimp only
       rw [hmo, hbt]
       simp only [Bool.false_eq_true, if_false, if_true]
       rw [hb2]
       rfl
      replace hl : (l ++ [t]).length ≤ many := by rw [List.length_append]; simp; omega
      clear hbk hbk2
      refine W_skip ?_
      refine W_reg rfl (fun K hK => ?_)
      refine sv hF (v_move rfl) rfl ?_; clear hF a; intro a hF
      refine sv hF (v_addI rfl rfl (by omega)) rfl ?_; clear hF a; intro a hF
      refine sv hF (v_assign rfl) rfl ?_; clear hF a; intro a hF
      refine WL_nil (hK _ _ ?_)
      clear hK K
      replace hF := hF.sub _ (c_ 13 rfl (c_ 29 rfl (c_ 28 rfl (c_ 12 rfl (c_ 10 rfl (c_ 0 rfl (c_ 1 rfl (c_ 3 rfl (c_ 11 rfl (n_))))))))))
      exact ⟨q - 1, by omega, i + 1, _, _, hF.sub _ (c_ 0 rfl (c_ 1 rfl (c_ 3 rfl (c_ 10 rfl (c_ 11 rfl (c_ 12 (by rw [hst]; rfl) (c_ 13 rfl n_))))))), hS, by rw [hst]; exact hB, by rw [hst]; exact hO, by rw [hst]; exact hl, by omega, by omega⟩
    ·
     skip
     try simp only [dcl] at hc3
     have hbt : b.testBit t = true := by simpa using hc3
     refine W_skip ?_
     refine W_sr rfl (fun K hK => ?_)
     refine sv2 hF (v_move rfl) (v_move rfl) rfl rfl ?_; clear hF a; intro a hF
     refine sv hF (v_addI rfl rfl (by omega)) rfl ?_; clear hF a; intro a hF
     refine sv hF (v_move rfl) rfl ?_; clear hF a; intro a hF
     refine sv hF ((v_remI rfl rfl (by omega) (by omega)).as (show Value.int .i64 (((t : Int) + (step : Int)) % (rows : Int)) = .int .i64 (((t + step) % rows : Nat) : Int) by simp)) rfl ?_; clear hF a; intro a hF
     refine sv hF (v_assign rfl) rfl ?_; clear hF a; intro a hF
     refine WL_nil (hK _ _ ?_)
     clear hK K
     replace hF := hF.sub _ (c_ 12 rfl (c_ 0 rfl (c_ 1 rfl (c_ 3 rfl (c_ 10 rfl (c_ 11 rfl (c_ 13 rfl (n_))))))))
     have hta : (t + step) % rows < rows := Nat.mod_lt _ (by omega)
     have hbk2 := hB.kc (by decide) (bls_at (show (t + step) % rows < 20 by omega))
     refine W_sr rfl (fun K hK => ?_)
     refine sv2 hF (v_move rfl) (v_move rfl) rfl rfl ?_; clear hF a; intro a hF
     refine sv hF (v_ixS sl108 rfl rfl (by omega) (by omega)) rfl ?_; clear hF a; intro a hF
     refine sv hF (v_load sc4 rfl (by rw [toNat_c]; exact hbk2.c)) rfl ?_; clear hF a; intro a hF
     refine WL_nil (hK _ _ ?_)
     clear hK K
     replace hF := hF.sub _ (c_ 50 rfl (c_ 12 rfl (c_ 0 rfl (c_ 1 rfl (c_ 3 rfl (c_ 10 rfl (c_ 11 rfl (c_ 13 rfl (n_)))))))))
     refine W_if hF rfl (fun hc5 => ?_) (fun hc5 => ?_)
     ·
      skip
      try simp only [dcl] at hc5
      have hb2 : b.testBit ((t + step) % rows) = true := by assumption
      have hst : chS rows (step % rows) (fr % rows) (i + 1) = (l, b, ((t + step) % rows + 1) % rows) := by
       rw [chS, ← hs]
       unfold stC
       dsimp only
       rw [hmo, hbt]
       simp only [Bool.false_eq_true, if_false, if_true]
       rw [hb2]
       rfl
      replace hl : (l).length ≤ many := by exact hl
      clear hbk hbk2
      refine W_reg rfl (fun K hK => ?_)
      refine sv hF (v_move rfl) rfl ?_; clear hF a; intro a hF
      refine sv hF (v_addI rfl rfl (by omega)) rfl ?_; clear hF a; intro a hF
      refine sv hF (v_move rfl) rfl ?_; clear hF a; intro a hF
      refine sv hF ((v_remI rfl rfl (by omega) (by omega)).as (show Value.int .i64 (((((t + step) % rows : Nat) : Int) + 1) % (rows : Int)) = .int .i64 ((((t + step) % rows + 1) % rows : Nat) : Int) by simp)) rfl ?_; clear hF a; intro a hF
      refine sv hF (v_assign rfl) rfl ?_; clear hF a; intro a hF
      refine WL_nil (hK _ _ ?_)
      clear hK K
      replace hF := hF.sub _ (c_ 12 rfl (c_ 0 rfl (c_ 1 rfl (c_ 3 rfl (c_ 10 rfl (c_ 11 rfl (c_ 13 rfl (n_))))))))
      refine W_reg rfl (fun K hK => ?_)
      refine sv hF (v_move rfl) rfl ?_; clear hF a; intro a hF
      refine sv hF (v_addI rfl rfl (by omega)) rfl ?_; clear hF a; intro a hF
      refine sv hF (v_assign rfl) rfl ?_; clear hF a; intro a hF
      refine WL_nil (hK _ _ ?_)
      clear hK K
      exact ⟨q - 1, by omega, i + 1, _, _, hF.sub _ (c_ 0 rfl (c_ 1 rfl (c_ 3 rfl (c_ 10 rfl (c_ 11 rfl (c_ 12 (by rw [hst]; rfl) (c_ 13 rfl n_))))))), hS, by rw [hst]; exact hB, by rw [hst]; exact hO, by rw [hst]; exact hl, by omega, by omega⟩
     ·
      skip
      try simp only [dcl] at hc5
      have hb2 : b.testBit ((t + step) % rows) = false := by assumption
      have hst : chS rows (step % rows) (fr % rows) (i + 1) = (l, b, (t + step) % rows) := by
       rw [chS, ← hs]
       unfold stC
       dsimp only
       rw [hmo, hbt]
       simp only [Bool.false_eq_true, if_false, if_true]
       rw [hb2]
       rfl
      replace hl : (l).length ≤ many := by exact hl
      clear hbk hbk2
      refine W_skip ?_
      refine W_reg rfl (fun K hK => ?_)
      refine sv hF (v_move rfl) rfl ?_; clear hF a; intro a hF
      refine sv hF (v_addI rfl rfl (by omega)) rfl ?_; clear hF a; intro a hF
      refine sv hF (v_assign rfl) rfl ?_; clear hF a; intro a hF
      refine WL_nil (hK _ _ ?_)
      clear hK K
      replace hF := hF.sub _ (c_ 13 rfl (c_ 29 rfl (c_ 28 rfl (c_ 12 rfl (c_ 0 rfl (c_ 1 rfl (c_ 3 rfl (c_ 10 rfl (c_ 11 rfl (n_))))))))))
      exact ⟨q - 1, by omega, i + 1, _, _, hF.sub _ (c_ 0 rfl (c_ 1 rfl (c_ 3 rfl (c_ 10 rfl (c_ 11 rfl (c_ 12 (by rw [hst]; rfl) (c_ 13 rfl n_))))))), hS, by rw [hst]; exact hB, by rw [hst]; exact hO, by rw [hst]; exact hl, by omega, by omega⟩
   ·
    skip
    try simp only [dcl] at hc2
    refine W_exit rfl ?_
    have hlm : (chS rows (step % rows) (fr % rows) i).1.length = many := by
     by_cases hi2 : i = 2 * rows
     ·
      subst hi2; omega
     ·
      omega
    refine W_sr rfl (fun K hK => ?_)
    refine sv2 hF (v_move rfl) (v_move rfl) rfl rfl ?_; clear hF a; intro a hF
    refine sv hF (v_lenS rfl sl37 rfl) rfl ?_; clear hF a; intro a hF
    refine sv hF (v_move rfl) rfl ?_; clear hF a; intro a hF
    refine sv hF ((v_eql rfl rfl).as (congrArg Value.bool (decide_eq_true (by omega)))) rfl ?_; clear hF a; intro a hF
    refine sv2 hF (v_assign rfl) (v_assign rfl) rfl rfl ?_; clear hF a; intro a hF
    refine WL_nil (hK _ _ ?_)
    clear hK K
    replace hF := hF.sub _ (c_ 9 rfl (c_ 8 rfl (c_ 59 rfl (c_ 58 rfl (c_ 57 rfl (c_ 56 rfl (c_ 55 rfl (c_ 0 rfl (c_ 1 rfl (c_ 3 rfl (c_ 10 rfl (c_ 11 rfl (c_ 12 rfl (c_ 13 rfl (n_)))))))))))))))
    refine W_ret ?_
    refine ⟨_, _, _, hF, rfl, rfl, ?_⟩
    obtain ⟨h1, h2⟩ := hck i
    exact ⟨_, _, _, rfl, hO, hlm, h1, fun x hx => (h2 x).2 hx, hS⟩
  ·
   clear hF a; intro hc1 a hF
   try simp only [dcl] at hc1
   refine sv hF (v_move rfl) rfl ?_; clear hF a; intro a hF
   refine svn hF rfl rfl rfl ?_; clear hF a; intro a hF
   refine svn hF rfl rfl rfl ?_; clear hF a; intro a hF
   refine svn hF rfl rfl rfl ?_; clear hF a; intro a hF
   refine svn hF rfl rfl rfl ?_; clear hF a; intro a hF
   refine sv hF (v_pickF rfl rfl) rfl ?_; clear hF a; intro a hF
   refine WL_nil (hK _ _ ?_)
   clear hK K
   replace hF := hF.sub _ (c_ 27 rfl (c_ 0 rfl (c_ 1 rfl (c_ 3 rfl (c_ 10 rfl (c_ 11 rfl (c_ 12 rfl (c_ 13 rfl (n_)))))))))
   refine W_ifF hF rfl ?_
   refine W_exit rfl ?_
   have hlm : (chS rows (step % rows) (fr % rows) i).1.length = many := by
    by_cases hi2 : i = 2 * rows
    ·
     subst hi2; omega
    ·
     omega
   refine W_sr rfl (fun K hK => ?_)
   refine sv2 hF (v_move rfl) (v_move rfl) rfl rfl ?_; clear hF a; intro a hF
   refine sv hF (v_lenS rfl sl37 rfl) rfl ?_; clear hF a; intro a hF
   refine sv hF (v_move rfl) rfl ?_; clear hF a; intro a hF
   refine sv hF ((v_eql rfl rfl).as (congrArg Value.bool (decide_eq_true (by omega)))) rfl ?_; clear hF a; intro a hF
   refine sv2 hF (v_assign rfl) (v_assign rfl) rfl rfl ?_; clear hF a; intro a hF
   refine WL_nil (hK _ _ ?_)
   clear hK K
   replace hF := hF.sub _ (c_ 9 rfl (c_ 8 rfl (c_ 59 rfl (c_ 58 rfl (c_ 57 rfl (c_ 56 rfl (c_ 55 rfl (c_ 0 rfl (c_ 1 rfl (c_ 3 rfl (c_ 10 rfl (c_ 11 rfl (c_ 12 rfl (c_ 13 rfl (n_)))))))))))))))
   refine W_ret ?_
   refine ⟨_, _, _, hF, rfl, rfl, ?_⟩
   obtain ⟨h1, h2⟩ := hck i
   exact ⟨_, _, _, rfl, hO, hlm, h1, fun x hx => (h2 x).2 hx, hS⟩

end Go.Proofs.Ytaeljbdpjiciaaa

/- The walks of the document answer for polynomials: each function returns what the plain function on numbers tells. -/
set_option linter.unusedVariables false
set_option linter.unusedSimpArgs false
namespace Go.Proofs.Ytaeljbdpjiciaaa
open Go Go.Gam


namespace FxFRef01
theorem en109 : Ent Try.prog 109 := ent Try.func109 (by kernel_rfl) (by kernel_rfl)
theorem en117 : Ent Try.prog 117 := ent Try.func117 (by kernel_rfl) (by kernel_rfl)
theorem en118 : Ent Try.prog 118 := ent Try.func118 (by kernel_rfl) (by kernel_rfl)
theorem en123 : Ent Try.prog 123 := ent Try.func123 (by kernel_rfl) (by kernel_rfl)
theorem en124 : Ent Try.prog 124 := ent Try.func124 (by kernel_rfl) (by kernel_rfl)
end FxFRef01
open FxFRef01

set_option maxRecDepth 100000 in
set_option maxHeartbeats 1000000 in
theorem rDeg_ok (B P : Nat) (w : World) (hI : Inv FDx B w) (hP : P < 18446744073709551616) : Ret Try.prog 123 [.int .u64 (P : Int)] w fun v w' => v = .int .i64 (Px.deg P) ∧ St FDx B w w'  := by
 refine enter 11 [(0, .int .u64 (P : Int))] 2 Try.func123 rfl rfl rfl rfl rfl ?_; intro a hF
 have hS := St.refl hI
 have hbl := blen_le (n := P) (k := 64) (by omega)
 refine W_sr rfl (fun K hK => ?_)
 refine sv hF (v_assign rfl) rfl ?_; clear hF a; intro a hF
 refine WL_nil (hK _ _ ?_)
 clear hK K
 refine W_sr rfl (fun K hK => ?_)
 refine sv hF (v_assign rfl) rfl ?_; clear hF a; intro a hF
 refine WL_nil (hK _ _ ?_)
 clear hK K
 refine W_seq ?_
 refine W_block ?_
 refine W_loop (fun m a w1 => ∃ n : Int, Fr 11 [(0, .int .u64 (m : Int)), (3, .int .i64 n)] a ∧ w = w1 ∧ (blen m : Int) + (n + 1) = blen P ∧ m < 18446744073709551616 ∧ -1 ≤ n) (P) ?_ ?_
 ·
  skip
  exact ⟨_, hF.sub _ (c_ 0 rfl (c_ 3 rfl n_)), rfl, by omega, hP, by omega⟩
 ·
  skip
  clear hF
  rintro m a _ ⟨n, hF, rfl, hn, hm, hn1⟩
  refine W_seq ?_
  refine W_sr rfl (fun K hK => ?_)
  refine sv hF (v_move rfl) rfl ?_; clear hF a; intro a hF
  refine sv hF (v_gtr rfl rfl) rfl ?_; clear hF a; intro a hF
  refine WL_nil (hK _ _ ?_)
  clear hK K
  replace hF := hF.sub _ (c_ 5 rfl (c_ 0 rfl (c_ 3 rfl (n_))))
  refine W_if hF rfl (fun hc1 => ?_) (fun hc1 => ?_)
  ·
   skip
   try simp only [dcl] at hc1
   have hbs := blen_half (m := m) (by omega)
   refine W_skip ?_
   refine W_block ?_
   refine W_sr rfl (fun K hK => ?_)
   refine sv hF (v_move rfl) rfl ?_; clear hF a; intro a hF
   refine sv hF (v_addI rfl rfl (by omega)) rfl ?_; clear hF a; intro a hF
   refine sv hF (v_assign rfl) rfl ?_; clear hF a; intro a hF
   refine WL_nil (hK _ _ ?_)
   clear hK K
   replace hF := hF.sub _ (c_ 3 rfl (c_ 0 rfl (n_)))
   refine W_reg rfl (fun K hK => ?_)
   refine sv hF (v_move rfl) rfl ?_; clear hF a; intro a hF
   refine sv hF (v_quoN (n := 2) rfl rfl (by omega) (fits_u64 (by omega))) rfl ?_; clear hF a; intro a hF
   refine sv hF (v_assign rfl) rfl ?_; clear hF a; intro a hF
   refine WL_nil (hK _ _ ?_)
   clear hK K
   replace hF := hF.sub _ (c_ 0 rfl (c_ 3 rfl (n_)))
   exact ⟨m / 2, by omega, _, hF.sub _ (c_ 0 rfl (c_ 3 rfl n_)), rfl, by omega, by omega, by omega⟩
  ·
   skip
   try simp only [dcl] at hc1
   obtain rfl : m = 0 := by omega
   rw [blen_zero] at hn
   refine W_exit rfl ?_
   refine W_sr rfl (fun K hK => ?_)
   refine sv2 hF (v_move rfl) (v_assign rfl) rfl rfl ?_; clear hF a; intro a hF
   refine WL_nil (hK _ _ ?_)
   clear hK K
   replace hF := hF.sub _ (c_ 2 rfl (c_ 10 rfl (c_ 0 rfl (c_ 3 rfl (n_)))))
   refine W_ret ?_
   refine ⟨_, _, hF, rfl, ?_⟩
   exact ⟨by rw [← deg_blen]; congr 1; omega, hS⟩

set_option maxRecDepth 100000 in
set_option maxHeartbeats 1000000 in
theorem rMul_ok (B X Y : Nat) (w : World) (hI : Inv FDx B w) (hX : X < 4294967296) (hY : Y < 4294967296) : Ret Try.prog 118 [.int .u32 (X : Int), .int .u32 (Y : Int)] w fun v w' => v = .int .u64 (Px.mul X Y : Int) ∧ St FDx B w w'  := by
 refine enter 22 [(0, .int .u32 (X : Int)), (1, .int .u32 (Y : Int))] 4 Try.func118 rfl rfl rfl rfl rfl ?_; intro a hF
 have hS := St.refl hI
 refine W_sr rfl (fun K hK => ?_)
 refine sv hF (v_assign rfl) rfl ?_; clear hF a; intro a hF
 refine WL_nil (hK _ _ ?_)
 clear hK K
 refine W_sr rfl (fun K hK => ?_)
 refine sv hF (v_assign rfl) rfl ?_; clear hF a; intro a hF
 refine WL_nil (hK _ _ ?_)
 clear hK K
 refine W_sr rfl (fun K hK => ?_)
 refine sv hF (v_move rfl) rfl ?_; clear hF a; intro a hF
 refine sv hF (v_cv Try.underlying24 Try.underlying115 rfl (wrap_u64 _ (by omega))) rfl ?_; clear hF a; intro a hF
 refine sv hF (v_assign rfl) rfl ?_; clear hF a; intro a hF
 refine WL_nil (hK _ _ ?_)
 clear hK K
 replace hF := hF.sub _ (c_ 6 rfl (c_ 5 rfl (c_ 4 rfl (c_ 1 rfl (n_)))))
 refine W_seq ?_
 refine W_block ?_
 refine W_loop (fun m a w1 => ∃ k x o : Nat, Fr 22 [(1, .int .u32 (m : Int)), (5, .int .u64 (o : Int)), (6, .int .u64 (x : Int))] a ∧ w = w1 ∧ m = Y / 2 ^ k ∧ x = X <<< k ∧ o = Px.mul X (Y % 2 ^ k) ∧ k ≤ 32) (Y) ?_ ?_
 ·
  skip
  exact ⟨0, X, 0, hF.sub _ (c_ 1 rfl (c_ 5 rfl (c_ 6 rfl n_))), rfl, by simp, by simp, (mul_none X Y).symm, by omega⟩
 ·
  skip
  clear hF
  rintro m a _ ⟨k, x, o, hF, rfl, hm, hx, ho, hk⟩
  refine W_seq ?_
  have hm32 : m < 4294967296 := by rw [hm]; exact div_lt hY
  refine W_sr rfl (fun K hK => ?_)
  refine sv hF (v_move rfl) rfl ?_; clear hF a; intro a hF
  refine sv hF (v_gtr rfl rfl) rfl ?_; clear hF a; intro a hF
  refine WL_nil (hK _ _ ?_)
  clear hK K
  replace hF := hF.sub _ (c_ 10 rfl (c_ 1 rfl (c_ 5 rfl (c_ 6 rfl (n_)))))
  refine W_if hF rfl (fun hc1 => ?_) (fun hc1 => ?_)
  ·
   skip
   try simp only [dcl] at hc1
   have hk2 : k < 32 := by
    rcases Nat.lt_or_ge k 32 with h | h
    ·
     exact h
    ·
     have h9 : Y / 2 ^ k = 0 := Nat.div_eq_of_lt (Nat.lt_of_lt_of_le hY (Nat.pow_le_pow_right (n := 2) (by decide) h))
     omega
   have hx2 : x < 9223372036854775808 := by
    rw [hx, Nat.shiftLeft_eq]
    exact Nat.lt_of_lt_of_le (shl_lt (m := 32) (i := k) hX) (Nat.pow_le_pow_right (n := 2) (by decide) (show 32 + k ≤ 63 by omega))
   have ho2 : o < 18446744073709551616 := by rw [ho]; exact mul_lt64 hX (Nat.lt_of_le_of_lt (Nat.mod_le _ _) hY)
   have hst := mul_bit X Y k
   rw [bit_of_div, ← hm, ← ho, ← hx] at hst
   have hds := div_succ Y k
   rw [← hm] at hds
   have hxs : 2 * x = X <<< (k + 1) := by rw [hx, Nat.shiftLeft_eq, Nat.shiftLeft_eq, Nat.pow_succ, Nat.mul_comm 2, Nat.mul_assoc]
   refine W_skip ?_
   refine W_block ?_
   refine W_seq ?_
   refine W_sr rfl (fun K hK => ?_)
   refine sv hF (v_move rfl) rfl ?_; clear hF a; intro a hF
   refine sv hF (v_remI rfl rfl (by omega) (by omega)) rfl ?_; clear hF a; intro a hF
   refine sv hF (v_eql rfl rfl) rfl ?_; clear hF a; intro a hF
   refine WL_nil (hK _ _ ?_)
   clear hK K
   replace hF := hF.sub _ (c_ 13 rfl (c_ 1 rfl (c_ 5 rfl (c_ 6 rfl (n_)))))
   refine W_if hF rfl (fun hc2 => ?_) (fun hc2 => ?_)
   ·
    skip
    try simp only [dcl] at hc2
    rw [if_pos (by simp; omega)] at hst
    refine W_reg rfl (fun K hK => ?_)
    refine sv2 hF (v_move rfl) (v_move rfl) rfl rfl ?_; clear hF a; intro a hF
    refine sv hF (v_xorN rfl rfl (fits_u64 (by omega)) (fits_u64 (by omega))) rfl ?_; clear hF a; intro a hF
    refine sv hF (v_assign rfl) rfl ?_; clear hF a; intro a hF
    refine WL_nil (hK _ _ ?_)
    clear hK K
    replace hF := hF.sub _ (c_ 5 rfl (c_ 1 rfl (c_ 6 rfl (n_))))
    refine W_sr rfl (fun K hK => ?_)
    refine sv hF (v_move rfl) rfl ?_; clear hF a; intro a hF
    refine sv hF ((v_mul rfl rfl).as (congrArg _ (wrap_u64 _ (by omega)))) rfl ?_; clear hF a; intro a hF
    refine sv hF (v_assign rfl) rfl ?_; clear hF a; intro a hF
    refine WL_nil (hK _ _ ?_)
    clear hK K
    replace hF := hF.sub _ (c_ 6 rfl (c_ 5 rfl (c_ 1 rfl (n_))))
    refine W_reg rfl (fun K hK => ?_)
    refine sv hF (v_move rfl) rfl ?_; clear hF a; intro a hF
    refine sv hF (v_quoN (n := 2) rfl rfl (by omega) (fits_u32 (by omega))) rfl ?_; clear hF a; intro a hF
    refine sv hF (v_assign rfl) rfl ?_; clear hF a; intro a hF
    refine WL_nil (hK _ _ ?_)
    clear hK K
    replace hF := hF.sub _ (c_ 1 rfl (c_ 6 rfl (c_ 5 rfl (n_))))
    exact ⟨m / 2, by omega, k + 1, 2 * x, _, hF.sub _ (c_ 1 rfl (c_ 5 rfl (c_ 6 rfl n_))), rfl, hds.symm, hxs, hst.symm, by omega⟩
   ·
    skip
    try simp only [dcl] at hc2
    rw [if_neg (by simp; omega), Nat.xor_zero] at hst
    refine W_skip ?_
    refine W_sr rfl (fun K hK => ?_)
    refine sv hF (v_move rfl) rfl ?_; clear hF a; intro a hF
    refine sv hF ((v_mul rfl rfl).as (congrArg _ (wrap_u64 _ (by omega)))) rfl ?_; clear hF a; intro a hF
    refine sv hF (v_assign rfl) rfl ?_; clear hF a; intro a hF
    refine WL_nil (hK _ _ ?_)
    clear hK K
    replace hF := hF.sub _ (c_ 6 rfl (c_ 1 rfl (c_ 5 rfl (n_))))
    refine W_reg rfl (fun K hK => ?_)
    refine sv hF (v_move rfl) rfl ?_; clear hF a; intro a hF
    refine sv hF (v_quoN (n := 2) rfl rfl (by omega) (fits_u32 (by omega))) rfl ?_; clear hF a; intro a hF
    refine sv hF (v_assign rfl) rfl ?_; clear hF a; intro a hF
    refine WL_nil (hK _ _ ?_)
    clear hK K
    replace hF := hF.sub _ (c_ 1 rfl (c_ 6 rfl (c_ 5 rfl (n_))))
    exact ⟨m / 2, by omega, k + 1, 2 * x, _, hF.sub _ (c_ 1 rfl (c_ 5 rfl (c_ 6 rfl n_))), rfl, hds.symm, hxs, hst.symm, by omega⟩
  ·
   skip
   try simp only [dcl] at hc1
   obtain rfl : m = 0 := by omega
   have hfin : Y % 2 ^ k = Y := by
    have h9 := Nat.div_add_mod Y (2 ^ k)
    rw [← hm, Nat.mul_zero, Nat.zero_add] at h9
    exact h9
   rw [hfin] at ho
   refine W_exit rfl ?_
   refine W_sr rfl (fun K hK => ?_)
   refine sv2 hF (v_move rfl) (v_assign rfl) rfl rfl ?_; clear hF a; intro a hF
   refine WL_nil (hK _ _ ?_)
   clear hK K
   replace hF := hF.sub _ (c_ 4 rfl (c_ 21 rfl (c_ 1 rfl (c_ 5 rfl (c_ 6 rfl (n_))))))
   refine W_ret ?_
   refine ⟨_, _, hF, rfl, ?_⟩
   exact ⟨by rw [ho], hS⟩

set_option maxRecDepth 100000 in
set_option maxHeartbeats 1000000 in
theorem rpow_ok (B n : Nat) (w : World) (hI : Inv FDx B w) (hn : n ≤ 63) : Ret Try.prog 124 [.int .i64 (n : Int)] w fun v w' => v = .int .u64 ((2 ^ n : Nat) : Int) ∧ St FDx B w w'  := by
 refine enter 13 [(0, .int .i64 (n : Int))] 2 Try.func124 rfl rfl rfl rfl rfl ?_; intro a hF
 have hS := St.refl hI
 refine W_sr rfl (fun K hK => ?_)
 refine sv hF (v_assign rfl) rfl ?_; clear hF a; intro a hF
 refine WL_nil (hK _ _ ?_)
 clear hK K
 refine W_sr rfl (fun K hK => ?_)
 refine sv hF (v_assign rfl) rfl ?_; clear hF a; intro a hF
 refine WL_nil (hK _ _ ?_)
 clear hK K
 refine W_seq ?_
 refine W_sr rfl (fun K hK => ?_)
 refine sv hF (v_assign rfl) rfl ?_; clear hF a; intro a hF
 refine WL_nil (hK _ _ ?_)
 clear hK K
 refine W_block ?_
 refine W_loop (fun m a w1 => ∃ i x : Nat, Fr 13 [(0, .int .i64 (n : Int)), (3, .int .u64 (x : Int)), (4, .int .i64 (i : Int))] a ∧ w = w1 ∧ i ≤ n ∧ x = 2 ^ i ∧ m = n - i) (n) ?_ ?_
 ·
  skip
  exact ⟨0, 1, hF.sub _ (c_ 0 rfl (c_ 3 rfl (c_ 4 rfl n_))), rfl, by omega, by simp, by omega⟩
 ·
  skip
  clear hF
  rintro m a _ ⟨i, x, hF, rfl, hi, hx, rfl⟩
  refine W_seq ?_
  refine W_sr rfl (fun K hK => ?_)
  refine sv2 hF (v_move rfl) (v_move rfl) rfl rfl ?_; clear hF a; intro a hF
  refine sv hF (v_lss rfl rfl) rfl ?_; clear hF a; intro a hF
  refine WL_nil (hK _ _ ?_)
  clear hK K
  replace hF := hF.sub _ (c_ 7 rfl (c_ 0 rfl (c_ 3 rfl (c_ 4 rfl (n_)))))
  refine W_if hF rfl (fun hc1 => ?_) (fun hc1 => ?_)
  ·
   skip
   try simp only [dcl] at hc1
   have hx2 : x < 9223372036854775808 := by
    rw [hx]; exact Nat.lt_of_lt_of_le (Nat.pow_lt_pow_right (a := 2) (by decide) (show i < 63 by omega)) (by decide)
   refine W_skip ?_
   refine W_seq ?_
   refine W_block ?_
   refine W_reg rfl (fun K hK => ?_)
   refine sv hF (v_move rfl) rfl ?_; clear hF a; intro a hF
   refine sv hF ((v_mul rfl rfl).as (congrArg _ (wrap_u64 _ (by omega)))) rfl ?_; clear hF a; intro a hF
   refine sv hF (v_assign rfl) rfl ?_; clear hF a; intro a hF
   refine WL_nil (hK _ _ ?_)
   clear hK K
   replace hF := hF.sub _ (c_ 3 rfl (c_ 0 rfl (c_ 4 rfl (n_))))
   refine W_reg rfl (fun K hK => ?_)
   refine sv hF (v_move rfl) rfl ?_; clear hF a; intro a hF
   refine sv hF (v_addI rfl rfl (by omega)) rfl ?_; clear hF a; intro a hF
   refine sv hF (v_assign rfl) rfl ?_; clear hF a; intro a hF
   refine WL_nil (hK _ _ ?_)
   clear hK K
   exact ⟨n - (i + 1), by omega, i + 1, 2 * x, hF.sub _ (c_ 0 rfl (c_ 3 rfl (c_ 4 rfl n_))), rfl, by omega, by rw [hx, Nat.pow_succ, Nat.mul_comm], rfl⟩
  ·
   skip
   try simp only [dcl] at hc1
   obtain rfl : i = n := by omega
   refine W_exit rfl ?_
   refine W_sr rfl (fun K hK => ?_)
   refine sv2 hF (v_move rfl) (v_assign rfl) rfl rfl ?_; clear hF a; intro a hF
   refine WL_nil (hK _ _ ?_)
   clear hK K
   replace hF := hF.sub _ (c_ 2 rfl (c_ 12 rfl (c_ 0 rfl (c_ 3 rfl (c_ 4 rfl (n_))))))
   refine W_ret ?_
   refine ⟨_, _, hF, rfl, ?_⟩
   exact ⟨by rw [hx], hS⟩

set_option maxRecDepth 100000 in
set_option maxHeartbeats 1000000 in
theorem rMod_ok (B A p : Nat) (w : World) (hI : Inv FDx B w) (hA : A < 18446744073709551616) (hp : p < 4294967296) : Ret Try.prog 117 [.int .u64 (A : Int), .int .u32 (p : Int)] w fun v w' => v = .int .u32 (Px.mod A p : Int) ∧ St FDx B w w'  := by
 refine enter 27 [(0, .int .u64 (A : Int)), (1, .int .u32 (p : Int))] 4 Try.func117 rfl rfl rfl rfl rfl ?_; intro a hF
 have hS := St.refl hI
 refine W_sr rfl (fun K hK => ?_)
 refine sv hF (v_assign rfl) rfl ?_; clear hF a; intro a hF
 refine WL_nil (hK _ _ ?_)
 clear hK K
 refine W_seq ?_
 refine W_sr rfl (fun K hK => ?_)
 refine sv hF (v_move rfl) rfl ?_; clear hF a; intro a hF
 refine sv hF (v_eql rfl rfl) rfl ?_; clear hF a; intro a hF
 refine WL_nil (hK _ _ ?_)
 clear hK K
 replace hF := hF.sub _ (c_ 7 rfl (c_ 4 rfl (c_ 0 rfl (c_ 1 rfl (n_)))))
 refine W_if hF rfl (fun hc1 => ?_) (fun hc1 => ?_)
 ·
  skip
  try simp only [dcl] at hc1
  obtain rfl : p = 0 := by omega
  refine W_sr rfl (fun K hK => ?_)
  refine sv hF (v_assign rfl) rfl ?_; clear hF a; intro a hF
  refine WL_nil (hK _ _ ?_)
  clear hK K
  replace hF := hF.sub _ (c_ 4 rfl (c_ 0 rfl (c_ 1 rfl (n_))))
  refine W_ret ?_
  refine ⟨_, _, hF, rfl, ?_⟩
  exact ⟨by rw [Px.mod_zero]; rfl, hS⟩
 ·
  skip
  try simp only [dcl] at hc1
  have hp0 : p ≠ 0 := by omega
  have hl := log2_lt hp0 (k := 32) hp
  refine W_skip ?_
  refine W_sr rfl (fun K hK => ?_)
  refine sv hF (v_move rfl) rfl ?_; clear hF a; intro a hF
  refine sv hF (v_cv Try.underlying24 Try.underlying115 rfl (wrap_u64 _ (by omega))) rfl ?_; clear hF a; intro a hF
  refine sc hF rfl rfl rfl en123 rfl (rDeg_ok B p _ hS.inv (by omega)) ?_; clear hF a; intro v w' a hv hF
  obtain ⟨rfl, hS'⟩ := hv
  replace hS := hS.trans hS'
  clear hS'
  refine sv hF (v_assign rfl) rfl ?_; clear hF a; intro a hF
  refine WL_nil (hK _ _ ?_)
  clear hK K
  replace hF := hF.sub _ (c_ 5 rfl (c_ 4 rfl (c_ 0 rfl (c_ 1 rfl (n_)))))
  rw [deg_pos hp0] at hF
  refine W_seq ?_
  refine W_block ?_
  refine W_loop (fun m a w1 => Fr 27 [(0, .int .u64 (m : Int)), (1, .int .u32 (p : Int)), (5, .int .i64 (Nat.log2 p : Int))] a ∧ St FDx B w w1 ∧ m < 18446744073709551616 ∧ Px.mod m p = Px.mod A p) (A) ?_ ?_
  ·
   skip
   exact ⟨hF.sub _ (c_ 0 rfl (c_ 1 rfl (c_ 5 rfl n_))), hS, hA, rfl⟩
  ·
   skip
   clear hF
   clear hS
   rintro m a w1 ⟨hF, hS, hm, he⟩
   refine W_seq ?_
   refine W_sr rfl (fun K hK => ?_)
   refine sv hF (v_move rfl) rfl ?_; clear hF a; intro a hF
   refine sc hF rfl rfl rfl en123 rfl (rDeg_ok B m _ hS.inv hm) ?_; clear hF a; intro v w' a hv hF
   obtain ⟨rfl, hS'⟩ := hv
   replace hS := hS.trans hS'
   clear hS'
   refine sv hF (v_move rfl) rfl ?_; clear hF a; intro a hF
   refine sv hF (v_geq rfl rfl) rfl ?_; clear hF a; intro a hF
   refine WL_nil (hK _ _ ?_)
   clear hK K
   replace hF := hF.sub _ (c_ 14 rfl (c_ 0 rfl (c_ 1 rfl (c_ 5 rfl (n_)))))
   refine W_if hF rfl (fun hc2 => ?_) (fun hc2 => ?_)
   ·
    skip
    try simp only [dcl] at hc2
    have hm0 : m ≠ 0 := by rintro rfl; rw [deg_zero] at hc2; omega
    rw [deg_pos hm0] at hc2
    have hlt := xor_shift_lt hp0 hm0 (by omega)
    have hl2 := log2_lt hm0 (k := 64) hm
    have hmx := mod_xor_shift m p (Nat.log2 m - Nat.log2 p)
    have hsh := shl_lt64 hp0 hp (j := Nat.log2 m) (by omega) (by omega)
    have hge := (Px.hb_log hm0).1
    refine W_skip ?_
    refine W_block ?_
    refine W_reg rfl (fun K hK => ?_)
    refine sv2 hF (v_move rfl) (v_move rfl) rfl rfl ?_; clear hF a; intro a hF
    refine sv hF (v_cv Try.underlying24 Try.underlying115 rfl (wrap_u64 _ (by omega))) rfl ?_; clear hF a; intro a hF
    refine sv hF (v_move rfl) rfl ?_; clear hF a; intro a hF
    refine sc hF rfl rfl rfl en123 rfl (rDeg_ok B m _ hS.inv hm) ?_; clear hF a; intro v w' a hv hF
    obtain ⟨rfl, hS'⟩ := hv
    replace hS := hS.trans hS'
    clear hS'
    refine sv hF (v_move rfl) rfl ?_; clear hF a; intro a hF
    rw [deg_pos hm0] at hF
    refine sv hF (v_subN rfl rfl (by omega) (by omega)) rfl ?_; clear hF a; intro a hF
    refine sc hF rfl rfl rfl en124 rfl (rpow_ok B (Nat.log2 m - Nat.log2 p) _ hS.inv (by omega)) ?_; clear hF a; intro v w' a hv hF
    obtain ⟨rfl, hS'⟩ := hv
    replace hS := hS.trans hS'
    clear hS'
    refine sv hF ((v_mul rfl rfl).as (congrArg _ (mul_shift hsh))) rfl ?_; clear hF a; intro a hF
    refine sv hF (v_xorN rfl rfl (fits_u64 hm) (fits_u64 (by rw [Nat.shiftLeft_eq]; exact hsh))) rfl ?_; clear hF a; intro a hF
    refine sv hF (v_assign rfl) rfl ?_; clear hF a; intro a hF
    refine WL_nil (hK _ _ ?_)
    clear hK K
    replace hF := hF.sub _ (c_ 0 rfl (c_ 1 rfl (c_ 5 rfl (n_))))
    exact ⟨_, Nat.lt_of_lt_of_le hlt hge, hF.sub _ (c_ 0 rfl (c_ 1 rfl (c_ 5 rfl n_))), hS, by omega, by rw [hmx, he]⟩
   ·
    skip
    try simp only [dcl] at hc2
    have hfin := mod_low (A := m) hp0 (by omega)
    have hlt := mod_lt32 m hp
    rw [hfin] at hlt he
    refine W_exit rfl ?_
    refine W_sr rfl (fun K hK => ?_)
    refine sv hF (v_move rfl) rfl ?_; clear hF a; intro a hF
    refine sv hF (v_cv Try.underlying115 Try.underlying24 rfl (wrap_u32 _ (by omega))) rfl ?_; clear hF a; intro a hF
    refine sv hF (v_assign rfl) rfl ?_; clear hF a; intro a hF
    refine WL_nil (hK _ _ ?_)
    clear hK K
    replace hF := hF.sub _ (c_ 4 rfl (c_ 26 rfl (c_ 25 rfl (c_ 0 rfl (c_ 1 rfl (c_ 5 rfl (n_)))))))
    refine W_ret ?_
    refine ⟨_, _, hF, rfl, ?_⟩
    exact ⟨by rw [he], hS⟩

set_option maxRecDepth 100000 in
set_option maxHeartbeats 1000000 in
theorem rMulMod_ok (B x y p : Nat) (w : World) (hI : Inv FDx B w) (hx : x < 4294967296) (hy : y < 4294967296) (hp : p < 4294967296) : Ret Try.prog 109 [.int .u32 (x : Int), .int .u32 (y : Int), .int .u32 (p : Int)] w fun v w' => v = .int .u32 (Px.mulMod x y p : Int) ∧ St FDx B w w'  := by
 refine enter 12 [(0, .int .u32 (x : Int)), (1, .int .u32 (y : Int)), (2, .int .u32 (p : Int))] 6 Try.func109 rfl rfl rfl rfl rfl ?_; intro a hF
 have hS := St.refl hI
 refine W_sr rfl (fun K hK => ?_)
 refine sv hF (v_assign rfl) rfl ?_; clear hF a; intro a hF
 refine WL_nil (hK _ _ ?_)
 clear hK K
 refine W_sr rfl (fun K hK => ?_)
 refine sv2 hF (v_move rfl) (v_move rfl) rfl rfl ?_; clear hF a; intro a hF
 refine sc hF rfl rfl rfl en118 rfl (rMul_ok B x y _ hS.inv hx hy) ?_; clear hF a; intro v w' a hv hF
 obtain ⟨rfl, hS'⟩ := hv
 replace hS := hS.trans hS'
 clear hS'
 refine sv hF (v_move rfl) rfl ?_; clear hF a; intro a hF
 refine sc hF rfl rfl rfl en117 rfl (rMod_ok B (Px.mul x y) p _ hS.inv (mul_lt64 hx hy) hp) ?_; clear hF a; intro v w' a hv hF
 obtain ⟨rfl, hS'⟩ := hv
 replace hS := hS.trans hS'
 clear hS'
 refine sv hF (v_assign rfl) rfl ?_; clear hF a; intro a hF
 refine WL_nil (hK _ _ ?_)
 clear hK K
 replace hF := hF.sub _ (c_ 6 rfl (n_))
 refine W_ret ?_
 refine ⟨_, _, hF, rfl, ?_⟩
 exact ⟨rfl, hS⟩

set_option maxRecDepth 100000 in
set_option maxHeartbeats 1000000 in
theorem rPower_ok (B X n p : Nat) (w : World) (hI : Inv FDx B w) (hX : X < 4294967296) (hn : n < 18446744073709551616) (hp : p < 4294967296) : Ret Try.prog 105 [.int .u32 (X : Int), .int .u64 (n : Int), .int .u32 (p : Int)] w fun v w' => v = .int .u32 (powB X p (Px.mod 1 p) n : Int) ∧ St FDx B w w'  := by
 refine enter 26 [(0, .int .u32 (X : Int)), (1, .int .u64 (n : Int)), (2, .int .u32 (p : Int))] 6 Try.func105 rfl rfl rfl rfl rfl ?_; intro a hF
 have hS := St.refl hI
 refine W_sr rfl (fun K hK => ?_)
 refine sv hF (v_assign rfl) rfl ?_; clear hF a; intro a hF
 refine WL_nil (hK _ _ ?_)
 clear hK K
 refine W_sr rfl (fun K hK => ?_)
 refine sv hF (v_move rfl) rfl ?_; clear hF a; intro a hF
 refine sc hF rfl rfl rfl en117 rfl (rMod_ok B 1 p _ hS.inv (by decide) hp) ?_; clear hF a; intro v w' a hv hF
 obtain ⟨rfl, hS'⟩ := hv
 replace hS := hS.trans hS'
 clear hS'
 refine sv hF (v_assign rfl) rfl ?_; clear hF a; intro a hF
 refine WL_nil (hK _ _ ?_)
 clear hK K
 replace hF := hF.sub _ (c_ 7 rfl (c_ 6 rfl (c_ 0 rfl (c_ 1 rfl (c_ 2 rfl (n_))))))
 refine W_seq ?_
 refine W_block ?_
 refine W_loop (fun m a w1 => ∃ x o : Nat, Fr 26 [(0, .int .u32 (x : Int)), (1, .int .u64 (m : Int)), (2, .int .u32 (p : Int)), (7, .int .u32 (o : Int))] a ∧ St FDx B w w1 ∧ powB x p o m = powB X p (Px.mod 1 p) n ∧ x < 4294967296 ∧ o < 4294967296 ∧ m < 18446744073709551616) (n) ?_ ?_
 ·
  skip
  exact ⟨_, _, hF.sub _ (c_ 0 rfl (c_ 1 rfl (c_ 2 rfl (c_ 7 rfl n_)))), hS, rfl, hX, mod_lt32 1 hp, hn⟩
 ·
  skip
  clear hF
  clear hS
  rintro m a w1 ⟨x, o, hF, hS, hg, hx, ho, hm⟩
  refine W_seq ?_
  refine W_sr rfl (fun K hK => ?_)
  refine sv hF (v_move rfl) rfl ?_; clear hF a; intro a hF
  refine sv hF (v_gtr rfl rfl) rfl ?_; clear hF a; intro a hF
  refine WL_nil (hK _ _ ?_)
  clear hK K
  replace hF := hF.sub _ (c_ 11 rfl (c_ 0 rfl (c_ 1 rfl (c_ 2 rfl (c_ 7 rfl (n_))))))
  refine W_if hF rfl (fun hc1 => ?_) (fun hc1 => ?_)
  ·
   skip
   try simp only [dcl] at hc1
   refine W_skip ?_
   refine W_block ?_
   refine W_seq ?_
   refine W_sr rfl (fun K hK => ?_)
   refine sv hF (v_move rfl) rfl ?_; clear hF a; intro a hF
   refine sv hF (v_remI rfl rfl (by omega) (by omega)) rfl ?_; clear hF a; intro a hF
   refine sv hF (v_eql rfl rfl) rfl ?_; clear hF a; intro a hF
   refine WL_nil (hK _ _ ?_)
   clear hK K
   replace hF := hF.sub _ (c_ 14 rfl (c_ 0 rfl (c_ 1 rfl (c_ 2 rfl (c_ 7 rfl (n_))))))
   refine W_if hF rfl (fun hc2 => ?_) (fun hc2 => ?_)
   ·
    skip
    try simp only [dcl] at hc2
    rw [powB_odd x p o (by omega)] at hg
    refine W_reg rfl (fun K hK => ?_)
    refine sv3 hF (v_move rfl) (v_move rfl) (v_move rfl) rfl rfl rfl ?_; clear hF a; intro a hF
    refine sc hF rfl rfl rfl en109 rfl (rMulMod_ok B o x p _ hS.inv ho hx hp) ?_; clear hF a; intro v w' a hv hF
    obtain ⟨rfl, hS'⟩ := hv
    replace hS := hS.trans hS'
    clear hS'
    refine sv hF (v_assign rfl) rfl ?_; clear hF a; intro a hF
    refine WL_nil (hK _ _ ?_)
    clear hK K
    replace hF := hF.sub _ (c_ 7 rfl (c_ 0 rfl (c_ 1 rfl (c_ 2 rfl (n_)))))
    refine W_sr rfl (fun K hK => ?_)
    refine sv3 hF (v_move rfl) (v_move rfl) (v_move rfl) rfl rfl rfl ?_; clear hF a; intro a hF
    refine sc hF rfl rfl rfl en109 rfl (rMulMod_ok B x x p _ hS.inv hx hx hp) ?_; clear hF a; intro v w' a hv hF
    obtain ⟨rfl, hS'⟩ := hv
    replace hS := hS.trans hS'
    clear hS'
    refine sv hF (v_assign rfl) rfl ?_; clear hF a; intro a hF
    refine WL_nil (hK _ _ ?_)
    clear hK K
    replace hF := hF.sub _ (c_ 0 rfl (c_ 7 rfl (c_ 1 rfl (c_ 2 rfl (n_)))))
    refine W_reg rfl (fun K hK => ?_)
    refine sv hF (v_move rfl) rfl ?_; clear hF a; intro a hF
    refine sv hF (v_quoN (n := 2) rfl rfl (by omega) (fits_u64 (by omega))) rfl ?_; clear hF a; intro a hF
    refine sv hF (v_assign rfl) rfl ?_; clear hF a; intro a hF
    refine WL_nil (hK _ _ ?_)
    clear hK K
    replace hF := hF.sub _ (c_ 1 rfl (c_ 0 rfl (c_ 7 rfl (c_ 2 rfl (n_)))))
    exact ⟨m / 2, by omega, _, _, hF.sub _ (c_ 0 rfl (c_ 1 rfl (c_ 2 rfl (c_ 7 rfl n_)))), hS, hg, mod_lt32 _ hp, by first | exact mod_lt32 _ hp | exact ho, by omega⟩
   ·
    skip
    try simp only [dcl] at hc2
    rw [powB_even x p o (by omega) (by omega)] at hg
    refine W_skip ?_
    refine W_sr rfl (fun K hK => ?_)
    refine sv3 hF (v_move rfl) (v_move rfl) (v_move rfl) rfl rfl rfl ?_; clear hF a; intro a hF
    refine sc hF rfl rfl rfl en109 rfl (rMulMod_ok B x x p _ hS.inv hx hx hp) ?_; clear hF a; intro v w' a hv hF
    obtain ⟨rfl, hS'⟩ := hv
    replace hS := hS.trans hS'
    clear hS'
    refine sv hF (v_assign rfl) rfl ?_; clear hF a; intro a hF
    refine WL_nil (hK _ _ ?_)
    clear hK K
    replace hF := hF.sub _ (c_ 0 rfl (c_ 1 rfl (c_ 2 rfl (c_ 7 rfl (n_)))))
    refine W_reg rfl (fun K hK => ?_)
    refine sv hF (v_move rfl) rfl ?_; clear hF a; intro a hF
    refine sv hF (v_quoN (n := 2) rfl rfl (by omega) (fits_u64 (by omega))) rfl ?_; clear hF a; intro a hF
    refine sv hF (v_assign rfl) rfl ?_; clear hF a; intro a hF
    refine WL_nil (hK _ _ ?_)
    clear hK K
    replace hF := hF.sub _ (c_ 1 rfl (c_ 0 rfl (c_ 2 rfl (c_ 7 rfl (n_)))))
    exact ⟨m / 2, by omega, _, _, hF.sub _ (c_ 0 rfl (c_ 1 rfl (c_ 2 rfl (c_ 7 rfl n_)))), hS, hg, mod_lt32 _ hp, by first | exact mod_lt32 _ hp | exact ho, by omega⟩
  ·
   skip
   try simp only [dcl] at hc1
   obtain rfl : m = 0 := by omega
   rw [powB_zero] at hg
   refine W_exit rfl ?_
   refine W_sr rfl (fun K hK => ?_)
   refine sv2 hF (v_move rfl) (v_assign rfl) rfl rfl ?_; clear hF a; intro a hF
   refine WL_nil (hK _ _ ?_)
   clear hK K
   replace hF := hF.sub _ (c_ 6 rfl (c_ 25 rfl (c_ 0 rfl (c_ 1 rfl (c_ 2 rfl (c_ 7 rfl (n_)))))))
   refine W_ret ?_
   refine ⟨_, _, hF, rfl, ?_⟩
   exact ⟨by rw [hg], hS⟩

end Go.Proofs.Ytaeljbdpjiciaaa

/- The walks of gambrelref02: what the document asks of a field. -/
set_option linter.unusedVariables false
set_option linter.unusedSimpArgs false
namespace Go.Proofs.Ytaeljbdpjiciaaa
open Go Go.Gam


namespace FxFRef02
theorem en54 : Ent Try.prog 54 := ent Try.func54 (by kernel_rfl) (by kernel_rfl)
theorem en55 : Ent Try.prog 55 := ent Try.func55 (by kernel_rfl) (by kernel_rfl)
theorem en78 : Ent Try.prog 78 := ent Try.func78 (by kernel_rfl) (by kernel_rfl)
theorem en82 : Ent Try.prog 82 := ent Try.func82 (by kernel_rfl) (by kernel_rfl)
theorem en85 : Ent Try.prog 85 := ent Try.func85 (by kernel_rfl) (by kernel_rfl)
theorem en105 : Ent Try.prog 105 := ent Try.func105 (by kernel_rfl) (by kernel_rfl)
theorem en109 : Ent Try.prog 109 := ent Try.func109 (by kernel_rfl) (by kernel_rfl)
end FxFRef02
open FxFRef02

set_option maxRecDepth 100000 in
set_option maxHeartbeats 1000000 in
theorem rsize_ok (wb : Nat) (w : World) (hwb : wb ≤ 16) : Ret Try.prog 85 [.int .i64 (wb : Int)] w fun v w' => v = .int .i64 ((2 ^ wb : Nat) : Int) ∧ w' = w := by
 refine enter 13 [(0, .int .i64 (wb : Int))] 2 Try.func85 rfl rfl rfl rfl rfl ?_; intro a hF
 refine W_sr rfl (fun K hK => ?_)
 refine sv hF (v_assign rfl) rfl ?_; clear hF a; intro a hF
 refine WL_nil (hK _ _ ?_)
 clear hK K
 refine W_sr rfl (fun K hK => ?_)
 refine sv hF (v_assign rfl) rfl ?_; clear hF a; intro a hF
 refine WL_nil (hK _ _ ?_)
 clear hK K
 refine W_seq ?_
 refine W_sr rfl (fun K hK => ?_)
 refine sv hF (v_assign rfl) rfl ?_; clear hF a; intro a hF
 refine WL_nil (hK _ _ ?_)
 clear hK K
 refine W_block ?_
 refine W_loop (fun m a w1 => ∃ i : Nat, Fr 13 [(0, .int .i64 (wb : Int)), (3, .int .i64 ((2 ^ i : Nat) : Int)), (4, .int .i64 (i : Int))] a ∧ w = w1 ∧ i ≤ wb ∧ m + i = wb) (wb) ?_ ?_
 ·
  skip
  exact ⟨0, hF.sub _ (c_ 0 rfl (c_ 3 rfl (c_ 4 rfl n_))), rfl, by omega, by omega⟩
 ·
  skip
  clear hF
  rintro m a _ ⟨i, hF, rfl, hi, hm⟩
  refine W_seq ?_
  refine W_sr rfl (fun K hK => ?_)
  refine sv2 hF (v_move rfl) (v_move rfl) rfl rfl ?_; clear hF a; intro a hF
  refine sv hF (v_lss rfl rfl) rfl ?_; clear hF a; intro a hF
  refine WL_nil (hK _ _ ?_)
  clear hK K
  replace hF := hF.sub _ (c_ 7 rfl (c_ 0 rfl (c_ 3 rfl (c_ 4 rfl (n_)))))
  refine W_if hF rfl (fun hc1 => ?_) (fun hc1 => ?_)
  ·
   skip
   try simp only [dcl] at hc1
   refine W_skip ?_
   refine W_seq ?_
   refine W_block ?_
   have h16 := two_pow16 (d := i) (by omega)
   have hs : 2 ^ (i + 1) = 2 * 2 ^ i := by rw [Nat.pow_succ, Nat.mul_comm]
   refine W_reg rfl (fun K hK => ?_)
   refine sv hF (v_move rfl) rfl ?_; clear hF a; intro a hF
   refine sv hF ((v_mulI rfl rfl (by omega)).as (congrArg _ (show (2 : Int) * ((2 ^ i : Nat) : Int) = ((2 ^ (i + 1) : Nat) : Int) by omega))) rfl ?_; clear hF a; intro a hF
   refine sv hF (v_assign rfl) rfl ?_; clear hF a; intro a hF
   refine WL_nil (hK _ _ ?_)
   clear hK K
   replace hF := hF.sub _ (c_ 3 rfl (c_ 0 rfl (c_ 4 rfl (n_))))
   refine W_reg rfl (fun K hK => ?_)
   refine sv hF (v_move rfl) rfl ?_; clear hF a; intro a hF
   refine sv hF (v_addI rfl rfl (by omega)) rfl ?_; clear hF a; intro a hF
   refine sv hF (v_assign rfl) rfl ?_; clear hF a; intro a hF
   refine WL_nil (hK _ _ ?_)
   clear hK K
   exact ⟨m - 1, by omega, i + 1, hF.sub _ (c_ 0 rfl (c_ 3 rfl (c_ 4 rfl n_))), rfl, by omega, by omega⟩
  ·
   skip
   try simp only [dcl] at hc1
   refine W_exit rfl ?_
   refine W_sr rfl (fun K hK => ?_)
   refine sv2 hF (v_move rfl) (v_assign rfl) rfl rfl ?_; clear hF a; intro a hF
   refine WL_nil (hK _ _ ?_)
   clear hK K
   replace hF := hF.sub _ (c_ 2 rfl (c_ 12 rfl (c_ 0 rfl (c_ 3 rfl (c_ 4 rfl (n_))))))
   refine W_ret ?_
   refine ⟨_, _, hF, rfl, ?_⟩
   obtain rfl : i = wb := by omega
   exact ⟨rfl, rfl⟩

set_option maxRecDepth 100000 in
set_option maxHeartbeats 1000000 in
theorem rIn_ok (B wb p : Nat) (ia : Int) (w : World) (hI : Inv FDx B w) (hwb : wb ≤ 16) : Ret Try.prog 54 [.int .i64 (wb : Int), .int .i64 ia] w fun v w' => v = .bool (inF (some (wb, p)) ia) ∧ w' = w := by
 refine enter 13 [(0, .int .i64 (wb : Int)), (1, .int .i64 ia)] 4 Try.func54 rfl rfl rfl rfl rfl ?_; intro a hF
 refine W_sr rfl (fun K hK => ?_)
 refine sv hF (v_assign rfl) rfl ?_; clear hF a; intro a hF
 refine WL_nil (hK _ _ ?_)
 clear hK K
 refine W_sr rfl (fun K hK => ?_)
 refine sv hF (v_move rfl) rfl ?_; clear hF a; intro a hF
 refine sb hF (v_geq rfl rfl) rfl ?_ ?_
 ·
  clear hF a; intro hc1 a hF
  try simp only [dcl] at hc1
  refine sv hF (v_move rfl) rfl ?_; clear hF a; intro a hF
  refine svg hF rfl ?_
  refine sv hF (v_move rfl) rfl ?_; clear hF a; intro a hF
  refine svg hF rfl ?_
  refine sv hF (v_move rfl) rfl ?_; clear hF a; intro a hF
  refine svg hF rfl ?_
  refine sc hF rfl rfl rfl en85 rfl (rsize_ok wb _ (by omega)) ?_; clear hF a; intro v w' a hv hF
  obtain ⟨rfl, rfl⟩ := hv
  skip
  refine svg hF rfl ?_
  refine sv hF (v_lss rfl rfl) rfl ?_; clear hF a; intro a hF
  refine sv2 hF (v_pickT rfl rfl) (v_assign rfl) rfl rfl ?_; clear hF a; intro a hF
  refine WL_nil (hK _ _ ?_)
  clear hK K
  replace hF := hF.sub _ (c_ 4 rfl (n_))
  refine W_ret ?_
  refine ⟨_, _, hF, rfl, ?_⟩
  refine ⟨congrArg _ ?_, rfl⟩
  rw [Bool.eq_iff_iff, inF_some, decide_eq_true_iff]; omega
 ·
  clear hF a; intro hc1 a hF
  try simp only [dcl] at hc1
  refine sv hF (v_move rfl) rfl ?_; clear hF a; intro a hF
  refine svn hF rfl rfl rfl ?_; clear hF a; intro a hF
  refine svn hF rfl rfl rfl ?_; clear hF a; intro a hF
  refine svn hF rfl rfl rfl ?_; clear hF a; intro a hF
  refine svn hF rfl rfl rfl ?_; clear hF a; intro a hF
  refine sv2 hF (v_pickF rfl rfl) (v_assign rfl) rfl rfl ?_; clear hF a; intro a hF
  refine WL_nil (hK _ _ ?_)
  clear hK K
  replace hF := hF.sub _ (c_ 4 rfl (n_))
  refine W_ret ?_
  refine ⟨_, _, hF, rfl, ?_⟩
  refine ⟨congrArg _ (Eq.symm ?_), rfl⟩
  rw [Bool.eq_false_iff, Ne, inF_some]; omega

set_option maxRecDepth 100000 in
set_option maxHeartbeats 1000000 in
theorem rMul_gf (B wb p : Nat) (ia ib : Int) (w : World) (hI : Inv FDx B w) (hp : Prm wb p) : Ret Try.prog 82 [.int .i64 (wb : Int), .int .u32 (p : Int), .int .i64 ia, .int .i64 ib] w fun v w' => v = .int .i64 (gmul (some (wb, p)) ia ib) ∧ St FDx B w w' := by
 refine enter 26 [(0, .int .i64 (wb : Int)), (1, .int .u32 (p : Int)), (2, .int .i64 ia), (3, .int .i64 ib)] 8 Try.func82 rfl rfl rfl rfl rfl ?_; intro a hF
 have hS := St.refl hI
 have hsz := hp.size
 have hwb : wb ≤ 16 := by have := hp.w; omega
 have hplt := hp.lt
 refine W_sr rfl (fun K hK => ?_)
 refine sv hF (v_assign rfl) rfl ?_; clear hF a; intro a hF
 refine WL_nil (hK _ _ ?_)
 clear hK K
 refine W_seq ?_
 refine W_sr rfl (fun K hK => ?_)
 refine sv2 hF (v_move rfl) (v_move rfl) rfl rfl ?_; clear hF a; intro a hF
 refine sc hF rfl rfl rfl en54 rfl (rIn_ok B wb p ia _ hS.inv (by omega)) ?_; clear hF a; intro v w' a hv hF
 obtain ⟨rfl, hw⟩ := hv
 obtain rfl := hw.symm
 have hS' := St.refl hS.inv
 replace hS := hS.trans hS'
 clear hS'
 refine sb hF (v_not rfl) rfl ?_ ?_
 ·
  clear hF a; intro hc1 a hF
  try simp only [dcl] at hc1
  refine sv hF (v_move rfl) rfl ?_; clear hF a; intro a hF
  refine svn hF rfl rfl rfl ?_; clear hF a; intro a hF
  refine svn hF rfl rfl rfl ?_; clear hF a; intro a hF
  refine svn hF rfl rfl rfl ?_; clear hF a; intro a hF
  refine svn hF rfl rfl rfl ?_; clear hF a; intro a hF
  refine sv hF (v_pickT rfl rfl) rfl ?_; clear hF a; intro a hF
  refine WL_nil (hK _ _ ?_)
  clear hK K
  replace hF := hF.sub _ (c_ 18 rfl (c_ 8 rfl (c_ 1 rfl (c_ 2 rfl (c_ 3 rfl (n_))))))
  refine W_ifT hF rfl ?_
  refine W_sr rfl (fun K hK => ?_)
  refine sv hF (v_assign rfl) rfl ?_; clear hF a; intro a hF
  refine WL_nil (hK _ _ ?_)
  clear hK K
  replace hF := hF.sub _ (c_ 8 rfl (c_ 1 rfl (c_ 2 rfl (c_ 3 rfl (n_)))))
  refine W_ret ?_
  refine ⟨_, _, hF, rfl, ?_⟩
  exact ⟨by rw [gmul_out (by rw [all2, hc1]; rfl)], hS⟩
 ·
  clear hF a; intro hc1 a hF
  try simp only [dcl] at hc1
  refine sv hF (v_move rfl) rfl ?_; clear hF a; intro a hF
  refine svg hF rfl ?_
  refine sv hF (v_move rfl) rfl ?_; clear hF a; intro a hF
  refine svg hF rfl ?_
  refine sv hF (v_move rfl) rfl ?_; clear hF a; intro a hF
  refine svg hF rfl ?_
  refine sc hF rfl rfl rfl en54 rfl (rIn_ok B wb p ib _ hS.inv (by omega)) ?_; clear hF a; intro v w' a hv hF
  obtain ⟨rfl, hw⟩ := hv
  obtain rfl := hw.symm
  have hS' := St.refl hS.inv
  replace hS := hS.trans hS'
  clear hS'
  refine svg hF rfl ?_
  refine sv hF (v_not rfl) rfl ?_; clear hF a; intro a hF
  refine sv hF (v_pickF rfl rfl) rfl ?_; clear hF a; intro a hF
  refine WL_nil (hK _ _ ?_)
  clear hK K
  replace hF := hF.sub _ (c_ 18 rfl (c_ 8 rfl (c_ 1 rfl (c_ 2 rfl (c_ 3 rfl (n_))))))
  refine W_if hF rfl (fun hc2 => ?_) (fun hc2 => ?_)
  ·
   skip
   try simp only [dcl] at hc2
   refine W_sr rfl (fun K hK => ?_)
   refine sv hF (v_assign rfl) rfl ?_; clear hF a; intro a hF
   refine WL_nil (hK _ _ ?_)
   clear hK K
   replace hF := hF.sub _ (c_ 8 rfl (c_ 1 rfl (c_ 2 rfl (c_ 3 rfl (n_)))))
   refine W_ret ?_
   refine ⟨_, _, hF, rfl, ?_⟩
   exact ⟨by rw [gmul_out (by rw [all2, hc2]; simp)], hS⟩
  ·
   skip
   try simp only [dcl] at hc2
   refine W_skip ?_
   obtain ⟨x, rfl, hx⟩ := inF_nat hc1
   obtain ⟨y, rfl, hy⟩ := inF_nat hc2
   have hml := hp.mulMod_lt x y
   refine W_sr rfl (fun K hK => ?_)
   refine sv hF (v_move rfl) rfl ?_; clear hF a; intro a hF
   refine sv hF (v_cv Try.underlying3 Try.underlying24 rfl (wrap_u32 _ (by omega))) rfl ?_; clear hF a; intro a hF
   refine sv hF (v_move rfl) rfl ?_; clear hF a; intro a hF
   refine sv hF (v_cv Try.underlying3 Try.underlying24 rfl (wrap_u32 _ (by omega))) rfl ?_; clear hF a; intro a hF
   refine sv hF (v_move rfl) rfl ?_; clear hF a; intro a hF
   refine sc hF rfl rfl rfl en109 rfl (rMulMod_ok B x y p _ hS.inv (by omega) (by omega) (by omega)) ?_; clear hF a; intro v w' a hv hF
   obtain ⟨rfl, hS'⟩ := hv
   replace hS := hS.trans hS'
   clear hS'
   refine sv hF (v_cv Try.underlying24 Try.underlying3 rfl (wrap_i64 _ (by omega))) rfl ?_; clear hF a; intro a hF
   refine sv hF (v_assign rfl) rfl ?_; clear hF a; intro a hF
   refine WL_nil (hK _ _ ?_)
   clear hK K
   replace hF := hF.sub _ (c_ 8 rfl (n_))
   refine W_ret ?_
   refine ⟨_, _, hF, rfl, ?_⟩
   exact ⟨by rw [gmul_in hx hy], hS⟩

set_option maxRecDepth 100000 in
set_option maxHeartbeats 1000000 in
theorem rPow_gf (B wb p : Nat) (ia n : Int) (w : World) (hI : Inv FDx B w) (hp : Prm wb p) (hn : -9223372036854775808 ≤ n ∧ n < 9223372036854775808) : Ret Try.prog 78 [.int .i64 (wb : Int), .int .u32 (p : Int), .int .i64 ia, .int .i64 n] w fun v w' => v = .int .i64 (gpow (some (wb, p)) ia n) ∧ St FDx B w w' := by
 refine enter 24 [(0, .int .i64 (wb : Int)), (1, .int .u32 (p : Int)), (2, .int .i64 ia), (3, .int .i64 n)] 8 Try.func78 rfl rfl rfl rfl rfl ?_; intro a hF
 have hS := St.refl hI
 have hsz := hp.size
 have hwb : wb ≤ 16 := by have := hp.w; omega
 have hplt := hp.lt
 refine W_sr rfl (fun K hK => ?_)
 refine sv hF (v_assign rfl) rfl ?_; clear hF a; intro a hF
 refine WL_nil (hK _ _ ?_)
 clear hK K
 refine W_seq ?_
 refine W_sr rfl (fun K hK => ?_)
 refine sv2 hF (v_move rfl) (v_move rfl) rfl rfl ?_; clear hF a; intro a hF
 refine sc hF rfl rfl rfl en54 rfl (rIn_ok B wb p ia _ hS.inv (by omega)) ?_; clear hF a; intro v w' a hv hF
 obtain ⟨rfl, hw⟩ := hv
 obtain rfl := hw.symm
 have hS' := St.refl hS.inv
 replace hS := hS.trans hS'
 clear hS'
 refine sb hF (v_not rfl) rfl ?_ ?_
 ·
  clear hF a; intro hc1 a hF
  try simp only [dcl] at hc1
  refine sv hF (v_move rfl) rfl ?_; clear hF a; intro a hF
  refine svn hF rfl rfl rfl ?_; clear hF a; intro a hF
  refine svn hF rfl rfl rfl ?_; clear hF a; intro a hF
  refine sv hF (v_pickT rfl rfl) rfl ?_; clear hF a; intro a hF
  refine WL_nil (hK _ _ ?_)
  clear hK K
  replace hF := hF.sub _ (c_ 16 rfl (c_ 8 rfl (c_ 1 rfl (c_ 2 rfl (c_ 3 rfl (n_))))))
  refine W_ifT hF rfl ?_
  refine W_sr rfl (fun K hK => ?_)
  refine sv hF (v_assign rfl) rfl ?_; clear hF a; intro a hF
  refine WL_nil (hK _ _ ?_)
  clear hK K
  replace hF := hF.sub _ (c_ 8 rfl (c_ 1 rfl (c_ 2 rfl (c_ 3 rfl (n_)))))
  refine W_ret ?_
  refine ⟨_, _, hF, rfl, ?_⟩
  exact ⟨by rw [gpow_out (.inl hc1)], hS⟩
 ·
  clear hF a; intro hc1 a hF
  try simp only [dcl] at hc1
  refine sv hF (v_move rfl) rfl ?_; clear hF a; intro a hF
  refine svg hF rfl ?_
  refine sv hF (v_move rfl) rfl ?_; clear hF a; intro a hF
  refine svg hF rfl ?_
  refine sv hF (v_lss rfl rfl) rfl ?_; clear hF a; intro a hF
  refine sv hF (v_pickF rfl rfl) rfl ?_; clear hF a; intro a hF
  refine WL_nil (hK _ _ ?_)
  clear hK K
  replace hF := hF.sub _ (c_ 16 rfl (c_ 8 rfl (c_ 1 rfl (c_ 2 rfl (c_ 3 rfl (n_))))))
  refine W_if hF rfl (fun hc2 => ?_) (fun hc2 => ?_)
  ·
   skip
   try simp only [dcl] at hc2
   refine W_sr rfl (fun K hK => ?_)
   refine sv hF (v_assign rfl) rfl ?_; clear hF a; intro a hF
   refine WL_nil (hK _ _ ?_)
   clear hK K
   replace hF := hF.sub _ (c_ 8 rfl (c_ 1 rfl (c_ 2 rfl (c_ 3 rfl (n_)))))
   refine W_ret ?_
   refine ⟨_, _, hF, rfl, ?_⟩
   exact ⟨by rw [gpow_out (.inr (by omega))], hS⟩
  ·
   skip
   try simp only [dcl] at hc2
   refine W_skip ?_
   obtain ⟨x, rfl, hx⟩ := inF_nat hc1
   obtain ⟨m, rfl⟩ : ∃ m : Nat, n = (m : Int) := ⟨n.toNat, by omega⟩
   have hml := hp.pow_lt x m
   refine W_sr rfl (fun K hK => ?_)
   refine sv hF (v_move rfl) rfl ?_; clear hF a; intro a hF
   refine sv hF (v_cv Try.underlying3 Try.underlying24 rfl (wrap_u32 _ (by omega))) rfl ?_; clear hF a; intro a hF
   refine sv hF (v_move rfl) rfl ?_; clear hF a; intro a hF
   refine sv hF (v_cv Try.underlying3 Try.underlying115 rfl (wrap_u64 _ (by omega))) rfl ?_; clear hF a; intro a hF
   refine sv hF (v_move rfl) rfl ?_; clear hF a; intro a hF
   refine sc hF rfl rfl rfl en105 rfl (rPower_ok B x m p _ hS.inv (by omega) (by omega) (by omega)) ?_; clear hF a; intro v w' a hv hF
   obtain ⟨rfl, hS'⟩ := hv
   replace hS := hS.trans hS'
   clear hS'
   rw [powB_one] at hF
   refine sv hF (v_cv Try.underlying24 Try.underlying3 rfl (wrap_i64 _ (by omega))) rfl ?_; clear hF a; intro a hF
   refine sv hF (v_assign rfl) rfl ?_; clear hF a; intro a hF
   refine WL_nil (hK _ _ ?_)
   clear hK K
   replace hF := hF.sub _ (c_ 8 rfl (n_))
   refine W_ret ?_
   refine ⟨_, _, hF, rfl, ?_⟩
   exact ⟨by rw [gpow_in hx], hS⟩

set_option maxRecDepth 100000 in
set_option maxHeartbeats 1000000 in
theorem rInv_gf (B wb p : Nat) (ia : Int) (w : World) (hI : Inv FDx B w) (hp : Prm wb p) : Ret Try.prog 55 [.int .i64 (wb : Int), .int .u32 (p : Int), .int .i64 ia] w fun v w' => v = .tuple #[.int .i64 (ginv (some (wb, p)) ia), .bool (ginvb (some (wb, p)) ia)] ∧ St FDx B w w' := by
 refine enter2 23 [(0, .int .i64 (wb : Int)), (1, .int .u32 (p : Int)), (2, .int .i64 ia)] 6 7 Try.func55 rfl rfl rfl rfl rfl ?_; intro a hF
 have hS := St.refl hI
 have hsz := hp.size
 have hwb : wb ≤ 16 := by have := hp.w; omega
 have hplt := hp.lt
 refine W_sr rfl (fun K hK => ?_)
 refine sv2 hF (v_assign rfl) (v_assign rfl) rfl rfl ?_; clear hF a; intro a hF
 refine WL_nil (hK _ _ ?_)
 clear hK K
 refine W_seq ?_
 refine W_sr rfl (fun K hK => ?_)
 refine sv2 hF (v_move rfl) (v_move rfl) rfl rfl ?_; clear hF a; intro a hF
 refine sc hF rfl rfl rfl en54 rfl (rIn_ok B wb p ia _ hS.inv (by omega)) ?_; clear hF a; intro v w' a hv hF
 obtain ⟨rfl, hw⟩ := hv
 obtain rfl := hw.symm
 have hS' := St.refl hS.inv
 replace hS := hS.trans hS'
 clear hS'
 refine sb hF (v_not rfl) rfl ?_ ?_
 ·
  clear hF a; intro hc1 a hF
  try simp only [dcl] at hc1
  refine sv hF (v_move rfl) rfl ?_; clear hF a; intro a hF
  refine svn hF rfl rfl rfl ?_; clear hF a; intro a hF
  refine svn hF rfl rfl rfl ?_; clear hF a; intro a hF
  refine sv hF (v_pickT rfl rfl) rfl ?_; clear hF a; intro a hF
  refine WL_nil (hK _ _ ?_)
  clear hK K
  replace hF := hF.sub _ (c_ 15 rfl (c_ 7 rfl (c_ 6 rfl (c_ 0 rfl (c_ 1 rfl (c_ 2 rfl (n_)))))))
  refine W_ifT hF rfl ?_
  refine W_sr rfl (fun K hK => ?_)
  refine sv2 hF (v_assign rfl) (v_assign rfl) rfl rfl ?_; clear hF a; intro a hF
  refine WL_nil (hK _ _ ?_)
  clear hK K
  replace hF := hF.sub _ (c_ 7 rfl (c_ 6 rfl (c_ 0 rfl (c_ 1 rfl (c_ 2 rfl (n_))))))
  refine W_ret ?_
  refine ⟨_, _, _, hF, rfl, rfl, ?_⟩
  exact ⟨by rw [ginv_out (.inl hc1), ginvb_out (.inl hc1)], hS⟩
 ·
  clear hF a; intro hc1 a hF
  try simp only [dcl] at hc1
  refine sv hF (v_move rfl) rfl ?_; clear hF a; intro a hF
  refine svg hF rfl ?_
  refine sv hF (v_move rfl) rfl ?_; clear hF a; intro a hF
  refine svg hF rfl ?_
  refine sv hF (v_eql rfl rfl) rfl ?_; clear hF a; intro a hF
  refine sv hF (v_pickF rfl rfl) rfl ?_; clear hF a; intro a hF
  refine WL_nil (hK _ _ ?_)
  clear hK K
  replace hF := hF.sub _ (c_ 15 rfl (c_ 7 rfl (c_ 6 rfl (c_ 0 rfl (c_ 1 rfl (c_ 2 rfl (n_)))))))
  refine W_if hF rfl (fun hc2 => ?_) (fun hc2 => ?_)
  ·
   skip
   try simp only [dcl] at hc2
   refine W_sr rfl (fun K hK => ?_)
   refine sv2 hF (v_assign rfl) (v_assign rfl) rfl rfl ?_; clear hF a; intro a hF
   refine WL_nil (hK _ _ ?_)
   clear hK K
   replace hF := hF.sub _ (c_ 7 rfl (c_ 6 rfl (c_ 0 rfl (c_ 1 rfl (c_ 2 rfl (n_))))))
   refine W_ret ?_
   refine ⟨_, _, _, hF, rfl, rfl, ?_⟩
   exact ⟨by rw [ginv_out (.inr (by omega)), ginvb_out (.inr (by omega))], hS⟩
  ·
   skip
   try simp only [dcl] at hc2
   refine W_skip ?_
   refine W_sr rfl (fun K hK => ?_)
   refine sv4 hF (v_move rfl) (v_move rfl) (v_move rfl) (v_move rfl) rfl rfl rfl rfl ?_; clear hF a; intro a hF
   refine sc hF rfl rfl rfl en85 rfl (rsize_ok wb _ (by omega)) ?_; clear hF a; intro v w' a hv hF
   obtain ⟨rfl, hw⟩ := hv
   obtain rfl := hw.symm
   have hS' := St.refl hS.inv
   replace hS := hS.trans hS'
   clear hS'
   refine sv hF (v_subI rfl rfl (by omega)) rfl ?_; clear hF a; intro a hF
   refine sc hF rfl rfl rfl en78 rfl (rPow_gf B wb p ia _ _ hS.inv hp (by omega)) ?_; clear hF a; intro v w' a hv hF
   obtain ⟨rfl, hS'⟩ := hv
   replace hS := hS.trans hS'
   clear hS'
   refine sv2 hF (v_assign rfl) (v_assign rfl) rfl rfl ?_; clear hF a; intro a hF
   refine WL_nil (hK _ _ ?_)
   clear hK K
   replace hF := hF.sub _ (c_ 7 rfl (c_ 6 rfl (n_)))
   refine W_ret ?_
   refine ⟨_, _, _, hF, rfl, rfl, ?_⟩
   exact ⟨by rw [ginv_in hc1 (by omega), ginvb_in hc1 (by omega)]; rfl, hS⟩

set_option maxRecDepth 100000 in
set_option maxHeartbeats 1000000 in
theorem rDiv_gf (B wb p : Nat) (ia ib : Int) (w : World) (hI : Inv FDx B w) (hp : Prm wb p) : Ret Try.prog 83 [.int .i64 (wb : Int), .int .u32 (p : Int), .int .i64 ia, .int .i64 ib] w fun v w' => v = .tuple #[.int .i64 (gdiv (some (wb, p)) ia ib), .bool (gdivb (some (wb, p)) ia ib)] ∧ St FDx B w w' := by
 refine enter2 32 [(0, .int .i64 (wb : Int)), (1, .int .u32 (p : Int)), (2, .int .i64 ia), (3, .int .i64 ib)] 8 9 Try.func83 rfl rfl rfl rfl rfl ?_; intro a hF
 have hS := St.refl hI
 have hsz := hp.size
 have hwb : wb ≤ 16 := by have := hp.w; omega
 have hplt := hp.lt
 refine W_sr rfl (fun K hK => ?_)
 refine sv2 hF (v_assign rfl) (v_assign rfl) rfl rfl ?_; clear hF a; intro a hF
 refine WL_nil (hK _ _ ?_)
 clear hK K
 refine W_sr rfl (fun K hK => ?_)
 refine sv3 hF (v_move rfl) (v_move rfl) (v_move rfl) rfl rfl rfl ?_; clear hF a; intro a hF
 refine sc hF rfl rfl rfl en55 rfl (rInv_gf B wb p ib _ hS.inv hp) ?_; clear hF a; intro v w' a hv hF
 obtain ⟨rfl, hS'⟩ := hv
 replace hS := hS.trans hS'
 clear hS'
 refine sv5 hF (v_move rfl) (v_ext rfl rfl) (v_ext rfl rfl) (v_assign rfl) (v_assign rfl) rfl rfl rfl rfl rfl ?_; clear hF a; intro a hF
 refine WL_nil (hK _ _ ?_)
 clear hK K
 replace hF := hF.sub _ (c_ 11 rfl (c_ 10 rfl (c_ 9 rfl (c_ 8 rfl (c_ 0 rfl (c_ 1 rfl (c_ 2 rfl (n_))))))))
 refine W_seq ?_
 refine W_sr rfl (fun K hK => ?_)
 refine sv hF (v_move rfl) rfl ?_; clear hF a; intro a hF
 refine sb hF (v_not rfl) rfl ?_ ?_
 ·
  clear hF a; intro hc1 a hF
  try simp only [dcl] at hc1
  refine sv hF (v_move rfl) rfl ?_; clear hF a; intro a hF
  refine svn hF rfl rfl rfl ?_; clear hF a; intro a hF
  refine svn hF rfl rfl rfl ?_; clear hF a; intro a hF
  refine svn hF rfl rfl rfl ?_; clear hF a; intro a hF
  refine svn hF rfl rfl rfl ?_; clear hF a; intro a hF
  refine sv hF (v_pickT rfl rfl) rfl ?_; clear hF a; intro a hF
  refine WL_nil (hK _ _ ?_)
  clear hK K
  replace hF := hF.sub _ (c_ 26 rfl (c_ 10 rfl (c_ 9 rfl (c_ 8 rfl (c_ 0 rfl (c_ 1 rfl (c_ 2 rfl (n_))))))))
  refine W_ifT hF rfl ?_
  refine W_sr rfl (fun K hK => ?_)
  refine sv2 hF (v_assign rfl) (v_assign rfl) rfl rfl ?_; clear hF a; intro a hF
  refine WL_nil (hK _ _ ?_)
  clear hK K
  replace hF := hF.sub _ (c_ 9 rfl (c_ 8 rfl (c_ 10 rfl (c_ 0 rfl (c_ 1 rfl (c_ 2 rfl (n_)))))))
  refine W_ret ?_
  refine ⟨_, _, _, hF, rfl, rfl, ?_⟩
  have hd : gdivb (some (wb, p)) ia ib = false := by rw [gdivb_eq, hc1]; rfl
  exact ⟨by rw [gdiv_out hd, hd], hS⟩
 ·
  clear hF a; intro hc1 a hF
  try simp only [dcl] at hc1
  refine sv hF (v_move rfl) rfl ?_; clear hF a; intro a hF
  refine svg hF rfl ?_
  refine sv hF (v_move rfl) rfl ?_; clear hF a; intro a hF
  refine svg hF rfl ?_
  refine sv hF (v_move rfl) rfl ?_; clear hF a; intro a hF
  refine svg hF rfl ?_
  refine sc hF rfl rfl rfl en54 rfl (rIn_ok B wb p ia _ hS.inv (by omega)) ?_; clear hF a; intro v w' a hv hF
  obtain ⟨rfl, hw⟩ := hv
  obtain rfl := hw.symm
  have hS' := St.refl hS.inv
  replace hS := hS.trans hS'
  clear hS'
  refine svg hF rfl ?_
  refine sv hF (v_not rfl) rfl ?_; clear hF a; intro a hF
  refine sv hF (v_pickF rfl rfl) rfl ?_; clear hF a; intro a hF
  refine WL_nil (hK _ _ ?_)
  clear hK K
  replace hF := hF.sub _ (c_ 26 rfl (c_ 10 rfl (c_ 9 rfl (c_ 8 rfl (c_ 0 rfl (c_ 1 rfl (c_ 2 rfl (n_))))))))
  refine W_if hF rfl (fun hc2 => ?_) (fun hc2 => ?_)
  ·
   skip
   try simp only [dcl] at hc2
   refine W_sr rfl (fun K hK => ?_)
   refine sv2 hF (v_assign rfl) (v_assign rfl) rfl rfl ?_; clear hF a; intro a hF
   refine WL_nil (hK _ _ ?_)
   clear hK K
   replace hF := hF.sub _ (c_ 9 rfl (c_ 8 rfl (c_ 10 rfl (c_ 0 rfl (c_ 1 rfl (c_ 2 rfl (n_)))))))
   refine W_ret ?_
   refine ⟨_, _, _, hF, rfl, rfl, ?_⟩
   have hd : gdivb (some (wb, p)) ia ib = false := by rw [gdivb_eq, hc2]; simp
   exact ⟨by rw [gdiv_out hd, hd], hS⟩
  ·
   skip
   try simp only [dcl] at hc2
   refine W_skip ?_
   refine W_sr rfl (fun K hK => ?_)
   refine sv4 hF (v_move rfl) (v_move rfl) (v_move rfl) (v_move rfl) rfl rfl rfl rfl ?_; clear hF a; intro a hF
   refine sc hF rfl rfl rfl en82 rfl (rMul_gf B wb p ia _ _ hS.inv hp) ?_; clear hF a; intro v w' a hv hF
   obtain ⟨rfl, hS'⟩ := hv
   replace hS := hS.trans hS'
   clear hS'
   refine sv2 hF (v_assign rfl) (v_assign rfl) rfl rfl ?_; clear hF a; intro a hF
   refine WL_nil (hK _ _ ?_)
   clear hK K
   replace hF := hF.sub _ (c_ 9 rfl (c_ 8 rfl (n_)))
   refine W_ret ?_
   refine ⟨_, _, _, hF, rfl, rfl, ?_⟩
   have hd : gdivb (some (wb, p)) ia ib = true := by rw [gdivb_eq, hc1, hc2]; rfl
   exact ⟨by rw [gdiv_in hd, hd], hS⟩

noncomputable def knownB (W : Int) (p : Nat) : Bool := (newF W p).isSome

end Go.Proofs.Ytaeljbdpjiciaaa

/- The walks of gambrelref04: what the document asks of matrices. -/
set_option linter.unusedVariables false
set_option linter.unusedSimpArgs false
namespace Go.Proofs.Ytaeljbdpjiciaaa
open Go Go.Gam


namespace FxFRef04
theorem en54 : Ent Try.prog 54 := ent Try.func54 (by kernel_rfl) (by kernel_rfl)
theorem hmix : Try.prog.follows .mixedOrders = true := by kernel_rfl
theorem sc3 : Scalar Try.prog 3 := ⟨_, Try.underlying3, by simp, by simp⟩
theorem sc37 : Scalar Try.prog 37 := ⟨_, Try.underlying37, by simp, by simp⟩
theorem sl27 : Sl Try.prog 27 37 (.slice none 0 0) 24 := sl_of Try.underlying27 rfl (by kernel_rfl)
theorem sl37 : Sl Try.prog 37 3 (.int .i64 0) 8 := sl_of Try.underlying37 rfl (by kernel_rfl)
end FxFRef04
open FxFRef04

set_option maxRecDepth 100000 in
set_option maxHeartbeats 1000000 in
theorem rMay_ok (B M wb p : Nat) (hp : Prm wb p) (pmt : Option Addr) (cmt : Nat) (mt : Mtx) (w : World) (hI : Inv FDx B w) (hAmt : Mat FDx B M w pmt cmt mt) (hlmt : mt.length ≤ maxLen) (hbmt : ∀ r ∈ mt, r.length ≤ maxLen) : Ret Try.prog 80 [.int .i64 (wb : Int), .slice pmt mt.length cmt] w fun v w' => v = .bool (mayM (some (wb, p)) mt) ∧ St FDx B w w' := by
 refine enter 64 [(0, .int .i64 (wb : Int)), (1, .slice pmt mt.length cmt)] 4 Try.func80 rfl rfl rfl rfl rfl ?_; intro a hF
 have hS := St.refl hI
 have hl2 := hlmt
 simp only [maxLen] at hl2
 have hwb : wb ≤ 16 := by have := hp.w; omega
 refine W_sr rfl (fun K hK => ?_)
 refine sv hF (v_assign rfl) rfl ?_; clear hF a; intro a hF
 refine WL_nil (hK _ _ ?_)
 clear hK K
 refine W_seq ?_
 refine W_sr rfl (fun K hK => ?_)
 refine sv hF (v_move rfl) rfl ?_; clear hF a; intro a hF
 refine sv hF (v_lenS rfl sl27 rfl) rfl ?_; clear hF a; intro a hF
 refine sb hF (v_lss rfl rfl) rfl ?_ ?_
 ·
  clear hF a; intro hc1 a hF
  try simp only [dcl] at hc1
  refine sv hF (v_move rfl) rfl ?_; clear hF a; intro a hF
  refine svn hF rfl rfl rfl ?_; clear hF a; intro a hF
  refine svn hF rfl rfl rfl ?_; clear hF a; intro a hF
  refine svn hF rfl rfl rfl ?_; clear hF a; intro a hF
  refine sv2 hF (v_pickT rfl rfl) (v_move rfl) rfl rfl ?_; clear hF a; intro a hF
  refine svn hF rfl rfl rfl ?_; clear hF a; intro a hF
  refine svn hF rfl rfl rfl ?_; clear hF a; intro a hF
  refine svn hF rfl rfl rfl ?_; clear hF a; intro a hF
  refine svn hF rfl rfl rfl ?_; clear hF a; intro a hF
  refine svn hF rfl rfl rfl ?_; clear hF a; intro a hF
  refine sv2 hF (v_pickT rfl rfl) (v_move rfl) rfl rfl ?_; clear hF a; intro a hF
  refine svn hF rfl rfl rfl ?_; clear hF a; intro a hF
  refine svn hF rfl rfl rfl ?_; clear hF a; intro a hF
  refine svn hF rfl rfl rfl ?_; clear hF a; intro a hF
  refine svn hF rfl rfl rfl ?_; clear hF a; intro a hF
  refine svn hF rfl rfl rfl ?_; clear hF a; intro a hF
  refine sv hF (v_pickT rfl rfl) rfl ?_; clear hF a; intro a hF
  refine WL_nil (hK _ _ ?_)
  clear hK K
  replace hF := hF.sub _ (c_ 28 rfl (c_ 4 rfl (c_ 0 rfl (c_ 1 rfl (n_)))))
  refine W_ifT hF rfl ?_
  refine W_sr rfl (fun K hK => ?_)
  refine sv hF (v_assign rfl) rfl ?_; clear hF a; intro a hF
  refine WL_nil (hK _ _ ?_)
  clear hK K
  replace hF := hF.sub _ (c_ 4 rfl (c_ 0 rfl (c_ 1 rfl (n_))))
  refine W_ret ?_
  refine ⟨_, _, hF, rfl, ?_⟩
  rw [mayM_no (fun h => by omega)]
  exact ⟨rfl, hS⟩
 ·
  clear hF a; intro hc1 a hF
  try simp only [dcl] at hc1
  refine sv hF (v_move rfl) rfl ?_; clear hF a; intro a hF
  refine svg hF rfl ?_
  refine sv hF (v_move rfl) rfl ?_; clear hF a; intro a hF
  refine svg hF rfl ?_
  refine sv hF (v_lenS rfl sl27 rfl) rfl ?_; clear hF a; intro a hF
  refine svg hF rfl ?_
  refine sb hF (v_gtr rfl rfl) rfl ?_ ?_
  ·
   clear hF a; intro hc2 a hF
   try simp only [dcl] at hc2
   refine sv2 hF (v_pickF rfl rfl) (v_move rfl) rfl rfl ?_; clear hF a; intro a hF
   refine svn hF rfl rfl rfl ?_; clear hF a; intro a hF
   refine svn hF rfl rfl rfl ?_; clear hF a; intro a hF
   refine svn hF rfl rfl rfl ?_; clear hF a; intro a hF
   refine svn hF rfl rfl rfl ?_; clear hF a; intro a hF
   refine svn hF rfl rfl rfl ?_; clear hF a; intro a hF
   refine sv2 hF (v_pickT rfl rfl) (v_move rfl) rfl rfl ?_; clear hF a; intro a hF
   refine svn hF rfl rfl rfl ?_; clear hF a; intro a hF
   refine svn hF rfl rfl rfl ?_; clear hF a; intro a hF
   refine svn hF rfl rfl rfl ?_; clear hF a; intro a hF
   refine svn hF rfl rfl rfl ?_; clear hF a; intro a hF
   refine svn hF rfl rfl rfl ?_; clear hF a; intro a hF
   refine sv hF (v_pickT rfl rfl) rfl ?_; clear hF a; intro a hF
   refine WL_nil (hK _ _ ?_)
   clear hK K
   replace hF := hF.sub _ (c_ 28 rfl (c_ 4 rfl (c_ 0 rfl (c_ 1 rfl (n_)))))
   refine W_ifT hF rfl ?_
   refine W_sr rfl (fun K hK => ?_)
   refine sv hF (v_assign rfl) rfl ?_; clear hF a; intro a hF
   refine WL_nil (hK _ _ ?_)
   clear hK K
   replace hF := hF.sub _ (c_ 4 rfl (c_ 0 rfl (c_ 1 rfl (n_))))
   refine W_ret ?_
   refine ⟨_, _, hF, rfl, ?_⟩
   rw [mayM_no (fun h => by omega)]
   exact ⟨rfl, hS⟩
  ·
   clear hF a; intro hc2 a hF
   try simp only [dcl] at hc2
   refine sv2 hF (v_pickF rfl rfl) (v_move rfl) rfl rfl ?_; clear hF a; intro a hF
   refine svg hF rfl ?_
   refine sv hF (v_move rfl) rfl ?_; clear hF a; intro a hF
   refine svg hF rfl ?_
   obtain ⟨gmt, omt, rfl⟩ := hAmt.at1 (by omega)
   obtain ⟨r0mt, h0mt⟩ : ∃ r, mt[0]? = some r := ⟨_, List.getElem?_eq_getElem (by omega)⟩
   obtain ⟨p0mt, c0mt, hk0mt, hrow0mt, -⟩ := hAmt.row2 h0mt
   have hwmt := wid_at h0mt
   refine sv hF (v_ixS sl27 rfl rfl (by decide) (by omega)) rfl ?_; clear hF a; intro a hF
   refine svg hF rfl ?_
   refine sv hF (v_load sc37 rfl hk0mt.c) rfl ?_; clear hF a; intro a hF
   refine svg hF rfl ?_
   refine sv hF (v_lenS rfl sl37 rfl) rfl ?_; clear hF a; intro a hF
   refine svg hF rfl ?_
   refine sb hF (v_lss rfl rfl) rfl ?_ ?_
   ·
    clear hF a; intro hc3 a hF
    try simp only [dcl] at hc3
    refine sv2 hF (v_pickF rfl rfl) (v_move rfl) rfl rfl ?_; clear hF a; intro a hF
    refine svn hF rfl rfl rfl ?_; clear hF a; intro a hF
    refine svn hF rfl rfl rfl ?_; clear hF a; intro a hF
    refine svn hF rfl rfl rfl ?_; clear hF a; intro a hF
    refine svn hF rfl rfl rfl ?_; clear hF a; intro a hF
    refine svn hF rfl rfl rfl ?_; clear hF a; intro a hF
    refine sv hF (v_pickT rfl rfl) rfl ?_; clear hF a; intro a hF
    refine WL_nil (hK _ _ ?_)
    clear hK K
    replace hF := hF.sub _ (c_ 28 rfl (c_ 4 rfl (c_ 0 rfl (c_ 1 rfl (n_)))))
    refine W_ifT hF rfl ?_
    refine W_sr rfl (fun K hK => ?_)
    refine sv hF (v_assign rfl) rfl ?_; clear hF a; intro a hF
    refine WL_nil (hK _ _ ?_)
    clear hK K
    replace hF := hF.sub _ (c_ 4 rfl (c_ 0 rfl (c_ 1 rfl (n_))))
    refine W_ret ?_
    refine ⟨_, _, hF, rfl, ?_⟩
    rw [mayM_no (fun h => by omega)]
    exact ⟨rfl, hS⟩
   ·
    clear hF a; intro hc3 a hF
    try simp only [dcl] at hc3
    refine sv2 hF (v_pickF rfl rfl) (v_move rfl) rfl rfl ?_; clear hF a; intro a hF
    refine svg hF rfl ?_
    refine sv hF (v_move rfl) rfl ?_; clear hF a; intro a hF
    refine svg hF rfl ?_
    refine sv hF (v_ixS sl27 rfl rfl (by decide) (by omega)) rfl ?_; clear hF a; intro a hF
    refine svg hF rfl ?_
    refine sv hF (v_load sc37 rfl hk0mt.c) rfl ?_; clear hF a; intro a hF
    refine svg hF rfl ?_
    refine sv hF (v_lenS rfl sl37 rfl) rfl ?_; clear hF a; intro a hF
    refine svg hF rfl ?_
    refine sv hF (v_gtr rfl rfl) rfl ?_; clear hF a; intro a hF
    refine sv hF (v_pickF rfl rfl) rfl ?_; clear hF a; intro a hF
    refine WL_nil (hK _ _ ?_)
    clear hK K
    replace hF := hF.sub _ (c_ 28 rfl (c_ 4 rfl (c_ 0 rfl (c_ 1 rfl (n_)))))
    refine W_if hF rfl (fun hc4 => ?_) (fun hc4 => ?_)
    ·
     skip
     try simp only [dcl] at hc4
     refine W_sr rfl (fun K hK => ?_)
     refine sv hF (v_assign rfl) rfl ?_; clear hF a; intro a hF
     refine WL_nil (hK _ _ ?_)
     clear hK K
     replace hF := hF.sub _ (c_ 4 rfl (c_ 0 rfl (c_ 1 rfl (n_))))
     refine W_ret ?_
     refine ⟨_, _, hF, rfl, ?_⟩
     rw [mayM_no (fun h => by omega)]
     exact ⟨rfl, hS⟩
    ·
     skip
     try simp only [dcl] at hc4
     refine W_skip ?_
     refine W_seq ?_
     refine W_sr rfl (fun K hK => ?_)
     refine sv hF (v_assign rfl) rfl ?_; clear hF a; intro a hF
     refine WL_nil (hK _ _ ?_)
     clear hK K
     replace hF := hF.sub _ (c_ 5 rfl (c_ 4 rfl (c_ 0 rfl (c_ 1 rfl (n_)))))
     refine W_block ?_
     refine W_loop (fun m a w1 => ∃ (i : Nat), Fr 64 [(0, .int .i64 (wb : Int)), (1, .slice (some ⟨gmt, omt, none⟩) mt.length cmt), (5, .int .i64 (i : Int))] a ∧ (St FDx B w w1) ∧ (Mat FDx B M w1 (some ⟨gmt, omt, none⟩) cmt mt) ∧ (i ≤ mt.length) ∧ (∀ r ∈ mt.take i, r.length = wid mt ∧ ∀ x ∈ r, inF (some (wb, p)) x = true) ∧ (m + i = mt.length)) (mt.length) ?_ ?_
     ·
      skip
      exact ⟨0, hF.sub _ (c_ 0 rfl (c_ 1 rfl (c_ 5 rfl (n_)))), hS, hAmt, by omega, by simp, by omega⟩
     ·
      skip
      clear hF
      clear hS hAmt hk0mt hrow0mt
      rintro m a w1 ⟨i, hF, hS, hAmt, hi, hn, hm⟩
      refine W_seq ?_
      refine W_sr rfl (fun K hK => ?_)
      refine sv2 hF (v_move rfl) (v_move rfl) rfl rfl ?_; clear hF a; intro a hF
      refine sv hF (v_lenS rfl sl27 rfl) rfl ?_; clear hF a; intro a hF
      refine sv hF (v_lss rfl rfl) rfl ?_; clear hF a; intro a hF
      refine WL_nil (hK _ _ ?_)
      clear hK K
      replace hF := hF.sub _ (c_ 32 rfl (c_ 0 rfl (c_ 1 rfl (c_ 5 rfl (n_)))))
      refine W_if hF rfl (fun hc5 => ?_) (fun hc5 => ?_)
      ·
       skip
       try simp only [dcl] at hc5
       have hlt : i < mt.length := by omega
       obtain ⟨r, hr⟩ : ∃ z, mt[i]? = some z := ⟨_, List.getElem?_eq_getElem (by omega)⟩
       obtain ⟨pr, cr, hkr, hrowr, -⟩ := hAmt.row2 hr
       obtain ⟨p0, c0, hk0, -⟩ := hAmt.row2 h0mt
       refine W_skip ?_
       refine W_seq ?_
       refine W_block ?_
       refine W_seq ?_
       refine W_sd (m := 10) rfl hmix hS.inv (fun K hK w1 hS' hh => ?_)
       replace hAmt := hAmt.st hS'
       replace hkr := hkr.st hS'
       replace hk0 := hk0.st hS'
       replace hrowr := hrowr.st hS'
       replace hS := hS.trans hS'
       clear hS'
       clear hh
       refine a_v (i := 0) rfl (by kernel_rfl) hF (fun w2 hx => v_move rfl) rfl ?_; clear hF a; intro a hF
       refine a_v (i := 1) rfl (by kernel_rfl) hF (fun w2 hx => v_move rfl) rfl ?_; clear hF a; intro a hF
       refine a_v (i := 2) rfl (by kernel_rfl) hF (fun w2 hx => v_ixS sl27 rfl rfl (by omega) (by omega)) rfl ?_; clear hF a; intro a hF
       refine a_v (i := 3) rfl (by kernel_rfl) hF (fun w2 hx => v_load sc37 rfl (by rw [toNat_c]; exact hkr.ld hx)) rfl ?_; clear hF a; intro a hF
       refine a_v (i := 4) rfl (by kernel_rfl) hF (fun w2 hx => v_lenS rfl sl37 rfl) rfl ?_; clear hF a; intro a hF
       refine a_v (i := 5) rfl (by kernel_rfl) hF (fun w2 hx => v_move rfl) rfl ?_; clear hF a; intro a hF
       refine a_v (i := 6) rfl (by kernel_rfl) hF (fun w2 hx => v_ixS sl27 rfl rfl (by decide) (by omega)) rfl ?_; clear hF a; intro a hF
       refine a_v (i := 7) rfl (by kernel_rfl) hF (fun w2 hx => v_load sc37 rfl (hk0.ld hx)) rfl ?_; clear hF a; intro a hF
       refine a_v (i := 8) rfl (by kernel_rfl) hF (fun w2 hx => v_lenS rfl sl37 rfl) rfl ?_; clear hF a; intro a hF
       refine a_v (i := 9) rfl (by kernel_rfl) hF (fun w2 hx => v_neq rfl rfl) rfl ?_; clear hF a; intro a hF
       refine a_done (by kernel_rfl) (hK _ _ ?_)
       clear hK K
       replace hF := hF.sub _ (c_ 44 rfl (c_ 0 rfl (c_ 1 rfl (c_ 5 rfl (n_)))))
       refine W_if hF rfl (fun hc6 => ?_) (fun hc6 => ?_)
       ·
        skip
        try simp only [dcl] at hc6
        refine W_sr rfl (fun K hK => ?_)
        refine sv hF (v_assign rfl) rfl ?_; clear hF a; intro a hF
        refine WL_nil (hK _ _ ?_)
        clear hK K
        replace hF := hF.sub _ (c_ 4 rfl (c_ 0 rfl (c_ 1 rfl (c_ 5 rfl (n_)))))
        refine W_ret ?_
        refine ⟨_, _, hF, rfl, ?_⟩
        rw [mayM_no (fun h => by have := (h.2.2.2.2 r (List.mem_of_getElem? hr)).1; omega)]
        exact ⟨rfl, hS⟩
       ·
        skip
        try simp only [dcl] at hc6
        refine W_skip ?_
        refine W_sr rfl (fun K hK => ?_)
        refine sv hF (v_assign rfl) rfl ?_; clear hF a; intro a hF
        refine WL_nil (hK _ _ ?_)
        clear hK K
        replace hF := hF.sub _ (c_ 6 rfl (c_ 0 rfl (c_ 1 rfl (c_ 5 rfl (n_)))))
        refine W_block ?_
        refine W_loop (fun m2 a w2 => ∃ (j : Nat), Fr 64 [(0, .int .i64 (wb : Int)), (1, .slice (some ⟨gmt, omt, none⟩) mt.length cmt), (5, .int .i64 (i : Int)), (6, .int .i64 (j : Int))] a ∧ (St FDx B w w2) ∧ (Mat FDx B M w2 (some ⟨gmt, omt, none⟩) cmt mt) ∧ (j ≤ r.length) ∧ (∀ x ∈ r.take j, inF (some (wb, p)) x = true) ∧ (m2 + j = r.length)) (r.length) ?_ ?_
        ·
         skip
         exact ⟨0, hF.sub _ (c_ 0 rfl (c_ 1 rfl (c_ 5 rfl (c_ 6 rfl (n_))))), hS, hAmt, by omega, by simp, by omega⟩
        ·
         skip
         clear hF
         clear hS hAmt hkr hrowr
         rintro m2 a w2 ⟨j, hF, hS, hAmt, hj, hn2, hm2⟩
         refine W_seq ?_
         obtain ⟨pr, cr, hkr, hrowr, -⟩ := hAmt.row2 hr
         refine W_sr rfl (fun K hK => ?_)
         refine sv3 hF (v_move rfl) (v_move rfl) (v_move rfl) rfl rfl rfl ?_; clear hF a; intro a hF
         refine sv hF (v_ixS sl27 rfl rfl (by omega) (by omega)) rfl ?_; clear hF a; intro a hF
         refine sv hF (v_load sc37 rfl (by rw [toNat_c]; exact hkr.c)) rfl ?_; clear hF a; intro a hF
         refine sv hF (v_lenS rfl sl37 rfl) rfl ?_; clear hF a; intro a hF
         refine sv hF (v_lss rfl rfl) rfl ?_; clear hF a; intro a hF
         refine WL_nil (hK _ _ ?_)
         clear hK K
         replace hF := hF.sub _ (c_ 51 rfl (c_ 0 rfl (c_ 1 rfl (c_ 5 rfl (c_ 6 rfl (n_))))))
         refine W_if hF rfl (fun hc7 => ?_) (fun hc7 => ?_)
         ·
          skip
          try simp only [dcl] at hc7
          have hlt2 : j < r.length := by omega
          obtain ⟨x, hx⟩ : ∃ z, r[j]? = some z := ⟨_, List.getElem?_eq_getElem (by omega)⟩
          obtain ⟨gxx, oxx, hgxx, hkx, -⟩ := hrowr.kat (zints_at hx)
          subst hgxx
          refine W_skip ?_
          refine W_seq ?_
          refine W_block ?_
          refine W_sr rfl (fun K hK => ?_)
          refine sv3 hF (v_move rfl) (v_move rfl) (v_move rfl) rfl rfl rfl ?_; clear hF a; intro a hF
          refine sv hF (v_ixS sl27 rfl rfl (by omega) (by omega)) rfl ?_; clear hF a; intro a hF
          refine sv hF (v_load sc37 rfl (by rw [toNat_c]; exact hkr.c)) rfl ?_; clear hF a; intro a hF
          refine sv hF (v_move rfl) rfl ?_; clear hF a; intro a hF
          refine sv hF (v_ixS sl37 rfl rfl (by omega) (by omega)) rfl ?_; clear hF a; intro a hF
          refine sv hF (v_load sc3 rfl (by rw [toNat_c]; exact hkx.c)) rfl ?_; clear hF a; intro a hF
          refine sc hF rfl rfl rfl en54 rfl (rIn_ok B wb p x _ hS.inv (by omega)) ?_; clear hF a; intro v w' a hv hF
          obtain ⟨rfl, hw⟩ := hv
          obtain rfl := hw.symm
          have hS' := St.refl hS.inv
          replace hAmt := hAmt.st hS'
          replace hS := hS.trans hS'
          clear hS'
          refine sv hF (v_not rfl) rfl ?_; clear hF a; intro a hF
          refine WL_nil (hK _ _ ?_)
          clear hK K
          replace hF := hF.sub _ (c_ 63 rfl (c_ 0 rfl (c_ 1 rfl (c_ 5 rfl (c_ 6 rfl (n_))))))
          refine W_if hF rfl (fun hc8 => ?_) (fun hc8 => ?_)
          ·
           skip
           try simp only [dcl] at hc8
           refine W_sr rfl (fun K hK => ?_)
           refine sv hF (v_assign rfl) rfl ?_; clear hF a; intro a hF
           refine WL_nil (hK _ _ ?_)
           clear hK K
           replace hF := hF.sub _ (c_ 4 rfl (c_ 0 rfl (c_ 1 rfl (c_ 5 rfl (c_ 6 rfl (n_))))))
           refine W_ret ?_
           refine ⟨_, _, hF, rfl, ?_⟩
           rw [mayM_no (fun h => by have := (h.2.2.2.2 r (List.mem_of_getElem? hr)).2 x (List.mem_of_getElem? hx); rw [hc8] at this; cases this)]
           exact ⟨rfl, hS⟩
          ·
           skip
           try simp only [dcl] at hc8
           refine W_skip ?_
           refine W_reg rfl (fun K hK => ?_)
           refine sv hF (v_move rfl) rfl ?_; clear hF a; intro a hF
           refine sv hF (v_addI rfl rfl (by omega)) rfl ?_; clear hF a; intro a hF
           refine sv hF (v_assign rfl) rfl ?_; clear hF a; intro a hF
           refine WL_nil (hK _ _ ?_)
           clear hK K
           replace hF := hF.sub _ (c_ 6 rfl (c_ 53 rfl (c_ 52 rfl (c_ 0 rfl (c_ 1 rfl (c_ 5 rfl (n_)))))))
           exact ⟨m2 - 1, by omega, j + 1, hF.sub _ (c_ 0 rfl (c_ 1 rfl (c_ 5 rfl (c_ 6 rfl (n_))))), hS, hAmt, by omega, take_snoc_all hn2 hx (by assumption), by omega⟩
         ·
          skip
          try simp only [dcl] at hc7
          obtain rfl : j = r.length := by omega
          rw [List.take_length] at hn2
          refine W_exit rfl ?_
          refine W_reg rfl (fun K hK => ?_)
          refine sv hF (v_move rfl) rfl ?_; clear hF a; intro a hF
          refine sv hF (v_addI rfl rfl (by omega)) rfl ?_; clear hF a; intro a hF
          refine sv hF (v_assign rfl) rfl ?_; clear hF a; intro a hF
          refine WL_nil (hK _ _ ?_)
          clear hK K
          replace hF := hF.sub _ (c_ 5 rfl (c_ 34 rfl (c_ 33 rfl (c_ 0 rfl (c_ 1 rfl (c_ 6 rfl (n_)))))))
          exact ⟨m - 1, by omega, i + 1, hF.sub _ (c_ 0 rfl (c_ 1 rfl (c_ 5 rfl (n_)))), hS, hAmt, by omega, take_snoc_all hn hr ⟨by omega, hn2⟩, by omega⟩
      ·
       skip
       try simp only [dcl] at hc5
       refine W_exit rfl ?_
       refine W_sr rfl (fun K hK => ?_)
       refine sv hF (v_assign rfl) rfl ?_; clear hF a; intro a hF
       refine WL_nil (hK _ _ ?_)
       clear hK K
       replace hF := hF.sub _ (c_ 4 rfl (c_ 0 rfl (c_ 1 rfl (c_ 5 rfl (n_)))))
       refine W_ret ?_
       refine ⟨_, _, hF, rfl, ?_⟩
       obtain rfl : i = mt.length := by omega
       rw [List.take_length] at hn
       rw [mayM_of (by omega) (by omega) (by omega) (by omega) hn]
       exact ⟨rfl, hS⟩

set_option maxRecDepth 100000 in
set_option maxHeartbeats 1000000 in
theorem Few04_ok (B M : Nat) (pmt : Option Addr) (cmt : Nat) (mt : Mtx) (w : World) (hAmt : Mat FDx B M w pmt cmt mt) (hlmt : mt.length ≤ maxLen) (hbmt : ∀ r ∈ mt, r.length ≤ maxLen) : Ret Try.prog 27 [.slice pmt mt.length cmt] w fun v w' => v = .bool (fewM mt) ∧ w' = w := by
 refine enter 23 [(0, .slice pmt mt.length cmt)] 2 Try.func27 rfl rfl rfl rfl rfl ?_; intro a hF
 have hl2 := hlmt
 simp only [maxLen] at hl2
 refine W_sr rfl (fun K hK => ?_)
 refine sv hF (v_assign rfl) rfl ?_; clear hF a; intro a hF
 refine WL_nil (hK _ _ ?_)
 clear hK K
 refine W_seq ?_
 refine W_sr rfl (fun K hK => ?_)
 refine sv hF (v_assign rfl) rfl ?_; clear hF a; intro a hF
 refine WL_nil (hK _ _ ?_)
 clear hK K
 refine W_block ?_
 refine W_loop (fun m a w1 => ∃ (i : Nat), Fr 23 [(0, .slice pmt mt.length cmt), (3, .int .i64 (i : Int))] a ∧ (w = w1) ∧ (i ≤ mt.length) ∧ (i ≤ 11) ∧ (∀ r ∈ mt.take i, r.length ≤ 10) ∧ (m + i = 11)) (11) ?_ ?_
 ·
  skip
  exact ⟨0, hF.sub _ (c_ 0 rfl (c_ 3 rfl (n_))), rfl, by omega, by omega, by simp, by omega⟩
 ·
  skip
  clear hF
  rintro m a w1 ⟨i, hF, rfl, hi, hi2, hn, hm⟩
  refine W_seq ?_
  refine W_sr rfl (fun K hK => ?_)
  refine sv2 hF (v_move rfl) (v_move rfl) rfl rfl ?_; clear hF a; intro a hF
  refine sv hF (v_lenS rfl sl27 rfl) rfl ?_; clear hF a; intro a hF
  refine sb hF (v_lss rfl rfl) rfl ?_ ?_
  ·
   clear hF a; intro hc1 a hF
   try simp only [dcl] at hc1
   refine sv hF (v_move rfl) rfl ?_; clear hF a; intro a hF
   refine svg hF rfl ?_
   refine sv hF (v_move rfl) rfl ?_; clear hF a; intro a hF
   refine svg hF rfl ?_
   refine sv hF (v_lss rfl rfl) rfl ?_; clear hF a; intro a hF
   refine sv hF (v_pickT rfl rfl) rfl ?_; clear hF a; intro a hF
   refine WL_nil (hK _ _ ?_)
   clear hK K
   replace hF := hF.sub _ (c_ 11 rfl (c_ 0 rfl (c_ 3 rfl (n_))))
   refine W_if hF rfl (fun hc2 => ?_) (fun hc2 => ?_)
   ·
    skip
    try simp only [dcl] at hc2
    refine W_skip ?_
    refine W_seq ?_
    refine W_block ?_
    have hlt : i < mt.length := by omega
    obtain ⟨r, hr⟩ : ∃ z, mt[i]? = some z := ⟨_, List.getElem?_eq_getElem hlt⟩
    obtain ⟨gx, ox, pr, cr, hgx, hkr, hrowr, -⟩ := hAmt.row hr
    subst hgx
    refine W_sr rfl (fun K hK => ?_)
    refine sv2 hF (v_move rfl) (v_move rfl) rfl rfl ?_; clear hF a; intro a hF
    refine sv hF (v_ixS sl27 rfl rfl (by omega) (by omega)) rfl ?_; clear hF a; intro a hF
    refine sv hF (v_load sc37 rfl (by rw [toNat_c]; exact hkr.c)) rfl ?_; clear hF a; intro a hF
    refine sv hF (v_lenS rfl sl37 rfl) rfl ?_; clear hF a; intro a hF
    refine sv hF (v_gtr rfl rfl) rfl ?_; clear hF a; intro a hF
    refine WL_nil (hK _ _ ?_)
    clear hK K
    replace hF := hF.sub _ (c_ 19 rfl (c_ 0 rfl (c_ 3 rfl (n_))))
    refine W_if hF rfl (fun hc3 => ?_) (fun hc3 => ?_)
    ·
     skip
     try simp only [dcl] at hc3
     refine W_sr rfl (fun K hK => ?_)
     refine sv hF (v_assign rfl) rfl ?_; clear hF a; intro a hF
     refine WL_nil (hK _ _ ?_)
     clear hK K
     replace hF := hF.sub _ (c_ 2 rfl (c_ 0 rfl (c_ 3 rfl (n_))))
     refine W_ret ?_
     refine ⟨_, _, hF, rfl, ?_⟩
     have hf : fewM mt = false := by rw [Bool.eq_false_iff, Ne, fewM_iff]; intro h; have := h.2 r (List.mem_of_getElem? hr); omega
     rw [hf]
     exact ⟨rfl, rfl⟩
    ·
     skip
     try simp only [dcl] at hc3
     refine W_skip ?_
     refine W_reg rfl (fun K hK => ?_)
     refine sv hF (v_move rfl) rfl ?_; clear hF a; intro a hF
     refine sv hF (v_addI rfl rfl (by omega)) rfl ?_; clear hF a; intro a hF
     refine sv hF (v_assign rfl) rfl ?_; clear hF a; intro a hF
     refine WL_nil (hK _ _ ?_)
     clear hK K
     replace hF := hF.sub _ (c_ 3 rfl (c_ 13 rfl (c_ 12 rfl (c_ 0 rfl (n_)))))
     exact ⟨m - 1, by omega, i + 1, hF.sub _ (c_ 0 rfl (c_ 3 rfl (n_))), rfl, by omega, by omega, take_snoc_all hn hr (by omega), by omega⟩
   ·
    skip
    try simp only [dcl] at hc2
    refine W_exit rfl ?_
    refine W_sr rfl (fun K hK => ?_)
    refine sv hF (v_move rfl) rfl ?_; clear hF a; intro a hF
    refine sv hF (v_lenS rfl sl27 rfl) rfl ?_; clear hF a; intro a hF
    refine sv hF (v_leq rfl rfl) rfl ?_; clear hF a; intro a hF
    refine sv hF (v_assign rfl) rfl ?_; clear hF a; intro a hF
    refine WL_nil (hK _ _ ?_)
    clear hK K
    replace hF := hF.sub _ (c_ 2 rfl (c_ 22 rfl (c_ 21 rfl (c_ 20 rfl (c_ 0 rfl (c_ 3 rfl (n_)))))))
    refine W_ret ?_
    refine ⟨_, _, hF, rfl, ?_⟩
    refine ⟨congrArg _ ?_, rfl⟩
    rw [Bool.eq_iff_iff, decide_eq_true_iff, fewM_iff]
    constructor
    ·
     intro h
     refine ⟨by omega, ?_⟩
     rw [List.take_of_length_le (by omega)] at hn
     exact hn
    ·
     intro h; omega
  ·
   clear hF a; intro hc1 a hF
   try simp only [dcl] at hc1
   refine sv hF (v_move rfl) rfl ?_; clear hF a; intro a hF
   refine svn hF rfl rfl rfl ?_; clear hF a; intro a hF
   refine svn hF rfl rfl rfl ?_; clear hF a; intro a hF
   refine sv hF (v_pickF rfl rfl) rfl ?_; clear hF a; intro a hF
   refine WL_nil (hK _ _ ?_)
   clear hK K
   replace hF := hF.sub _ (c_ 11 rfl (c_ 0 rfl (c_ 3 rfl (n_))))
   refine W_ifF hF rfl ?_
   refine W_exit rfl ?_
   refine W_sr rfl (fun K hK => ?_)
   refine sv hF (v_move rfl) rfl ?_; clear hF a; intro a hF
   refine sv hF (v_lenS rfl sl27 rfl) rfl ?_; clear hF a; intro a hF
   refine sv hF (v_leq rfl rfl) rfl ?_; clear hF a; intro a hF
   refine sv hF (v_assign rfl) rfl ?_; clear hF a; intro a hF
   refine WL_nil (hK _ _ ?_)
   clear hK K
   replace hF := hF.sub _ (c_ 2 rfl (c_ 22 rfl (c_ 21 rfl (c_ 20 rfl (c_ 0 rfl (c_ 3 rfl (n_)))))))
   refine W_ret ?_
   refine ⟨_, _, hF, rfl, ?_⟩
   refine ⟨congrArg _ ?_, rfl⟩
   rw [Bool.eq_iff_iff, decide_eq_true_iff, fewM_iff]
   constructor
   ·
    intro h
    refine ⟨by omega, ?_⟩
    rw [List.take_of_length_le (by omega)] at hn
    exact hn
   ·
    intro h; omega

set_option maxRecDepth 100000 in
set_option maxHeartbeats 1000000 in
theorem Same04_ok (B M : Nat) (pma : Option Addr) (cma : Nat) (ma : Mtx) (pmb : Option Addr) (cmb : Nat) (mb : Mtx) (w : World) (hI : Inv FDx B w) (hAma : Mat FDx B M w pma cma ma) (hAmb : Mat FDx B M w pmb cmb mb) (hlma : ma.length ≤ 1000) (hbma : ∀ r ∈ ma, r.length ≤ 1000) : Ret Try.prog 21 [.slice pma ma.length cma, .slice pmb mb.length cmb] w fun v w' => v = .bool (decide (ma = mb)) ∧ St FDx B w w' := by
 refine enter 53 [(0, .slice pma ma.length cma), (1, .slice pmb mb.length cmb)] 4 Try.func21 rfl rfl rfl rfl rfl ?_; intro a hF
 have hS := St.refl hI
 refine W_sr rfl (fun K hK => ?_)
 refine sv hF (v_assign rfl) rfl ?_; clear hF a; intro a hF
 refine WL_nil (hK _ _ ?_)
 clear hK K
 refine W_seq ?_
 refine W_sr rfl (fun K hK => ?_)
 refine sv hF (v_move rfl) rfl ?_; clear hF a; intro a hF
 refine sv hF (v_lenS rfl sl27 rfl) rfl ?_; clear hF a; intro a hF
 refine sv hF (v_move rfl) rfl ?_; clear hF a; intro a hF
 refine sv hF (v_lenS rfl sl27 rfl) rfl ?_; clear hF a; intro a hF
 refine sv hF (v_neq rfl rfl) rfl ?_; clear hF a; intro a hF
 refine WL_nil (hK _ _ ?_)
 clear hK K
 replace hF := hF.sub _ (c_ 11 rfl (c_ 4 rfl (c_ 0 rfl (c_ 1 rfl (n_)))))
 refine W_if hF rfl (fun hc1 => ?_) (fun hc1 => ?_)
 ·
  skip
  try simp only [dcl] at hc1
  refine W_sr rfl (fun K hK => ?_)
  refine sv hF (v_assign rfl) rfl ?_; clear hF a; intro a hF
  refine WL_nil (hK _ _ ?_)
  clear hK K
  replace hF := hF.sub _ (c_ 4 rfl (c_ 0 rfl (c_ 1 rfl (n_))))
  refine W_ret ?_
  refine ⟨_, _, hF, rfl, ?_⟩
  refine ⟨congrArg _ (Eq.symm (decide_eq_false ?_)), hS⟩
  rintro rfl
  omega
 ·
  skip
  try simp only [dcl] at hc1
  refine W_skip ?_
  refine W_seq ?_
  have hle : ma.length = mb.length := by omega
  refine W_sr rfl (fun K hK => ?_)
  refine sv hF (v_assign rfl) rfl ?_; clear hF a; intro a hF
  refine WL_nil (hK _ _ ?_)
  clear hK K
  replace hF := hF.sub _ (c_ 5 rfl (c_ 4 rfl (c_ 0 rfl (c_ 1 rfl (n_)))))
  refine W_block ?_
  refine W_loop (fun m a w1 => ∃ (i : Nat), Fr 53 [(0, .slice pma ma.length cma), (1, .slice pmb mb.length cmb), (5, .int .i64 (i : Int))] a ∧ (St FDx B w w1) ∧ (Mat FDx B M w1 pma cma ma) ∧ (Mat FDx B M w1 pmb cmb mb) ∧ (i ≤ ma.length) ∧ (ma.take i = mb.take i) ∧ (m + i = ma.length)) (ma.length) ?_ ?_
  ·
   skip
   exact ⟨0, hF.sub _ (c_ 0 rfl (c_ 1 rfl (c_ 5 rfl (n_)))), hS, hAma, hAmb, by omega, by simp, by omega⟩
  ·
   skip
   clear hF
   clear hS hAma hAmb
   rintro m a w1 ⟨i, hF, hS, hAma, hAmb, hi, hn, hm⟩
   refine W_seq ?_
   refine W_sr rfl (fun K hK => ?_)
   refine sv2 hF (v_move rfl) (v_move rfl) rfl rfl ?_; clear hF a; intro a hF
   refine sv hF (v_lenS rfl sl27 rfl) rfl ?_; clear hF a; intro a hF
   refine sv hF (v_lss rfl rfl) rfl ?_; clear hF a; intro a hF
   refine WL_nil (hK _ _ ?_)
   clear hK K
   replace hF := hF.sub _ (c_ 15 rfl (c_ 0 rfl (c_ 1 rfl (c_ 5 rfl (n_)))))
   refine W_if hF rfl (fun hc2 => ?_) (fun hc2 => ?_)
   ·
    skip
    try simp only [dcl] at hc2
    have hlt : i < ma.length := by omega
    obtain ⟨gma, oma, rfl⟩ := hAma.at1 (by omega)
    obtain ⟨gmb, omb, rfl⟩ := hAmb.at1 (by omega)
    obtain ⟨r, hr⟩ : ∃ z, ma[i]? = some z := ⟨_, List.getElem?_eq_getElem (by omega)⟩
    obtain ⟨pr, cr, hkr, hrowr, -⟩ := hAma.row2 hr
    obtain ⟨s, hs⟩ : ∃ z, mb[i]? = some z := ⟨_, List.getElem?_eq_getElem (by omega)⟩
    obtain ⟨ps, cs, hks, hrows, -⟩ := hAmb.row2 hs
    have hrl := hbma r (List.mem_of_getElem? hr)
    refine W_skip ?_
    refine W_seq ?_
    refine W_block ?_
    refine W_seq ?_
    refine W_sd (m := 11) rfl hmix hS.inv (fun K hK w1 hS' hh => ?_)
    replace hAma := hAma.st hS'
    replace hAmb := hAmb.st hS'
    replace hkr := hkr.st hS'
    replace hks := hks.st hS'
    replace hS := hS.trans hS'
    clear hS'
    clear hh
    refine a_v (i := 0) rfl (by kernel_rfl) hF (fun w2 hx => v_move rfl) rfl ?_; clear hF a; intro a hF
    refine a_v (i := 1) rfl (by kernel_rfl) hF (fun w2 hx => v_move rfl) rfl ?_; clear hF a; intro a hF
    refine a_v (i := 2) rfl (by kernel_rfl) hF (fun w2 hx => v_ixS sl27 rfl rfl (by omega) (by omega)) rfl ?_; clear hF a; intro a hF
    refine a_v (i := 3) rfl (by kernel_rfl) hF (fun w2 hx => v_load sc37 rfl (by rw [toNat_c]; exact hkr.ld hx)) rfl ?_; clear hF a; intro a hF
    refine a_v (i := 4) rfl (by kernel_rfl) hF (fun w2 hx => v_lenS rfl sl37 rfl) rfl ?_; clear hF a; intro a hF
    refine a_v (i := 5) rfl (by kernel_rfl) hF (fun w2 hx => v_move rfl) rfl ?_; clear hF a; intro a hF
    refine a_v (i := 6) rfl (by kernel_rfl) hF (fun w2 hx => v_move rfl) rfl ?_; clear hF a; intro a hF
    refine a_v (i := 7) rfl (by kernel_rfl) hF (fun w2 hx => v_ixS sl27 rfl rfl (by omega) (by omega)) rfl ?_; clear hF a; intro a hF
    refine a_v (i := 8) rfl (by kernel_rfl) hF (fun w2 hx => v_load sc37 rfl (by rw [toNat_c]; exact hks.ld hx)) rfl ?_; clear hF a; intro a hF
    refine a_v (i := 9) rfl (by kernel_rfl) hF (fun w2 hx => v_lenS rfl sl37 rfl) rfl ?_; clear hF a; intro a hF
    refine a_v (i := 10) rfl (by kernel_rfl) hF (fun w2 hx => v_neq rfl rfl) rfl ?_; clear hF a; intro a hF
    refine a_done (by kernel_rfl) (hK _ _ ?_)
    clear hK K
    replace hF := hF.sub _ (c_ 28 rfl (c_ 0 rfl (c_ 1 rfl (c_ 5 rfl (n_)))))
    refine W_if hF rfl (fun hc3 => ?_) (fun hc3 => ?_)
    ·
     skip
     try simp only [dcl] at hc3
     refine W_sr rfl (fun K hK => ?_)
     refine sv hF (v_assign rfl) rfl ?_; clear hF a; intro a hF
     refine WL_nil (hK _ _ ?_)
     clear hK K
     replace hF := hF.sub _ (c_ 4 rfl (c_ 0 rfl (c_ 1 rfl (c_ 5 rfl (n_)))))
     refine W_ret ?_
     refine ⟨_, _, hF, rfl, ?_⟩
     refine ⟨congrArg _ (Eq.symm (decide_eq_false ?_)), hS⟩
     rintro rfl
     rw [hr] at hs
     obtain rfl := Option.some.inj hs
     omega
    ·
     skip
     try simp only [dcl] at hc3
     refine W_skip ?_
     have hls : r.length = s.length := by omega
     refine W_sr rfl (fun K hK => ?_)
     refine sv hF (v_assign rfl) rfl ?_; clear hF a; intro a hF
     refine WL_nil (hK _ _ ?_)
     clear hK K
     replace hF := hF.sub _ (c_ 6 rfl (c_ 0 rfl (c_ 1 rfl (c_ 5 rfl (n_)))))
     refine W_block ?_
     refine W_loop (fun m2 a w2 => ∃ (j : Nat), Fr 53 [(0, .slice (some ⟨gma, oma, none⟩) ma.length cma), (1, .slice (some ⟨gmb, omb, none⟩) mb.length cmb), (5, .int .i64 (i : Int)), (6, .int .i64 (j : Int))] a ∧ (St FDx B w w2) ∧ (Mat FDx B M w2 (some ⟨gma, oma, none⟩) cma ma) ∧ (Mat FDx B M w2 (some ⟨gmb, omb, none⟩) cmb mb) ∧ (j ≤ r.length) ∧ (r.take j = s.take j) ∧ (m2 + j = r.length)) (r.length) ?_ ?_
     ·
      skip
      exact ⟨0, hF.sub _ (c_ 0 rfl (c_ 1 rfl (c_ 5 rfl (c_ 6 rfl (n_))))), hS, hAma, hAmb, by omega, by simp, by omega⟩
     ·
      skip
      clear hF
      clear hS hAma hAmb hkr hrowr hks hrows
      rintro m2 a w2 ⟨j, hF, hS, hAma, hAmb, hj, hn2, hm2⟩
      refine W_seq ?_
      obtain ⟨pr, cr, hkr, hrowr, -⟩ := hAma.row2 hr
      obtain ⟨ps, cs, hks, hrows, -⟩ := hAmb.row2 hs
      refine W_sr rfl (fun K hK => ?_)
      refine sv3 hF (v_move rfl) (v_move rfl) (v_move rfl) rfl rfl rfl ?_; clear hF a; intro a hF
      refine sv hF (v_ixS sl27 rfl rfl (by omega) (by omega)) rfl ?_; clear hF a; intro a hF
      refine sv hF (v_load sc37 rfl (by rw [toNat_c]; exact hkr.c)) rfl ?_; clear hF a; intro a hF
      refine sv hF (v_lenS rfl sl37 rfl) rfl ?_; clear hF a; intro a hF
      refine sv hF (v_lss rfl rfl) rfl ?_; clear hF a; intro a hF
      refine WL_nil (hK _ _ ?_)
      clear hK K
      replace hF := hF.sub _ (c_ 35 rfl (c_ 0 rfl (c_ 1 rfl (c_ 5 rfl (c_ 6 rfl (n_))))))
      refine W_if hF rfl (fun hc4 => ?_) (fun hc4 => ?_)
      ·
       skip
       try simp only [dcl] at hc4
       have hlt2 : j < r.length := by omega
       obtain ⟨x, hx⟩ : ∃ z, r[j]? = some z := ⟨_, List.getElem?_eq_getElem (by omega)⟩
       obtain ⟨gxx, oxx, hgxx, hkx, -⟩ := hrowr.kat (zints_at hx)
       subst hgxx
       obtain ⟨y, hy⟩ : ∃ z, s[j]? = some z := ⟨_, List.getElem?_eq_getElem (by omega)⟩
       obtain ⟨gxy, oxy, hgxy, hky, -⟩ := hrows.kat (zints_at hy)
       subst hgxy
       refine W_skip ?_
       refine W_seq ?_
       refine W_block ?_
       refine W_sd (m := 15) rfl hmix hS.inv (fun K hK w1 hS' hh => ?_)
       replace hAma := hAma.st hS'
       replace hAmb := hAmb.st hS'
       replace hkr := hkr.st hS'
       replace hks := hks.st hS'
       replace hkx := hkx.st hS'
       replace hky := hky.st hS'
       replace hS := hS.trans hS'
       clear hS'
       clear hh
       refine a_v (i := 0) rfl (by kernel_rfl) hF (fun w2 hx => v_move rfl) rfl ?_; clear hF a; intro a hF
       refine a_v (i := 1) rfl (by kernel_rfl) hF (fun w2 hx => v_move rfl) rfl ?_; clear hF a; intro a hF
       refine a_v (i := 2) rfl (by kernel_rfl) hF (fun w2 hx => v_ixS sl27 rfl rfl (by omega) (by omega)) rfl ?_; clear hF a; intro a hF
       refine a_v (i := 3) rfl (by kernel_rfl) hF (fun w2 hx => v_load sc37 rfl (by rw [toNat_c]; exact hkr.ld hx)) rfl ?_; clear hF a; intro a hF
       refine a_v (i := 4) rfl (by kernel_rfl) hF (fun w2 hx => v_move rfl) rfl ?_; clear hF a; intro a hF
       refine a_v (i := 5) rfl (by kernel_rfl) hF (fun w2 hx => v_ixS sl37 rfl rfl (by omega) (by omega)) rfl ?_; clear hF a; intro a hF
       refine a_v (i := 6) rfl (by kernel_rfl) hF (fun w2 hx => v_load sc3 rfl (by rw [toNat_c]; exact hkx.ld hx)) rfl ?_; clear hF a; intro a hF
       refine a_v (i := 7) rfl (by kernel_rfl) hF (fun w2 hx => v_move rfl) rfl ?_; clear hF a; intro a hF
       refine a_v (i := 8) rfl (by kernel_rfl) hF (fun w2 hx => v_move rfl) rfl ?_; clear hF a; intro a hF
       refine a_v (i := 9) rfl (by kernel_rfl) hF (fun w2 hx => v_ixS sl27 rfl rfl (by omega) (by omega)) rfl ?_; clear hF a; intro a hF
       refine a_v (i := 10) rfl (by kernel_rfl) hF (fun w2 hx => v_load sc37 rfl (by rw [toNat_c]; exact hks.ld hx)) rfl ?_; clear hF a; intro a hF
       refine a_v (i := 11) rfl (by kernel_rfl) hF (fun w2 hx => v_move rfl) rfl ?_; clear hF a; intro a hF
       refine a_v (i := 12) rfl (by kernel_rfl) hF (fun w2 hx => v_ixS sl37 rfl rfl (by omega) (by omega)) rfl ?_; clear hF a; intro a hF
       refine a_v (i := 13) rfl (by kernel_rfl) hF (fun w2 hx => v_load sc3 rfl (by rw [toNat_c]; exact hky.ld hx)) rfl ?_; clear hF a; intro a hF
       refine a_v (i := 14) rfl (by kernel_rfl) hF (fun w2 hx => v_neq rfl rfl) rfl ?_; clear hF a; intro a hF
       refine a_done (by kernel_rfl) (hK _ _ ?_)
       clear hK K
       replace hF := hF.sub _ (c_ 52 rfl (c_ 0 rfl (c_ 1 rfl (c_ 5 rfl (c_ 6 rfl (n_))))))
       refine W_if hF rfl (fun hc5 => ?_) (fun hc5 => ?_)
       ·
        skip
        try simp only [dcl] at hc5
        refine W_sr rfl (fun K hK => ?_)
        refine sv hF (v_assign rfl) rfl ?_; clear hF a; intro a hF
        refine WL_nil (hK _ _ ?_)
        clear hK K
        replace hF := hF.sub _ (c_ 4 rfl (c_ 0 rfl (c_ 1 rfl (c_ 5 rfl (c_ 6 rfl (n_))))))
        refine W_ret ?_
        refine ⟨_, _, hF, rfl, ?_⟩
        refine ⟨congrArg _ (Eq.symm (decide_eq_false ?_)), hS⟩
        rintro rfl
        rw [hr] at hs
        obtain rfl := Option.some.inj hs
        rw [hx] at hy
        obtain rfl := Option.some.inj hy
        omega
       ·
        skip
        try simp only [dcl] at hc5
        refine W_skip ?_
        refine W_reg rfl (fun K hK => ?_)
        refine sv hF (v_move rfl) rfl ?_; clear hF a; intro a hF
        refine sv hF (v_addI rfl rfl (by omega)) rfl ?_; clear hF a; intro a hF
        refine sv hF (v_assign rfl) rfl ?_; clear hF a; intro a hF
        refine WL_nil (hK _ _ ?_)
        clear hK K
        replace hF := hF.sub _ (c_ 6 rfl (c_ 37 rfl (c_ 36 rfl (c_ 0 rfl (c_ 1 rfl (c_ 5 rfl (n_)))))))
        exact ⟨m2 - 1, by omega, j + 1, hF.sub _ (c_ 0 rfl (c_ 1 rfl (c_ 5 rfl (c_ 6 rfl (n_))))), hS, hAma, hAmb, by omega, take_snoc_eq hn2 hx (by rw [hy]; congr 1; omega), by omega⟩
      ·
       skip
       try simp only [dcl] at hc4
       obtain rfl : j = r.length := by omega
       obtain rfl : r = s := by rw [List.take_length, List.take_of_length_le (by omega)] at hn2; exact hn2
       refine W_exit rfl ?_
       refine W_reg rfl (fun K hK => ?_)
       refine sv hF (v_move rfl) rfl ?_; clear hF a; intro a hF
       refine sv hF (v_addI rfl rfl (by omega)) rfl ?_; clear hF a; intro a hF
       refine sv hF (v_assign rfl) rfl ?_; clear hF a; intro a hF
       refine WL_nil (hK _ _ ?_)
       clear hK K
       replace hF := hF.sub _ (c_ 5 rfl (c_ 17 rfl (c_ 16 rfl (c_ 0 rfl (c_ 1 rfl (c_ 6 rfl (n_)))))))
       exact ⟨m - 1, by omega, i + 1, hF.sub _ (c_ 0 rfl (c_ 1 rfl (c_ 5 rfl (n_)))), hS, hAma, hAmb, by omega, take_snoc_eq hn hr hs, by omega⟩
   ·
    skip
    try simp only [dcl] at hc2
    refine W_exit rfl ?_
    refine W_sr rfl (fun K hK => ?_)
    refine sv hF (v_assign rfl) rfl ?_; clear hF a; intro a hF
    refine WL_nil (hK _ _ ?_)
    clear hK K
    replace hF := hF.sub _ (c_ 4 rfl (c_ 0 rfl (c_ 1 rfl (c_ 5 rfl (n_)))))
    refine W_ret ?_
    refine ⟨_, _, hF, rfl, ?_⟩
    refine ⟨congrArg _ (Eq.symm (decide_eq_true ?_)), hS⟩
    obtain rfl : i = ma.length := by omega
    rw [List.take_length, List.take_of_length_le (by omega)] at hn
    exact hn

end Go.Proofs.Ytaeljbdpjiciaaa

/- The walks of gambrelref04: identity, rows picked, joined, products. -/
set_option linter.unusedVariables false
set_option linter.unusedSimpArgs false
namespace Go.Proofs.Ytaeljbdpjiciaaa
open Go Go.Gam


namespace FxFRef04b
theorem sl27 : Sl Try.prog 27 37 (.slice none 0 0) 24 := sl_of Try.underlying27 rfl (by kernel_rfl)
theorem sl37 : Sl Try.prog 37 3 (.int .i64 0) 8 := sl_of Try.underlying37 rfl (by kernel_rfl)
end FxFRef04b
open FxFRef04b

set_option maxRecDepth 100000 in
set_option maxHeartbeats 1000000 in
theorem rIdentity_ok (B : Nat) (n : Int) (w : World) (hI : Inv FDx B w) (hn : -9223372036854775808 ≤ n ∧ n < 9223372036854775808) : Ret Try.prog 32 [.int .i64 n] w fun v w' => ∃ ob, MOwn FDx B w.heap.size 0 w'.heap.size w' 37 v ob (identM n) ∧ St FDx B w w' := by
 refine enter 34 [(0, .int .i64 n)] 2 Try.func32 rfl rfl rfl rfl rfl ?_; intro a hF
 have hS := St.refl hI
 refine W_sr rfl (fun K hK => ?_)
 refine sv hF (v_assign rfl) rfl ?_; clear hF a; intro a hF
 refine WL_nil (hK _ _ ?_)
 clear hK K
 refine W_sr rfl (fun K hK => ?_)
 refine sv hF (v_assign rfl) rfl ?_; clear hF a; intro a hF
 refine WL_nil (hK _ _ ?_)
 clear hK K
 refine W_seq ?_
 refine W_sr rfl (fun K hK => ?_)
 refine sv hF (v_assign rfl) rfl ?_; clear hF a; intro a hF
 refine WL_nil (hK _ _ ?_)
 clear hK K
 refine W_block ?_
 refine W_loop (fun m a w1 => ∃ (i : Nat) (v3 : Value) (b3 : Option Nat), Fr 34 [(0, .int .i64 n), (3, v3), (4, .int .i64 (i : Int))] a ∧ (St FDx B w w1) ∧ (MOwn FDx B w.heap.size 0 w1.heap.size w1 37 v3 b3 ((List.range i).map (unitR n.toNat))) ∧ (i ≤ n.toNat) ∧ (i = 0 ∨ n ≤ 20) ∧ (m + i = n.toNat)) (n.toNat) ?_ ?_
 ·
  skip
  exact ⟨0, _, none, hF.sub _ (c_ 0 rfl (c_ 3 rfl (c_ 4 rfl (n_)))), hS, MOwn.nil _ _ _ _ _ _ _ (Nat.zero_le _), by omega, by omega, by omega⟩
 ·
  skip
  clear hF
  clear hS
  rintro m a w1 ⟨i, v3, b3, hF, hS, hMO, hi, hi2, hm⟩
  refine W_seq ?_
  obtain ⟨KM, hKe⟩ : ∃ KM, KM = w1.heap.size := ⟨_, rfl⟩
  rw [← hKe] at hMO
  have hKs : KM ≤ w1.heap.size := by omega
  have hNK : w.heap.size ≤ KM := by have := hS.ext.size; omega
  clear hKe
  refine W_sr rfl (fun K hK => ?_)
  refine sv2 hF (v_move rfl) (v_move rfl) rfl rfl ?_; clear hF a; intro a hF
  refine sb hF (v_lss rfl rfl) rfl ?_ ?_
  ·
   clear hF a; intro hc1 a hF
   try simp only [dcl] at hc1
   refine sv hF (v_move rfl) rfl ?_; clear hF a; intro a hF
   refine svg hF rfl ?_
   refine sv hF (v_move rfl) rfl ?_; clear hF a; intro a hF
   refine svg hF rfl ?_
   refine sv hF (v_leq rfl rfl) rfl ?_; clear hF a; intro a hF
   refine sv hF (v_pickT rfl rfl) rfl ?_; clear hF a; intro a hF
   refine WL_nil (hK _ _ ?_)
   clear hK K
   replace hF := hF.sub _ (c_ 14 rfl (c_ 0 rfl (c_ 3 rfl (c_ 4 rfl (n_)))))
   refine W_if hF rfl (fun hc2 => ?_) (fun hc2 => ?_)
   ·
    skip
    try simp only [dcl] at hc2
    refine W_skip ?_
    refine W_seq ?_
    refine W_block ?_
    refine W_sr rfl (fun K hK => ?_)
    refine sv hF (v_assign rfl) rfl ?_; clear hF a; intro a hF
    refine WL_nil (hK _ _ ?_)
    clear hK K
    replace hF := hF.sub _ (c_ 5 rfl (c_ 0 rfl (c_ 3 rfl (c_ 4 rfl (n_)))))
    refine W_seq ?_
    refine W_sr rfl (fun K hK => ?_)
    refine sv hF (v_assign rfl) rfl ?_; clear hF a; intro a hF
    refine WL_nil (hK _ _ ?_)
    clear hK K
    refine W_block ?_
    refine W_loop (fun m2 a w2 => ∃ (j : Nat) (v5 : Value) (b5 : Option Nat), Fr 34 [(0, .int .i64 n), (3, v3), (4, .int .i64 (i : Int)), (5, v5), (6, .int .i64 (j : Int))] a ∧ (St FDx B w w2) ∧ (MOwn FDx B w.heap.size 0 KM w2 37 v3 b3 ((List.range i).map (unitR n.toNat))) ∧ (KM ≤ w2.heap.size) ∧ (Gam.Own FDx B KM w2 FDx.E v5 b5 (zints ((unitR n.toNat i).take j))) ∧ (j ≤ n.toNat) ∧ (m2 + j = n.toNat)) (n.toNat) ?_ ?_
    ·
     skip
     exact ⟨0, _, none, hF.sub _ (c_ 0 rfl (c_ 3 rfl (c_ 4 rfl (c_ 5 rfl (c_ 6 rfl (n_)))))), hS, hMO, hKs, Gam.Own.nil _ _ _ _ _, by omega, by omega⟩
    ·
     skip
     clear hF
     clear hS hMO hKs
     rintro m2 a w2 ⟨j, v5, b5, hF, hS, hMO, hKs, hO, hj, hm2⟩
     refine W_seq ?_
     refine W_sr rfl (fun K hK => ?_)
     refine sv2 hF (v_move rfl) (v_move rfl) rfl rfl ?_; clear hF a; intro a hF
     refine sv hF (v_lss rfl rfl) rfl ?_; clear hF a; intro a hF
     refine WL_nil (hK _ _ ?_)
     clear hK K
     replace hF := hF.sub _ (c_ 19 rfl (c_ 0 rfl (c_ 3 rfl (c_ 4 rfl (c_ 5 rfl (c_ 6 rfl (n_)))))))
     refine W_if hF rfl (fun hc3 => ?_) (fun hc3 => ?_)
     ·
      skip
      try simp only [dcl] at hc3
      refine W_skip ?_
      refine W_seq ?_
      refine W_block ?_
      refine W_sr rfl (fun K hK => ?_)
      refine sv hF (v_assign rfl) rfl ?_; clear hF a; intro a hF
      refine WL_nil (hK _ _ ?_)
      clear hK K
      replace hF := hF.sub _ (c_ 7 rfl (c_ 0 rfl (c_ 3 rfl (c_ 4 rfl (c_ 5 rfl (c_ 6 rfl (n_)))))))
      refine W_seq ?_
      refine W_sr rfl (fun K hK => ?_)
      refine sv2 hF (v_move rfl) (v_move rfl) rfl rfl ?_; clear hF a; intro a hF
      refine sv hF (v_eql rfl rfl) rfl ?_; clear hF a; intro a hF
      refine WL_nil (hK _ _ ?_)
      clear hK K
      replace hF := hF.sub _ (c_ 24 rfl (c_ 7 rfl (c_ 0 rfl (c_ 3 rfl (c_ 4 rfl (c_ 5 rfl (c_ 6 rfl (n_))))))))
      refine W_if hF rfl (fun hc4 => ?_) (fun hc4 => ?_)
      ·
       skip
       try simp only [dcl] at hc4
       refine W_reg rfl (fun K hK => ?_)
       refine sv hF (v_assign rfl) rfl ?_; clear hF a; intro a hF
       refine WL_nil (hK _ _ ?_)
       clear hK K
       replace hF := hF.sub _ (c_ 7 rfl (c_ 0 rfl (c_ 3 rfl (c_ 4 rfl (c_ 5 rfl (c_ 6 rfl (n_)))))))
       have hul := unitR_length n.toNat i
       refine W_reg rfl (fun K hK => ?_)
       refine sv2 hF (v_move rfl) (v_move rfl) rfl rfl ?_; clear hF a; intro a hF
       refine s_bs (D := FDx) (B := B) hF sl37 rfl rfl (by decide) (by simp [Value.cells]) (by decide) hS.inv rfl ?_; clear hF a; intro w' a hm hI' hL hF
       replace hMO := hMO.mb0 hm
       replace hKs := Nat.le_trans hKs hm.size
       replace hO := hO.mb hm (fun _ _ => by simp)
       replace hS := hS.mb0 hm
       clear hm hI'
       refine s_app (D := FDx) (B := B) hF rfl sl37 rfl rfl hO (hL.row (by decide)) (by simp [Value.oneCell']) (by simp; omega) (by simp [maxLen]; omega) (hKs) (by decide) hS.inv rfl ?_; clear hF a; intro v' b' w' a ho' hm hI' hb' hF
       replace hMO := hMO.mbo hm hO (by decide) (Nat.le_refl _) (Nat.zero_le _)
       replace hKs := Nat.le_trans hKs hm.size
       replace hS := hS.mb hm (fun k h => Nat.le_trans (hNK) (hO.lt k h).1)
       replace hO := ho'
       clear hm hI' ho'
       refine sv hF (v_assign rfl) rfl ?_; clear hF a; intro a hF
       refine WL_nil (hK _ _ ?_)
       clear hK K
       replace hF := hF.sub _ (c_ 5 rfl (c_ 0 rfl (c_ 3 rfl (c_ 4 rfl (c_ 6 rfl (n_))))))
       refine W_reg rfl (fun K hK => ?_)
       refine sv hF (v_move rfl) rfl ?_; clear hF a; intro a hF
       refine sv hF (v_addI rfl rfl (by omega)) rfl ?_; clear hF a; intro a hF
       refine sv hF (v_assign rfl) rfl ?_; clear hF a; intro a hF
       refine WL_nil (hK _ _ ?_)
       clear hK K
       exact ⟨m2 - 1, by omega, j + 1, _, _, hF.sub _ (c_ 0 rfl (c_ 3 rfl (c_ 4 rfl (c_ 5 rfl (c_ 6 rfl (n_)))))), hS, hMO, hKs, hO.cast (by rw [unitR_snoc _ _ _ (by omega)]; (first | rw [if_pos (by omega)] | rw [if_neg (by omega)]); simp [zints]), by omega, by omega⟩
      ·
       skip
       try simp only [dcl] at hc4
       refine W_skip ?_
       have hul := unitR_length n.toNat i
       refine W_reg rfl (fun K hK => ?_)
       refine sv2 hF (v_move rfl) (v_move rfl) rfl rfl ?_; clear hF a; intro a hF
       refine s_bs (D := FDx) (B := B) hF sl37 rfl rfl (by decide) (by simp [Value.cells]) (by decide) hS.inv rfl ?_; clear hF a; intro w' a hm hI' hL hF
       replace hMO := hMO.mb0 hm
       replace hKs := Nat.le_trans hKs hm.size
       replace hO := hO.mb hm (fun _ _ => by simp)
       replace hS := hS.mb0 hm
       clear hm hI'
       refine s_app (D := FDx) (B := B) hF rfl sl37 rfl rfl hO (hL.row (by decide)) (by simp [Value.oneCell']) (by simp; omega) (by simp [maxLen]; omega) (hKs) (by decide) hS.inv rfl ?_; clear hF a; intro v' b' w' a ho' hm hI' hb' hF
       replace hMO := hMO.mbo hm hO (by decide) (Nat.le_refl _) (Nat.zero_le _)
       replace hKs := Nat.le_trans hKs hm.size
       replace hS := hS.mb hm (fun k h => Nat.le_trans (hNK) (hO.lt k h).1)
       replace hO := ho'
       clear hm hI' ho'
       refine sv hF (v_assign rfl) rfl ?_; clear hF a; intro a hF
       refine WL_nil (hK _ _ ?_)
       clear hK K
       replace hF := hF.sub _ (c_ 5 rfl (c_ 0 rfl (c_ 3 rfl (c_ 4 rfl (c_ 6 rfl (n_))))))
       refine W_reg rfl (fun K hK => ?_)
       refine sv hF (v_move rfl) rfl ?_; clear hF a; intro a hF
       refine sv hF (v_addI rfl rfl (by omega)) rfl ?_; clear hF a; intro a hF
       refine sv hF (v_assign rfl) rfl ?_; clear hF a; intro a hF
       refine WL_nil (hK _ _ ?_)
       clear hK K
       exact ⟨m2 - 1, by omega, j + 1, _, _, hF.sub _ (c_ 0 rfl (c_ 3 rfl (c_ 4 rfl (c_ 5 rfl (c_ 6 rfl (n_)))))), hS, hMO, hKs, hO.cast (by rw [unitR_snoc _ _ _ (by omega)]; (first | rw [if_pos (by omega)] | rw [if_neg (by omega)]); simp [zints]), by omega, by omega⟩
     ·
      skip
      try simp only [dcl] at hc3
      refine W_exit rfl ?_
      obtain rfl : j = n.toNat := by omega
      rw [List.take_of_length_le (by rw [unitR_length]; omega)] at hO
      refine W_reg rfl (fun K hK => ?_)
      refine sv2 hF (v_move rfl) (v_move rfl) rfl rfl ?_; clear hF a; intro a hF
      obtain ⟨a_, c_r, rfl⟩ := hO.shape
      refine s_bs (D := FDx) (B := B) hF sl27 rfl rfl (by decide) (by simp [Value.cells]) (by decide) hS.inv rfl ?_; clear hF a; intro w' a hm hI' hL hF
      replace hMO := hMO.mb0 hm
      replace hKs := Nat.le_trans hKs hm.size
      replace hO := hO.mb hm (fun _ _ => by simp)
      replace hS := hS.mb0 hm
      clear hm hI'
      replace hMO := hMO.up hKs
      clear hKs
      refine s_appM (D := FDx) (B := B) hF rfl sl27 rfl rfl hMO hL (.of hO (Nat.zero_le _)) rfl rfl (by simp; omega) (hS.ext.size) (by decide) (by decide) hS.inv rfl ?_; clear hF a; intro v' b' w' a ho' hm hI' hF
      replace hS := hS.mb hm (fun k h => (hMO.lt k h).1)
      have hKm := hm.size
      replace hMO := ho'
      clear hm hI' ho' hL
      refine sv hF (v_assign rfl) rfl ?_; clear hF a; intro a hF
      refine WL_nil (hK _ _ ?_)
      clear hK K
      replace hF := hF.sub _ (c_ 3 rfl (c_ 32 rfl (c_ 31 rfl (c_ 30 rfl (c_ 29 rfl (c_ 0 rfl (c_ 4 rfl (c_ 5 rfl (c_ 6 rfl (n_))))))))))
      refine W_reg rfl (fun K hK => ?_)
      refine sv hF (v_move rfl) rfl ?_; clear hF a; intro a hF
      refine sv hF (v_addI rfl rfl (by omega)) rfl ?_; clear hF a; intro a hF
      refine sv hF (v_assign rfl) rfl ?_; clear hF a; intro a hF
      refine WL_nil (hK _ _ ?_)
      clear hK K
      exact ⟨m - 1, by omega, i + 1, _, _, hF.sub _ (c_ 0 rfl (c_ 3 rfl (c_ 4 rfl (n_)))), hS, (hMO.up hKm).cast (idM_snoc _ _).symm, by omega, by omega, by omega⟩
   ·
    skip
    try simp only [dcl] at hc2
    refine W_exit rfl ?_
    refine W_sr rfl (fun K hK => ?_)
    refine sv2 hF (v_move rfl) (v_assign rfl) rfl rfl ?_; clear hF a; intro a hF
    refine WL_nil (hK _ _ ?_)
    clear hK K
    replace hF := hF.sub _ (c_ 2 rfl (c_ 33 rfl (c_ 0 rfl (c_ 3 rfl (c_ 4 rfl (n_))))))
    refine W_ret ?_
    refine ⟨_, _, hF, rfl, ?_⟩
    rw [ident_done (by omega)] at hMO
    exact ⟨_, hMO.up hKs, hS⟩
  ·
   clear hF a; intro hc1 a hF
   try simp only [dcl] at hc1
   refine sv hF (v_move rfl) rfl ?_; clear hF a; intro a hF
   refine svn hF rfl rfl rfl ?_; clear hF a; intro a hF
   refine svn hF rfl rfl rfl ?_; clear hF a; intro a hF
   refine sv hF (v_pickF rfl rfl) rfl ?_; clear hF a; intro a hF
   refine WL_nil (hK _ _ ?_)
   clear hK K
   replace hF := hF.sub _ (c_ 14 rfl (c_ 0 rfl (c_ 3 rfl (c_ 4 rfl (n_)))))
   refine W_ifF hF rfl ?_
   refine W_exit rfl ?_
   refine W_sr rfl (fun K hK => ?_)
   refine sv2 hF (v_move rfl) (v_assign rfl) rfl rfl ?_; clear hF a; intro a hF
   refine WL_nil (hK _ _ ?_)
   clear hK K
   replace hF := hF.sub _ (c_ 2 rfl (c_ 33 rfl (c_ 0 rfl (c_ 3 rfl (c_ 4 rfl (n_))))))
   refine W_ret ?_
   refine ⟨_, _, hF, rfl, ?_⟩
   rw [ident_done (by omega)] at hMO
   exact ⟨_, hMO.up hKs, hS⟩

end Go.Proofs.Ytaeljbdpjiciaaa

/- The plain laws of layer 7. No program in sight. -/
set_option linter.unusedVariables false
set_option linter.unusedSimpArgs false
set_option linter.unusedSectionVars false
namespace Go.Gam
open Px

theorem fitB_ok {o : Fq} (ho : o.isSome = true) {k m : Nat} (h1 : 1 ≤ k) (h2 : 1 ≤ m) (h3 : k + m ≤ 20) : fitB o (k : Int) (m : Int) = true := fitB_iff.2 ⟨ho, by omega, by omega, by omega, by omega, by omega⟩
theorem extM_is {o : Fq} (ho : o.isSome = true) {k m : Nat} (h1 : 1 ≤ k) (h2 : 1 ≤ m) (h3 : k + m ≤ 20) : extM o (k : Int) (m : Int) = some (tab (k + m) k (extT o k m)) := by
  unfold extM
  rw [if_pos (fitB_ok ho h1 h2 h3)]
  rfl
theorem aw7_ext : extM (some (8, 285)) 2 1 = some [[1, 0], [1, 1], [0, 1]] := by
  rw [show extM (some (8, 285)) 2 1 = some (tab 3 2 (extT (some (8, 285)) 2 1)) from extM_is rfl (k := 2) (m := 1) (by decide) (by decide) (by decide)]
  show some [[((pwT (some (8, 285)) 0 0 : Nat) : Int), ((pwT (some (8, 285)) 0 1 : Nat) : Int)], [((pwT (some (8, 285)) 1 0 : Nat) : Int), ((pwT (some (8, 285)) 1 1 : Nat) : Int)], [0, 1]] = _
  rw [pwT_pow prm_285 (by decide), pwT_pow prm_285 (by decide), pwT_pow prm_285 (by decide), pwT_pow prm_285 (by decide)]
  rw [prm_285.fld.pow_one 0 (by rw [prm_285.fld_w]; decide), prm_285.fld.pow_one 1 (by rw [prm_285.fld_w]; decide)]
  rfl
theorem aw7_par : tab 1 2 (parT prm_285 2 1) = [[1, 1]] := by
  show [[((parT prm_285 2 1 0 0 : Nat) : Int), ((parT prm_285 2 1 0 1 : Nat) : Int)]] = _
  rw [parT_top prm_285 (by decide) (by decide) (by decide) (by decide), parT_top prm_285 (by decide) (by decide) (by decide) (by decide)]
  rfl
theorem aw7_len (a b : Int) : ([[a, b]] : Mtx).length ≤ 1000 ∧ ∀ r ∈ ([[a, b]] : Mtx), r.length ≤ 1000 := by
  refine ⟨by simp, fun r hr => ?_⟩
  simp only [List.mem_cons, List.mem_nil_iff, or_false] at hr
  subst hr; simp
section
variable {wb p : Nat} (hp : Prm wb p)
theorem inv_tab {k : Nat} {f g : Tb} (hb : hp.fld.Bd f) (h1 : 1 ≤ k) (h2 : k ≤ 20) (hI : hp.fld.Iv k f g) : invR hp (tab k k f) = (0, tab k k g) := by
  have hm := mx_tab hp (n := k) (m := k) hb
  have hl : (tab k k f).length = k := tab_length _ _ _
  have hI2 := hI.congr hp.fld (hm.bd hp) fun i j hi hj => (en_tab hi hj : en (tab k k f) i j = _)
  obtain ⟨g', hg⟩ := hp.fld.iv_of_Iv hI2
  have hu := (hp.fld.iv_some (hm.bd hp) hg).uniq hp.fld hI.bd' fun i j hi hj => hI2.r i j hi hj
  rw [invR_some hp (hm.sq h1 h2) (g := g') (by rw [hl]; exact hg), hl]
  congr 1
  exact tab_congr fun i j hi hj => (hu i j hi hj).symm
theorem mul_tab {n m k : Nat} {f g : Tb} (hf : hp.fld.Bd f) (hg : hp.fld.Bd g) (hn : 1 ≤ n ∧ n ≤ 20) (hm : 1 ≤ m ∧ m ≤ 20) (hk : 1 ≤ k ∧ k ≤ 20) : mulM (some (wb, p)) (tab n m f) (tab m k g) = some (tab n k (hp.fld.mm m f g)) := by
  rw [mulM_tab hp (mx_tab hp hf) (mx_tab hp hg) hn hm hk]
  congr 1
  exact tab_congr fun i j hi hj => xsum_congr fun l hl => by rw [en_tab hi hl, en_tab hl hj]
variable {k m : Nat} (hk : 1 ≤ k) (hm : 1 ≤ m) (h20 : k + m ≤ 20)
include hk hm h20
theorem ext_pick {l : List Nat} (hl : l.length = k) (hn : l.Nodup) (h : ∀ x ∈ l, x < k + m) : ∃ P, pickM (some (wb, p)) (tab (k + m) k (extT (some (wb, p)) k m)) (casts l) = some P ∧ (invR hp P).1 = 0 := by
  have hb := extT_bd hp k m
  refine ⟨_, pick_tab hp hb ⟨by omega, h20⟩ ⟨hk, by omega⟩ ⟨by omega, by omega⟩ h, ?_⟩
  rw [hl]
  exact inv0 hp (fun i j => hb _ _) hk (by omega) (ext_iv hp hk h20 hl hn h)
theorem par_pick {l : List Nat} (hl : l.length = k) (hn : l.Nodup) (h : ∀ x ∈ l, x < k + m) : ∃ P, pickM (some (wb, p)) (tab (k + m) k (beh k (parT hp k m))) (casts l) = some P ∧ (invR hp P).1 = 0 := by
  have hb := hp.fld.beh_bd (k := k) (parT_bd hp k m)
  refine ⟨_, pick_tab hp hb ⟨by omega, h20⟩ ⟨hk, by omega⟩ ⟨by omega, by omega⟩ h, ?_⟩
  rw [hl]
  exact inv0 hp (fun i j => hb _ _) hk (by omega) (par_any hp hk hm h20 hl hn h)
include hp in
theorem ext_ends : ([trow k (extT (some (wb, p)) k m) 0, trow k (extT (some (wb, p)) k m) (k + m - 1)] : Mtx) = [trow k I1 0, trow k I1 (k - 1)] := by
  congr 1
  · refine trow_congr fun j hj => ?_
    unfold extT
    rw [if_neg (by omega), pwT_pow hp (by decide)]
    unfold I1
    cases j with
    | zero => rfl
    | succ j => rw [if_neg (by omega)]; show hp.fld.mul _ 0 = 0; exact hp.fld.mul_zero _
  · congr 1
    refine trow_congr fun j hj => ?_
    unfold extT I1
    rw [if_pos rfl]
    by_cases e : j = k - 1
    · rw [if_pos e, if_pos e.symm]
    · rw [if_neg e, if_neg (Ne.symm e)]
theorem ext_ginv : ∃ g, hp.fld.Iv k (extT (some (wb, p)) k m) g ∧ invR hp (tab k k (extT (some (wb, p)) k m)) = (0, tab k k g) := by
  obtain ⟨g, hg⟩ := ext_top hp hk hm h20
  have hI := hp.fld.iv_some (extT_bd hp k m) hg
  exact ⟨g, hI, inv_tab hp (extT_bd hp k m) hk (by omega) hI⟩
theorem ext_mul {g : Tb} (hI : hp.fld.Iv k (extT (some (wb, p)) k m) g) : mulM (some (wb, p)) (tab m k fun i j => extT (some (wb, p)) k m (k + i) j) (tab k k g) = some (tab m k (jG hp k m)) := by
  rw [mul_tab hp (fun i j => extT_bd hp k m _ _) hI.bd' ⟨hm, by omega⟩ ⟨hk, by omega⟩ ⟨hk, by omega⟩]
  congr 1
  obtain ⟨C, C', hC, he⟩ := jG_ex hp hk hm h20
  have hu := hI.uniq hp.fld hC.bd fun i j hi hj => by rw [← he i j hj]; exact if_pos hi
  refine tab_congr fun i j hi hj => ?_
  have := he (k + i) j hj
  unfold beh at this
  rw [if_neg (by omega), Nat.add_sub_cancel_left] at this
  rw [this]
  exact xsum_congr fun l hl => by rw [hu l j hl hj]
theorem scaled_id {r c : Nat} (hr : r < m) (hc : c < k) : hp.fld.mul (parT hp k m r c) (hp.fld.mul (jG hp k m 0 c) (jG hp k m r 0)) = hp.fld.mul (jG hp k m r c) (jG hp k m 0 0) := by
  have hb := jG_bd hp k m
  have hA : ∀ c, c < k → hp.fld.mul (jA hp k m c) (jG hp k m 0 c) = 1 := fun c hc => hp.fld.inv_mul (hb _ _) (jG_ne hp hk hm h20 (by omega) hc)
  haveI : Std.Associative hp.fld.mul := ⟨hp.fld.assoc⟩
  haveI : Std.Commutative hp.fld.mul := ⟨hp.fld.comm⟩
  have hB : hp.fld.mul (jB hp k m r) (jG hp k m r 0) = jG hp k m 0 0 := by
    unfold jB
    by_cases e : r = 0
    · rw [if_pos e, e]; exact hp.fld.one _ (hb _ _)
    · rw [if_neg e]
      have h1 : hp.fld.mul (hp.fld.inv (jC hp k m r 0)) (jC hp k m r 0) = 1 := hp.fld.inv_mul (jC_bd hp k m _ _) (jC_ne hp hk hm h20 hr (by omega))
      have h2 : hp.fld.mul (hp.fld.inv (jC hp k m r 0)) (jG hp k m r 0) = hp.fld.mul (hp.fld.mul (hp.fld.inv (jC hp k m r 0)) (jG hp k m r 0)) (hp.fld.mul (jA hp k m 0) (jG hp k m 0 0)) := by rw [hA 0 (by omega), hp.fld.mul_one _ (hp.fld.lt _ _)]
      rw [h2, show hp.fld.mul (hp.fld.mul (hp.fld.inv (jC hp k m r 0)) (jG hp k m r 0)) (hp.fld.mul (jA hp k m 0) (jG hp k m 0 0)) = hp.fld.mul (hp.fld.mul (hp.fld.inv (jC hp k m r 0)) (hp.fld.mul (jG hp k m r 0) (jA hp k m 0))) (jG hp k m 0 0) by ac_rfl]
      rw [show hp.fld.mul (jG hp k m r 0) (jA hp k m 0) = jC hp k m r 0 from rfl, h1, hp.fld.one _ (hb _ _)]
  have e : hp.fld.mul (parT hp k m r c) (hp.fld.mul (jG hp k m 0 c) (jG hp k m r 0)) = hp.fld.mul (jG hp k m r c) (hp.fld.mul (hp.fld.mul (jA hp k m c) (jG hp k m 0 c)) (hp.fld.mul (jB hp k m r) (jG hp k m r 0))) := by
    unfold parT jC
    ac_rfl
  rw [e, hA c hc, hB, hp.fld.one _ (hb _ _)]
end
end Go.Gam
