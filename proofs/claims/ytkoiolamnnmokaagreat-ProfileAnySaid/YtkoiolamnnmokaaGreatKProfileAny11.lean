/- Texts of the claim ProfileAny (part 11), put together in the order of their imports. -/
import Derived.Test.YtkoiolamnnmokaaGreatKProfileAny10
/- The walk of gambrelref06.Chosen. -/
set_option linter.unusedVariables false
set_option linter.unusedSimpArgs false
namespace Go.Proofs.YtkoiolamnnmokaaGreat
open Go Go.Gam


namespace FxFCho
theorem on4 : Gam.One Tryz.prog 4 := by unfold Gam.One; kernel_rfl
theorem sc4 : Scalar Tryz.prog 4 := ⟨_, Tryz.underlying4, by simp, by simp⟩
theorem sl53 : Sl Tryz.prog 53 3 (.int .i64 0) 8 := sl_of Tryz.underlying53 rfl (by kernel_rfl)
theorem sl86 : Sl Tryz.prog 86 4 (.bool false) 1 := sl_of Tryz.underlying86 rfl (by kernel_rfl)
end FxFCho
open FxFCho

set_option maxRecDepth 100000 in
set_option maxHeartbeats 1000000 in
theorem Chosen_ok (B rows many fr step : Nat) (w : World) (hI : Inv FDx B w) (hr : 1 ≤ rows ∧ rows ≤ 20) (hm : many + 1 ≤ rows) (hfs : fr ≤ 1000 ∧ step ≤ 1000) : Ret Tryz.prog 21 [.int .i64 (rows : Int), .int .i64 (many : Int), .int .i64 (fr : Int), .int .i64 (step : Int)] w fun v w' => ∃ ob u, ∃ l : List Nat, v = .tuple #[u, .bool true] ∧ Gam.Own FDx B w.heap.size w' FDx.E u ob (zints (l.map fun (x : Nat) => (x : Int))) ∧ l.length = many ∧ l.Nodup ∧ (∀ x ∈ l, x < rows) ∧ St FDx B w w' := by
 refine enter2 60 [(0, .int .i64 (rows : Int)), (1, .int .i64 (many : Int)), (2, .int .i64 (fr : Int)), (3, .int .i64 (step : Int))] 8 9 Tryz.func21 rfl rfl rfl rfl rfl ?_; intro a hF
 have hS := St.refl hI
 have hft : fr % rows < rows := Nat.mod_lt _ (by omega)
 have hat := chS_at (step := step % rows) (show 0 < rows by omega) hft
 have hck := chS_ok (step := step % rows) (show 0 < rows by omega) hft
 have hmn := chS_many (step := step) hr.2 hft
 refine W_sr rfl (fun K hK => ?_)
 refine sv2 hF (v_assign rfl) (v_assign rfl) rfl rfl ?_; clear hF a; intro a hF
 refine WL_nil (hK _ _ ?_)
 clear hK K
 refine W_sr rfl (fun K hK => ?_)
 refine sv hF (v_assign rfl) rfl ?_; clear hF a; intro a hF
 refine WL_nil (hK _ _ ?_)
 clear hK K
 refine W_sr rfl (fun K hK => ?_)
 obtain ⟨gb, hgb⟩ : ∃ g, g = w.heap.size := ⟨_, rfl⟩
 refine s_mk (D := FDx) (B := B) (m := 20) hF sl86 rfl rfl (by simp) (by omega) (by simp only [maxLen]; omega) (by decide) hS.inv rfl ?_; clear hF a; intro w' a hm hI' hB hF
 replace hS := hS.mb0 hm
 clear hm hI'
 rw [← hgb] at hB hF
 replace hB := (hB.le (show w.heap.size ≤ gb by omega)).cast bls_zero
 refine sv hF (v_assign rfl) rfl ?_; clear hF a; intro a hF
 refine WL_nil (hK _ _ ?_)
 clear hK K
 replace hF := hF.sub _ (c_ 11 rfl (c_ 10 rfl (c_ 9 rfl (c_ 8 rfl (c_ 0 rfl (c_ 1 rfl (c_ 2 rfl (c_ 3 rfl (n_)))))))))
 refine W_sr rfl (fun K hK => ?_)
 refine sv2 hF (v_move rfl) (v_move rfl) rfl rfl ?_; clear hF a; intro a hF
 refine sv hF ((v_remI rfl rfl (by omega) (by omega)).as (show Value.int .i64 ((fr : Int) % (rows : Int)) = .int .i64 ((fr % rows : Nat) : Int) by simp)) rfl ?_; clear hF a; intro a hF
 refine sv hF (v_assign rfl) rfl ?_; clear hF a; intro a hF
 refine WL_nil (hK _ _ ?_)
 clear hK K
 replace hF := hF.sub _ (c_ 12 rfl (c_ 11 rfl (c_ 10 rfl (c_ 9 rfl (c_ 8 rfl (c_ 0 rfl (c_ 1 rfl (c_ 3 rfl (n_)))))))))
 refine W_seq ?_
 refine W_sr rfl (fun K hK => ?_)
 refine sv hF (v_assign rfl) rfl ?_; clear hF a; intro a hF
 refine WL_nil (hK _ _ ?_)
 clear hK K
 refine W_block ?_
 refine W_loop (fun q a w1 => ∃ (i : Nat) (v10 : Value) (b10 : Option Nat), Fr 60 [(0, .int .i64 (rows : Int)), (1, .int .i64 (many : Int)), (3, .int .i64 (step : Int)), (10, v10), (11, .slice (some ⟨gb, 0, none⟩) 20 20), (12, .int .i64 ((chS rows (step % rows) (fr % rows) i).2.2 : Int)), (13, .int .i64 (i : Int))] a ∧ (St FDx B w w1) ∧ (Gam.Own FDx B w.heap.size w1 4 (.slice (some ⟨gb, 0, none⟩) 20 20) (some gb) (bls (chS rows (step % rows) (fr % rows) i).2.1)) ∧ (Gam.Own FDx B w.heap.size w1 FDx.E v10 b10 (zints ((chS rows (step % rows) (fr % rows) i).1.map fun (x : Nat) => (x : Int)))) ∧ ((chS rows (step % rows) (fr % rows) i).1.length ≤ many) ∧ (i ≤ 2 * rows) ∧ (q + i = 2 * rows)) (2 * rows) ?_ ?_
 ·
  skip
  exact ⟨0, _, none, hF.sub _ (c_ 0 rfl (c_ 1 rfl (c_ 3 rfl (c_ 10 rfl (c_ 11 rfl (c_ 12 rfl (c_ 13 rfl (n_)))))))), hS, hB, Gam.Own.nil _ _ _ _ _, Nat.zero_le _, by omega, by omega⟩
 ·
  skip
  clear hF
  clear hS hB
  rintro q a w1 ⟨i, v10, b10, hF, hS, hB, hO, hl, hi, hq⟩
  refine W_seq ?_
  have hti := hat i
  have hzl : (zints ((chS rows (step % rows) (fr % rows) i).1.map fun (x : Nat) => (x : Int))).length = (chS rows (step % rows) (fr % rows) i).1.length := by rw [zints_length, List.length_map]
  obtain ⟨a10, c10, rfl⟩ := hO.shape
  rw [hzl] at hF hO
  refine W_sr rfl (fun K hK => ?_)
  refine sv2 hF (v_move rfl) (v_move rfl) rfl rfl ?_; clear hF a; intro a hF
  refine sv hF (v_mulI rfl rfl (by omega)) rfl ?_; clear hF a; intro a hF
  refine sb hF (v_lss rfl rfl) rfl ?_ ?_
  ·
   clear hF a; intro hc1 a hF
   try simp only [dcl] at hc1
   refine sv hF (v_move rfl) rfl ?_; clear hF a; intro a hF
   refine svg hF rfl ?_
   refine sv hF (v_move rfl) rfl ?_; clear hF a; intro a hF
   refine svg hF rfl ?_
   refine sv hF (v_lenS rfl sl53 rfl) rfl ?_; clear hF a; intro a hF
   refine svg hF rfl ?_
   refine sv hF (v_move rfl) rfl ?_; clear hF a; intro a hF
   refine svg hF rfl ?_
   refine sv hF (v_lss rfl rfl) rfl ?_; clear hF a; intro a hF
   refine sv hF (v_pickT rfl rfl) rfl ?_; clear hF a; intro a hF
   refine WL_nil (hK _ _ ?_)
   clear hK K
   replace hF := hF.sub _ (c_ 27 rfl (c_ 0 rfl (c_ 1 rfl (c_ 3 rfl (c_ 10 rfl (c_ 11 rfl (c_ 12 rfl (c_ 13 rfl (n_)))))))))
   refine W_if hF rfl (fun hc2 => ?_) (fun hc2 => ?_)
   ·
    skip
    try simp only [dcl] at hc2
    have hbk := (hB.kc (by decide) (bls_at (b := (chS rows (step % rows) (fr % rows) i).2.1) (show (chS rows (step % rows) (fr % rows) i).2.2 < 20 by omega)))
    obtain ⟨⟨l, b, t⟩, hs⟩ : ∃ s, s = (chS rows (step % rows) (fr % rows) i) := ⟨_, rfl⟩
    rw [← hs] at hF hB hO hl hti hbk hzl hc2
    dsimp only at hF hB hO hl hti hbk hzl hc2
    have hmo : (t + step % rows) % rows = (t + step) % rows := by rw [Nat.add_mod, Nat.mod_mod, ← Nat.add_mod]
    refine W_skip ?_
    refine W_seq ?_
    refine W_block ?_
    refine W_seq ?_
    refine W_sr rfl (fun K hK => ?_)
    refine sv2 hF (v_move rfl) (v_move rfl) rfl rfl ?_; clear hF a; intro a hF
    refine sv hF (v_ixS sl86 rfl rfl (by omega) (by omega)) rfl ?_; clear hF a; intro a hF
    refine sv hF (v_load sc4 rfl (by rw [toNat_c]; exact hbk.c)) rfl ?_; clear hF a; intro a hF
    refine sv hF (v_not rfl) rfl ?_; clear hF a; intro a hF
    refine WL_nil (hK _ _ ?_)
    clear hK K
    replace hF := hF.sub _ (c_ 34 rfl (c_ 0 rfl (c_ 1 rfl (c_ 3 rfl (c_ 10 rfl (c_ 11 rfl (c_ 12 rfl (c_ 13 rfl (n_)))))))))
    refine W_if hF rfl (fun hc3 => ?_) (fun hc3 => ?_)
    ·
     skip
     try simp only [dcl] at hc3
     have hbt : b.testBit t = false := by simpa using hc3
     have hlm : l.length < many := by omega
     refine W_sr rfl (fun K hK => ?_)
     refine sv2 hF (v_move rfl) (v_move rfl) rfl rfl ?_; clear hF a; intro a hF
     refine s_bs (D := FDx) (B := B) hF sl53 rfl rfl (by decide) (by simp [Value.cells]) (by decide) hS.inv rfl ?_; clear hF a; intro w' a hm hI' hL hF
     replace hB := hB.mb hm (fun _ _ => by simp)
     replace hO := hO.mb hm (fun _ _ => by simp)
     replace hS := hS.mb0 hm
     clear hm hI'
     refine s_app (D := FDx) (B := B) hF rfl sl53 rfl rfl hO (hL.row (by decide)) (by simp [Value.oneCell']) (by rw [hzl]; simp; omega) (by rw [hzl]; simp [maxLen]; omega) (hS.ext.size) (by decide) hS.inv rfl ?_; clear hF a; intro v' b' w' a ho' hm hI' hb' hF
     replace hB := hB.mb hm (hB.ne_type hO (by decide))
     replace hS := hS.mb hm (fun k h => Nat.le_trans (Nat.le_refl _) (hO.lt k h).1)
     replace hO := ho'
     clear hm hI' ho'
     replace hO : Gam.Own FDx B w.heap.size _ _ _ _ (zints ((l ++ [t]).map fun (x : Nat) => (x : Int))) := hO.cast (by simp [zints])
     clear hb'
     refine sv hF (v_assign rfl) rfl ?_; clear hF a; intro a hF
     refine WL_nil (hK _ _ ?_)
     clear hK K
     replace hF := hF.sub _ (c_ 10 rfl (c_ 0 rfl (c_ 1 rfl (c_ 3 rfl (c_ 11 rfl (c_ 12 rfl (c_ 13 rfl (n_))))))))
     refine W_reg rfl (fun K hK => ?_)
     refine sv2 hF (v_move rfl) (v_move rfl) rfl rfl ?_; clear hF a; intro a hF
     refine sv hF (v_ixS sl86 rfl rfl (by omega) (by omega)) rfl ?_; clear hF a; intro a hF
     refine s_set (D := FDx) (B := B) hF on4 rfl (by rw [toNat_c, bls_length]; omega) rfl rfl hB (by decide) hS.inv ?_; intro w' hm hI' ho'
     replace hO := hO.mb hm (hO.ne_type hB (by decide))
     replace hS := hS.mb hm (fun k h => Nat.le_trans (Nat.le_refl _) (hB.lt k h).1)
     replace hB := ho'
     clear hm hI' ho'
     rw [toNat_c, Nat.zero_add, bls_set (by omega)] at hB
     refine WL_nil (hK _ _ ?_)
     clear hK K
     replace hF := hF.sub _ (c_ 10 rfl (c_ 0 rfl (c_ 1 rfl (c_ 3 rfl (c_ 11 rfl (c_ 12 rfl (c_ 13 rfl (n_))))))))
     refine W_sr rfl (fun K hK => ?_)
     refine sv2 hF (v_move rfl) (v_move rfl) rfl rfl ?_; clear hF a; intro a hF
     refine sv hF (v_addI rfl rfl (by omega)) rfl ?_; clear hF a; intro a hF
     refine sv hF (v_move rfl) rfl ?_; clear hF a; intro a hF
     refine sv hF ((v_remI rfl rfl (by omega) (by omega)).as (show Value.int .i64 (((t : Int) + (step : Int)) % (rows : Int)) = .int .i64 (((t + step) % rows : Nat) : Int) by simp)) rfl ?_; clear hF a; intro a hF
     refine sv hF (v_assign rfl) rfl ?_; clear hF a; intro a hF
     refine WL_nil (hK _ _ ?_)
     clear hK K
     replace hF := hF.sub _ (c_ 12 rfl (c_ 10 rfl (c_ 0 rfl (c_ 1 rfl (c_ 3 rfl (c_ 11 rfl (c_ 13 rfl (n_))))))))
     have hta : (t + step) % rows < rows := Nat.mod_lt _ (by omega)
     have hbk2 := hB.kc (by decide) (bls_at (show (t + step) % rows < 20 by omega))
     refine W_sr rfl (fun K hK => ?_)
     refine sv2 hF (v_move rfl) (v_move rfl) rfl rfl ?_; clear hF a; intro a hF
     refine sv hF (v_ixS sl86 rfl rfl (by omega) (by omega)) rfl ?_; clear hF a; intro a hF
     refine sv hF (v_load sc4 rfl (by rw [toNat_c]; exact hbk2.c)) rfl ?_; clear hF a; intro a hF
     refine WL_nil (hK _ _ ?_)
     clear hK K
     replace hF := hF.sub _ (c_ 50 rfl (c_ 12 rfl (c_ 10 rfl (c_ 0 rfl (c_ 1 rfl (c_ 3 rfl (c_ 11 rfl (c_ 13 rfl (n_)))))))))
     refine W_if hF rfl (fun hc4 => ?_) (fun hc4 => ?_)
     ·
      skip
      try simp only [dcl] at hc4
      have hb2 : (b ||| 1 <<< t).testBit ((t + step) % rows) = true := by assumption
      have hst : chS rows (step % rows) (fr % rows) (i + 1) = (l ++ [t], (b ||| 1 <<< t), ((t + step) % rows + 1) % rows) := by
       rw [chS, ← hs]
       unfold stC
       dsimp only
       rw [hmo, hbt]
       simp only [Bool.false_eq_true, if_false, if_true]
       rw [hb2]
       rfl
      replace hl : (l ++ [t]).length ≤ many := by rw [List.length_append]; simp; omega
      clear hbk hbk2
      refine W_reg rfl (fun K hK => ?_)
      refine sv hF (v_move rfl) rfl ?_; clear hF a; intro a hF
      refine sv hF (v_addI rfl rfl (by omega)) rfl ?_; clear hF a; intro a hF
      refine sv hF (v_move rfl) rfl ?_; clear hF a; intro a hF
      refine sv hF ((v_remI rfl rfl (by omega) (by omega)).as (show Value.int .i64 (((((t + step) % rows : Nat) : Int) + 1) % (rows : Int)) = .int .i64 ((((t + step) % rows + 1) % rows : Nat) : Int) by simp)) rfl ?_; clear hF a; intro a hF
      refine sv hF (v_assign rfl) rfl ?_; clear hF a; intro a hF
      refine WL_nil (hK _ _ ?_)
      clear hK K
      replace hF := hF.sub _ (c_ 12 rfl (c_ 10 rfl (c_ 0 rfl (c_ 1 rfl (c_ 3 rfl (c_ 11 rfl (c_ 13 rfl (n_))))))))
      refine W_reg rfl (fun K hK => ?_)
      refine sv hF (v_move rfl) rfl ?_; clear hF a; intro a hF
      refine sv hF (v_addI rfl rfl (by omega)) rfl ?_; clear hF a; intro a hF
      refine sv hF (v_assign rfl) rfl ?_; clear hF a; intro a hF
      refine WL_nil (hK _ _ ?_)
      clear hK K
      exact ⟨q - 1, by omega, i + 1, _, _, hF.sub _ (c_ 0 rfl (c_ 1 rfl (c_ 3 rfl (c_ 10 rfl (c_ 11 rfl (c_ 12 (by rw [hst]; rfl) (c_ 13 rfl n_))))))), hS, by rw [hst]; exact hB, by rw [hst]; exact hO, by rw [hst]; exact hl, by omega, by omega⟩
     ·
      skip
      try simp only [dcl] at hc4
      have hb2 : (b ||| 1 <<< t).testBit ((t + step) % rows) = false := by assumption
      have hst : chS rows (step % rows) (fr % rows) (i + 1) = (l ++ [t], (b ||| 1 <<< t), (t + step) % rows) := by
       rw [chS, ← hs]
       unfold stC
       dsimp only
       rw [hmo, hbt]
       simp only [Bool.false_eq_true, if_false, if_true]
       rw [hb2]
       rfl
      replace hl : (l ++ [t]).length ≤ many := by rw [List.length_append]; simp; omega
      clear hbk hbk2
      refine W_skip ?_
      refine W_reg rfl (fun K hK => ?_)
      refine sv hF (v_move rfl) rfl ?_; clear hF a; intro a hF
      refine sv hF (v_addI rfl rfl (by omega)) rfl ?_; clear hF a; intro a hF
      refine sv hF (v_assign rfl) rfl ?_; clear hF a; intro a hF
      refine WL_nil (hK _ _ ?_)
      clear hK K
      replace hF := hF.sub _ (c_ 13 rfl (c_ 29 rfl (c_ 28 rfl (c_ 12 rfl (c_ 10 rfl (c_ 0 rfl (c_ 1 rfl (c_ 3 rfl (c_ 11 rfl (n_))))))))))
      exact ⟨q - 1, by omega, i + 1, _, _, hF.sub _ (c_ 0 rfl (c_ 1 rfl (c_ 3 rfl (c_ 10 rfl (c_ 11 rfl (c_ 12 (by rw [hst]; rfl) (c_ 13 rfl n_))))))), hS, by rw [hst]; exact hB, by rw [hst]; exact hO, by rw [hst]; exact hl, by omega, by omega⟩
    ·
     skip
     try simp only [dcl] at hc3
     have hbt : b.testBit t = true := by simpa using hc3
     refine W_skip ?_
     refine W_sr rfl (fun K hK => ?_)
     refine sv2 hF (v_move rfl) (v_move rfl) rfl rfl ?_; clear hF a; intro a hF
     refine sv hF (v_addI rfl rfl (by omega)) rfl ?_; clear hF a; intro a hF
     refine sv hF (v_move rfl) rfl ?_; clear hF a; intro a hF
     refine sv hF ((v_remI rfl rfl (by omega) (by omega)).as (show Value.int .i64 (((t : Int) + (step : Int)) % (rows : Int)) = .int .i64 (((t + step) % rows : Nat) : Int) by simp)) rfl ?_; clear hF a; intro a hF
     refine sv hF (v_assign rfl) rfl ?_; clear hF a; intro a hF
     refine WL_nil (hK _ _ ?_)
     clear hK K
     replace hF := hF.sub _ (c_ 12 rfl (c_ 0 rfl (c_ 1 rfl (c_ 3 rfl (c_ 10 rfl (c_ 11 rfl (c_ 13 rfl (n_))))))))
     have hta : (t + step) % rows < rows := Nat.mod_lt _ (by omega)
     have hbk2 := hB.kc (by decide) (bls_at (show (t + step) % rows < 20 by omega))
     refine W_sr rfl (fun K hK => ?_)
     refine sv2 hF (v_move rfl) (v_move rfl) rfl rfl ?_; clear hF a; intro a hF
     refine sv hF (v_ixS sl86 rfl rfl (by omega) (by omega)) rfl ?_; clear hF a; intro a hF
     refine sv hF (v_load sc4 rfl (by rw [toNat_c]; exact hbk2.c)) rfl ?_; clear hF a; intro a hF
     refine WL_nil (hK _ _ ?_)
     clear hK K
     replace hF := hF.sub _ (c_ 50 rfl (c_ 12 rfl (c_ 0 rfl (c_ 1 rfl (c_ 3 rfl (c_ 10 rfl (c_ 11 rfl (c_ 13 rfl (n_)))))))))
     refine W_if hF rfl (fun hc5 => ?_) (fun hc5 => ?_)
     ·
      skip
      try simp only [dcl] at hc5
      have hb2 : b.testBit ((t + step) % rows) = true := by assumption
      have hst : chS rows (step % rows) (fr % rows) (i + 1) = (l, b, ((t + step) % rows + 1) % rows) := by
       rw [chS, ← hs]
       unfold stC
       dsimp only
       rw [hmo, hbt]
       simp only [Bool.false_eq_true, if_false, if_true]
       rw [hb2]
       rfl
      replace hl : (l).length ≤ many := by exact hl
      clear hbk hbk2
      refine W_reg rfl (fun K hK => ?_)
      refine sv hF (v_move rfl) rfl ?_; clear hF a; intro a hF
      refine sv hF (v_addI rfl rfl (by omega)) rfl ?_; clear hF a; intro a hF
      refine sv hF (v_move rfl) rfl ?_; clear hF a; intro a hF
      refine sv hF ((v_remI rfl rfl (by omega) (by omega)).as (show Value.int .i64 (((((t + step) % rows : Nat) : Int) + 1) % (rows : Int)) = .int .i64 ((((t + step) % rows + 1) % rows : Nat) : Int) by simp)) rfl ?_; clear hF a; intro a hF
      refine sv hF (v_assign rfl) rfl ?_; clear hF a; intro a hF
      refine WL_nil (hK _ _ ?_)
      clear hK K
      replace hF := hF.sub _ (c_ 12 rfl (c_ 0 rfl (c_ 1 rfl (c_ 3 rfl (c_ 10 rfl (c_ 11 rfl (c_ 13 rfl (n_))))))))
      refine W_reg rfl (fun K hK => ?_)
      refine sv hF (v_move rfl) rfl ?_; clear hF a; intro a hF
      refine sv hF (v_addI rfl rfl (by omega)) rfl ?_; clear hF a; intro a hF
      refine sv hF (v_assign rfl) rfl ?_; clear hF a; intro a hF
      refine WL_nil (hK _ _ ?_)
      clear hK K
      exact ⟨q - 1, by omega, i + 1, _, _, hF.sub _ (c_ 0 rfl (c_ 1 rfl (c_ 3 rfl (c_ 10 rfl (c_ 11 rfl (c_ 12 (by rw [hst]; rfl) (c_ 13 rfl n_))))))), hS, by rw [hst]; exact hB, by rw [hst]; exact hO, by rw [hst]; exact hl, by omega, by omega⟩
     ·
      skip
      try simp only [dcl] at hc5
      have hb2 : b.testBit ((t + step) % rows) = false := by assumption
      have hst : chS rows (step % rows) (fr % rows) (i + 1) = (l, b, (t + step) % rows) := by
       rw [chS, ← hs]
       unfold stC
       dsimp only
       rw [hmo, hbt]
       simp only [Bool.false_eq_true, if_false, if_true]
       rw [hb2]
       rfl
      replace hl : (l).length ≤ many := by exact hl
      clear hbk hbk2
      refine W_skip ?_
      refine W_reg rfl (fun K hK => ?_)
      refine sv hF (v_move rfl) rfl ?_; clear hF a; intro a hF
      refine sv hF (v_addI rfl rfl (by omega)) rfl ?_; clear hF a; intro a hF
      refine sv hF (v_assign rfl) rfl ?_; clear hF a; intro a hF
      refine WL_nil (hK _ _ ?_)
      clear hK K
      replace hF := hF.sub _ (c_ 13 rfl (c_ 29 rfl (c_ 28 rfl (c_ 12 rfl (c_ 0 rfl (c_ 1 rfl (c_ 3 rfl (c_ 10 rfl (c_ 11 rfl (n_))))))))))
      exact ⟨q - 1, by omega, i + 1, _, _, hF.sub _ (c_ 0 rfl (c_ 1 rfl (c_ 3 rfl (c_ 10 rfl (c_ 11 rfl (c_ 12 (by rw [hst]; rfl) (c_ 13 rfl n_))))))), hS, by rw [hst]; exact hB, by rw [hst]; exact hO, by rw [hst]; exact hl, by omega, by omega⟩
   ·
    skip
    try simp only [dcl] at hc2
    refine W_exit rfl ?_
    have hlm : (chS rows (step % rows) (fr % rows) i).1.length = many := by
     by_cases hi2 : i = 2 * rows
     ·
      subst hi2; omega
     ·
      omega
    refine W_sr rfl (fun K hK => ?_)
    refine sv2 hF (v_move rfl) (v_move rfl) rfl rfl ?_; clear hF a; intro a hF
    refine sv hF (v_lenS rfl sl53 rfl) rfl ?_; clear hF a; intro a hF
    refine sv hF (v_move rfl) rfl ?_; clear hF a; intro a hF
    refine sv hF ((v_eql rfl rfl).as (congrArg Value.bool (decide_eq_true (by omega)))) rfl ?_; clear hF a; intro a hF
    refine sv2 hF (v_assign rfl) (v_assign rfl) rfl rfl ?_; clear hF a; intro a hF
    refine WL_nil (hK _ _ ?_)
    clear hK K
    replace hF := hF.sub _ (c_ 9 rfl (c_ 8 rfl (c_ 59 rfl (c_ 58 rfl (c_ 57 rfl (c_ 56 rfl (c_ 55 rfl (c_ 0 rfl (c_ 1 rfl (c_ 3 rfl (c_ 10 rfl (c_ 11 rfl (c_ 12 rfl (c_ 13 rfl (n_)))))))))))))))
    refine W_ret ?_
    refine ⟨_, _, _, hF, rfl, rfl, ?_⟩
    obtain ⟨h1, h2⟩ := hck i
    exact ⟨_, _, _, rfl, hO, hlm, h1, fun x hx => (h2 x).2 hx, hS⟩
  ·
   clear hF a; intro hc1 a hF
   try simp only [dcl] at hc1
   refine sv hF (v_move rfl) rfl ?_; clear hF a; intro a hF
   refine svn hF rfl rfl rfl ?_; clear hF a; intro a hF
   refine svn hF rfl rfl rfl ?_; clear hF a; intro a hF
   refine svn hF rfl rfl rfl ?_; clear hF a; intro a hF
   refine svn hF rfl rfl rfl ?_; clear hF a; intro a hF
   refine sv hF (v_pickF rfl rfl) rfl ?_; clear hF a; intro a hF
   refine WL_nil (hK _ _ ?_)
   clear hK K
   replace hF := hF.sub _ (c_ 27 rfl (c_ 0 rfl (c_ 1 rfl (c_ 3 rfl (c_ 10 rfl (c_ 11 rfl (c_ 12 rfl (c_ 13 rfl (n_)))))))))
   refine W_ifF hF rfl ?_
   refine W_exit rfl ?_
   have hlm : (chS rows (step % rows) (fr % rows) i).1.length = many := by
    by_cases hi2 : i = 2 * rows
    ·
     subst hi2; omega
    ·
     omega
   refine W_sr rfl (fun K hK => ?_)
   refine sv2 hF (v_move rfl) (v_move rfl) rfl rfl ?_; clear hF a; intro a hF
   refine sv hF (v_lenS rfl sl53 rfl) rfl ?_; clear hF a; intro a hF
   refine sv hF (v_move rfl) rfl ?_; clear hF a; intro a hF
   refine sv hF ((v_eql rfl rfl).as (congrArg Value.bool (decide_eq_true (by omega)))) rfl ?_; clear hF a; intro a hF
   refine sv2 hF (v_assign rfl) (v_assign rfl) rfl rfl ?_; clear hF a; intro a hF
   refine WL_nil (hK _ _ ?_)
   clear hK K
   replace hF := hF.sub _ (c_ 9 rfl (c_ 8 rfl (c_ 59 rfl (c_ 58 rfl (c_ 57 rfl (c_ 56 rfl (c_ 55 rfl (c_ 0 rfl (c_ 1 rfl (c_ 3 rfl (c_ 10 rfl (c_ 11 rfl (c_ 12 rfl (c_ 13 rfl (n_)))))))))))))))
   refine W_ret ?_
   refine ⟨_, _, _, hF, rfl, rfl, ?_⟩
   obtain ⟨h1, h2⟩ := hck i
   exact ⟨_, _, _, rfl, hO, hlm, h1, fun x hx => (h2 x).2 hx, hS⟩

end Go.Proofs.YtkoiolamnnmokaaGreat

/- The statement ProfileAny, walked: it returns true. -/
set_option linter.unusedVariables false
set_option linter.unusedSimpArgs false
namespace Go.Proofs.YtkoiolamnnmokaaGreat
open Go Go.Gam


namespace FxFProfileAny
theorem en6 : Ent Tryz.prog 6 := ent Tryz.func6 (by kernel_rfl) (by kernel_rfl)
theorem en11 : Ent Tryz.prog 11 := ent Tryz.func11 (by kernel_rfl) (by kernel_rfl)
theorem en13 : Ent Tryz.prog 13 := ent Tryz.func13 (by kernel_rfl) (by kernel_rfl)
theorem en18 : Ent Tryz.prog 18 := ent Tryz.func18 (by kernel_rfl) (by kernel_rfl)
theorem en19 : Ent Tryz.prog 19 := ent Tryz.func19 (by kernel_rfl) (by kernel_rfl)
theorem en20 : Ent Tryz.prog 20 := ent Tryz.func20 (by kernel_rfl) (by kernel_rfl)
theorem en21 : Ent Tryz.prog 21 := ent Tryz.func21 (by kernel_rfl) (by kernel_rfl)
theorem en22 : Ent Tryz.prog 22 := ent Tryz.func22 (by kernel_rfl) (by kernel_rfl)
theorem en23 : Ent Tryz.prog 23 := ent Tryz.func23 (by kernel_rfl) (by kernel_rfl)
theorem ar49 : ArrOf Tryz.prog 49 2 := ar_of Tryz.underlying49 (by kernel_rfl)
theorem fa23_0 : FieldFact Tryz.prog 23 0 0 := ff_of (sz := 0) Tryz.underlying23 (by kernel_rfl)
theorem fa23_1 : FieldFact Tryz.prog 23 1 1 := ff_of (sz := 0) Tryz.underlying23 (by kernel_rfl)
theorem fa23_2 : FieldFact Tryz.prog 23 2 2 := ff_of (sz := 0) Tryz.underlying23 (by kernel_rfl)
theorem sc3 : Scalar Tryz.prog 3 := ⟨_, Tryz.underlying3, by simp, by simp⟩
theorem sc5 : Scalar Tryz.prog 5 := ⟨_, Tryz.underlying5, by simp, by simp⟩
end FxFProfileAny
open FxFProfileAny

set_option maxRecDepth 100000 in
set_option maxHeartbeats 1000000 in
theorem ProfileAny_ok (B n0 n1 n2 h0 h1 : Nat) (w : World) (hI : Inv FDx B w) (hn08 : n0 < 256) (hn18 : n1 < 256) (hn28 : n2 < 256) (hh08 : h0 < 256) (hh18 : h1 < 256) : Ret Tryz.prog 4 [.agg #[.int .u8 (n0 : Int), .int .u8 (n1 : Int), .int .u8 (n2 : Int)], .agg #[.int .u8 (h0 : Int), .int .u8 (h1 : Int)]] w fun v w' => v = .bool true ∧ St FDx B w w' := by
 refine enter 87 [(0, .agg #[.int .u8 (n0 : Int), .int .u8 (n1 : Int), .int .u8 (n2 : Int)]), (1, .agg #[.int .u8 (h0 : Int), .int .u8 (h1 : Int)])] 4 Tryz.func4 rfl rfl rfl rfl rfl ?_; intro a hF
 have hS := St.refl hI
 refine W_sr rfl (fun K hK => ?_)
 refine s_box (D := FDx) (B := B) hF rfl (by decide) hS.inv rfl ?_; clear hF a; intro w' a hm hbx hsz hF
 replace hS := hS.mb0 hm
 clear hm
 refine s_box (D := FDx) (B := B) hF rfl (by decide) hS.inv rfl ?_; clear hF a; intro w' a hm hby hsz hF
 replace hbx := hbx.mb hm (by simp)
 replace hS := hS.mb0 hm
 clear hm
 refine sv hF (v_assign rfl) rfl ?_; clear hF a; intro a hF
 refine WL_nil (hK _ _ ?_)
 clear hK K
 replace hF := hF.sub _ (c_ 4 rfl (c_ 3 rfl (c_ 2 rfl (n_))))
 refine W_sr rfl (fun K hK => ?_)
 refine sc hF rfl rfl rfl en6 rfl (aw09_ok B _ hS.inv) ?_; clear hF a; intro v w' a hv hF
 obtain ⟨rfl, hS'⟩ := hv
 replace hbx := hbx.st (by decide) hS'
 replace hby := hby.st (by decide) hS'
 replace hS := hS.trans hS'
 clear hS'
 refine sv hF (v_assign rfl) rfl ?_; clear hF a; intro a hF
 refine WL_nil (hK _ _ ?_)
 clear hK K
 replace hF := hF.sub _ (c_ 5 rfl (c_ 4 rfl (c_ 3 rfl (c_ 2 rfl (n_)))))
 refine W_sr rfl (fun K hK => ?_)
 refine sv hF (v_loadN Tryz.underlying48 rfl (by kernel_rfl) rfl hbx) rfl ?_; clear hF a; intro a hF
 refine sc hF rfl rfl rfl en18 rfl (Some_ok B n0 n1 n2 _ hS.inv hn08 hn18 hn28) ?_; clear hF a; intro v w' a hv hF
 obtain ⟨rfl, hS'⟩ := hv
 replace hbx := hbx.st (by decide) hS'
 replace hby := hby.st (by decide) hS'
 replace hS := hS.trans hS'
 clear hS'
 have hmay := some_may n0 n1 n2
 obtain ⟨P, hP⟩ : ∃ P : Nat, 1 + n0 % 6 = P := ⟨_, rfl⟩
 obtain ⟨k1, hKk⟩ : ∃ k : Nat, 1 + n1 % 8 = k := ⟨_, rfl⟩
 rw [hP, hKk] at hmay
 rw [hP] at hF
 rw [hKk] at hF
 obtain ⟨m1, hM1⟩ : ∃ m : Nat, 1 + n2 % (maxM (P : Int)).toNat = m := ⟨_, rfl⟩
 rw [hM1] at hmay hF
 obtain ⟨p1, p2, k_, m_, ek, em, hk1, hk8, hm1, hm4, hm3⟩ := mayP_of hmay
 obtain rfl : k1 = k_ := by omega
 obtain rfl : m1 = m_ := by omega
 clear ek em
 have hs0 := hS.ext.size
 have tb := heap_lt hbx
 have tb2 := heap_lt hby
 refine s_allocN (D := FDx) (B := B) (z := .agg #[.int .i64 0, .int .i64 0, .int .i64 0]) hF (by kernel_rfl) (by decide) hS.inv rfl ?_; clear hF a; intro gx w' a hm hI' hx hF
 replace hbx := hbx.mb hm (by simp)
 replace hby := hby.mb hm (by simp)
 replace hS := hS.mb0 hm
 clear hm hI'
 have hghx := hx.low
 replace hx := hx.le hs0
 clear hs0
 refine s_storeN (D := FDx) (B := B) hF (by kernel_rfl) rfl rfl (rfl) (by rfl) hx hS.inv ?_; intro w' hm hI' hrc'
 replace hbx := hbx.mb hm (by simp; omega)
 replace hby := hby.mb hm (by simp; omega)
 replace hS := hS.mb hm (fun k h => by cases h; exact hx.low)
 replace hx := hrc'
 clear hm hI' hrc'
 refine WL_nil (hK _ _ ?_)
 clear hK K
 replace hF := hF.sub _ (c_ 6 rfl (c_ 5 rfl (c_ 4 rfl (c_ 3 rfl (n_)))))
 refine W_sr rfl (fun K hK => ?_)
 refine sv hF (v_fieldAddr fa23_0 rfl) rfl ?_; clear hF a; intro a hF
 refine sv hF (v_load sc3 rfl (hx.blk.at 0 rfl)) rfl ?_; clear hF a; intro a hF
 refine sc hF rfl rfl rfl en13 rfl (PField_in B (P : Int) _ hS.inv ⟨p1, p2⟩) ?_; clear hF a; intro v w' a hv hF
 obtain ⟨fv, hfv⟩ : ∃ x, x = v := ⟨_, rfl⟩
 subst hfv
 obtain ⟨hf, hS'⟩ := hv
 obtain ⟨wb, q, hq, hp⟩ := pfl_is (P : Int)
 rw [hq] at hf
 replace hbx := hbx.st (by decide) hS'
 replace hby := hby.st (by decide) hS'
 replace hx := hx.st hS'
 replace hS := hS.trans hS'
 clear hS'
 refine sv hF (v_assign rfl) rfl ?_; clear hF a; intro a hF
 refine WL_nil (hK _ _ ?_)
 clear hK K
 replace hF := hF.sub _ (c_ 7 rfl (c_ 6 rfl (c_ 5 rfl (c_ 4 rfl (c_ 3 rfl (n_))))))
 refine W_sr rfl (fun K hK => ?_)
 refine sv hF (v_loadN Tryz.underlying23 rfl (by kernel_rfl) rfl hx.blk) rfl ?_; clear hF a; intro a hF
 refine sc hF rfl rfl rfl en11 rfl (PPar_ok B (P : Int) k1 m1 _ hS.inv hmay) ?_; clear hF a; intro v w' a hv hF
 obtain ⟨sX, cX, rfl, hX, hS'⟩ := hv
 replace hbx := hbx.st (by decide) hS'
 replace hby := hby.st (by decide) hS'
 replace hx := hx.st hS'
 replace hf := hf.st hS'
 replace hS := hS.trans hS'
 clear hS'
 refine sv5 hF (v_move rfl) (v_ext rfl rfl) (v_ext rfl rfl) (v_assign rfl) (v_assign rfl) rfl rfl rfl rfl rfl ?_; clear hF a; intro a hF
 refine WL_nil (hK _ _ ?_)
 clear hK K
 replace hF := hF.sub _ (c_ 9 rfl (c_ 8 rfl (c_ 7 rfl (c_ 6 rfl (c_ 5 rfl (c_ 4 rfl (c_ 3 rfl (n_))))))))
 have hid : identM (k1 : Int) = idM k1 := identM_of (by omega)
 have hidl := idM_lens (k1 : Int)
 rw [hid] at hidl
 have hji := join_id hp (k := k1) (prT_bd hp (k := k1) (m := m1) hq) (m := m1) (by omega) (by omega) (by omega)
 rw [show Value.slice sX m1 cX = .slice sX (tab m1 k1 (prT (P : Int) k1 m1)).length cX by rw [tab_length]] at hF
 refine W_sr rfl (fun K hK => ?_)
 refine sv hF (v_move rfl) rfl ?_; clear hF a; intro a hF
 refine sv hF (v_fieldAddr fa23_1 rfl) rfl ?_; clear hF a; intro a hF
 refine sv hF (v_load sc3 rfl (hx.blk.at 1 rfl)) rfl ?_; clear hF a; intro a hF
 refine sc hF rfl rfl rfl en20 rfl (rIdentity_ok B (k1 : Int) _ hS.inv (by omega)) ?_; clear hF a; intro v w' a hv hF
 obtain ⟨obI_, hoI_, hS'⟩ := hv
 rw [hid] at hoI_
 obtain ⟨sI_, cI_, rfl, hI_⟩ := hoI_.mat (by decide) (Nat.zero_le _)
 clear hoI_
 replace hbx := hbx.st (by decide) hS'
 replace hby := hby.st (by decide) hS'
 replace hx := hx.st hS'
 replace hf := hf.st hS'
 replace hX := (hX.st hS').mono hS'.ext.size
 replace hS := hS.trans hS'
 clear hS'
 refine sv hF (v_move rfl) rfl ?_; clear hF a; intro a hF
 refine sc hF rfl rfl rfl en19 rfl (Join_ok B _ (some (wb, q)) fv _ _ (idM k1) _ _ (tab m1 k1 (prT (P : Int) k1 m1)) _ hS.inv (Nat.le_refl _) hf hI_ (len20 hidl).1 (len20 hidl).2 hX (len20 (tab_lens (by omega) (by omega))).1 (len20 (tab_lens (by omega) (by omega))).2) ?_; clear hF a; intro v w' a hv hF
 obtain ⟨obJ, uJ, rfl, hoJ, hS'⟩ := hv
 rw [hji] at hoJ hF
 try simp only [Option.getD_some, Option.getD_none] at hoJ
 obtain ⟨sJ, cJ, rfl, hJ⟩ := hoJ.mat (by decide) (Nat.zero_le _)
 clear hoJ
 replace hbx := hbx.st (by decide) hS'
 replace hby := hby.st (by decide) hS'
 replace hx := hx.st hS'
 replace hf := hf.st hS'
 replace hX := (hX.st hS').mono hS'.ext.size
 replace hI_ := (hI_.st hS').mono hS'.ext.size
 replace hS := hS.trans hS'
 clear hS'
 refine sv5 hF (v_move rfl) (v_ext rfl rfl) (v_ext rfl rfl) (v_assign rfl) (v_assign rfl) rfl rfl rfl rfl rfl ?_; clear hF a; intro a hF
 refine WL_nil (hK _ _ ?_)
 clear hK K
 replace hF := hF.sub _ (c_ 11 rfl (c_ 10 rfl (c_ 9 rfl (c_ 7 rfl (c_ 6 rfl (c_ 5 rfl (c_ 4 rfl (c_ 3 rfl (n_)))))))))
 refine W_sr rfl (fun K hK => ?_)
 refine sv hF (v_fieldAddr fa23_1 rfl) rfl ?_; clear hF a; intro a hF
 refine sv hF (v_load sc3 rfl (hx.blk.at 1 rfl)) rfl ?_; clear hF a; intro a hF
 refine sv hF (v_fieldAddr fa23_2 rfl) rfl ?_; clear hF a; intro a hF
 refine sv hF (v_load sc3 rfl (hx.blk.at 2 rfl)) rfl ?_; clear hF a; intro a hF
 refine sv hF ((v_addI rfl rfl (by omega)).as (show Value.int .i64 ((k1 : Int) + (m1 : Int)) = .int .i64 ((k1 + m1 : Nat) : Int) by simp)) rfl ?_; clear hF a; intro a hF
 refine sv hF (v_fieldAddr fa23_1 rfl) rfl ?_; clear hF a; intro a hF
 refine sv hF (v_load sc3 rfl (hx.blk.at 1 rfl)) rfl ?_; clear hF a; intro a hF
 refine sv hF (v_ixA ar49 rfl rfl (by omega) (by omega)) rfl ?_; clear hF a; intro a hF
 refine sv hF (v_load sc5 rfl (hby.at 0 rfl)) rfl ?_; clear hF a; intro a hF
 refine sv hF (v_cv Tryz.underlying5 Tryz.underlying3 rfl (wrap_i64 _ (by omega))) rfl ?_; clear hF a; intro a hF
 refine sv hF (v_ixA ar49 rfl rfl (by omega) (by omega)) rfl ?_; clear hF a; intro a hF
 refine sv hF (v_load sc5 rfl (hby.at 1 rfl)) rfl ?_; clear hF a; intro a hF
 refine sv hF (v_cv Tryz.underlying5 Tryz.underlying3 rfl (wrap_i64 _ (by omega))) rfl ?_; clear hF a; intro a hF
 refine sc hF rfl rfl rfl en21 rfl (Chosen_ok B (k1 + m1) k1 h0 h1 _ hS.inv (by omega) (by omega) (by omega)) ?_; clear hF a; intro v w' a hv hF
 obtain ⟨obL, uL, lc, rfl, hO, hll, hln, hlt, hS'⟩ := hv
 obtain ⟨aL, cL, rfl⟩ := hO.shape
 have hL : Row FDx B _ _ _ (zints (casts lc)) := hO.row (by decide)
 rw [zints_length] at hL hF
 clear hO
 replace hbx := hbx.st (by decide) hS'
 replace hby := hby.st (by decide) hS'
 replace hx := hx.st hS'
 replace hf := hf.st hS'
 replace hX := (hX.st hS').mono hS'.ext.size
 replace hI_ := (hI_.st hS').mono hS'.ext.size
 replace hJ := (hJ.st hS').mono hS'.ext.size
 replace hS := hS.trans hS'
 clear hS'
 refine sv2 hF (v_move rfl) (v_ext rfl rfl) rfl rfl ?_; clear hF a; intro a hF
 refine sv hF ((v_ext rfl rfl).as (congrArg Value.bool (rfl))) rfl ?_; clear hF a; intro a hF
 refine sv2 hF (v_assign rfl) (v_assign rfl) rfl rfl ?_; clear hF a; intro a hF
 refine WL_nil (hK _ _ ?_)
 clear hK K
 replace hF := hF.sub _ (c_ 13 rfl (c_ 12 rfl (c_ 11 rfl (c_ 10 rfl (c_ 9 rfl (c_ 7 rfl (c_ 5 rfl (c_ 4 rfl (n_)))))))))
 refine W_seq ?_
 refine W_sr rfl (fun K hK => ?_)
 refine sv hF (v_move rfl) rfl ?_; clear hF a; intro a hF
 refine sv hF ((v_neq rfl rfl).as (congrArg Value.bool (decide_eq_false (fun h => h rfl)))) rfl ?_; clear hF a; intro a hF
 refine sv hF (v_move rfl) rfl ?_; clear hF a; intro a hF
 refine svg hF rfl ?_
 refine sv hF (v_move rfl) rfl ?_; clear hF a; intro a hF
 refine svg hF rfl ?_
 refine sv hF ((v_neq rfl rfl).as (congrArg Value.bool (decide_eq_false (fun h => h rfl)))) rfl ?_; clear hF a; intro a hF
 refine sv2 hF (v_pickF rfl rfl) (v_move rfl) rfl rfl ?_; clear hF a; intro a hF
 refine svg hF rfl ?_
 refine sv hF (v_move rfl) rfl ?_; clear hF a; intro a hF
 refine svg hF rfl ?_
 refine sv hF (v_not rfl) rfl ?_; clear hF a; intro a hF
 refine sv hF (v_pickF rfl rfl) rfl ?_; clear hF a; intro a hF
 refine WL_nil (hK _ _ ?_)
 clear hK K
 replace hF := hF.sub _ (c_ 64 rfl (c_ 12 rfl (c_ 10 rfl (c_ 7 rfl (c_ 5 rfl (c_ 4 rfl (n_)))))))
 refine W_ifF hF rfl ?_
 refine W_skip ?_
 obtain ⟨P_, hp1, hp2⟩ := prT_pick hp hq hmay hll hln hlt
 have hpl := len20 (pickM_lens (some (wb, q)) (tab (k1 + m1) k1 (beh k1 (prT (P : Int) k1 m1))) (casts lc))
 rw [hp1] at hpl
 simp only [Option.getD_some] at hpl
 have hcl := casts_length lc
 refine W_sr rfl (fun K hK => ?_)
 refine sv3 hF (v_move rfl) (v_move rfl) (v_move rfl) rfl rfl rfl ?_; clear hF a; intro a hF
 refine sc hF rfl rfl rfl en22 rfl (Pick_ok B _ (some (wb, q)) fv _ _ (tab (k1 + m1) k1 (beh k1 (prT (P : Int) k1 m1))) _ _ (casts lc) _ hS.inv (Nat.le_refl _) hf hJ (len20 (tab_lens (by omega) (by omega))).1 (len20 (tab_lens (by omega) (by omega))).2 hL (by rw [casts_length]; exact Nat.le_trans (show _ ≤ 1000 by omega) (by decide))) ?_; clear hF a; intro v w' a hv hF
 obtain ⟨obP_, uP_, rfl, hoP_, hS'⟩ := hv
 rw [hp1] at hoP_ hF
 try simp only [Option.getD_some, Option.getD_none] at hoP_
 obtain ⟨sP_, cP_, rfl, hP_⟩ := hoP_.mat (by decide) (Nat.zero_le _)
 clear hoP_
 replace hbx := hbx.st (by decide) hS'
 replace hby := hby.st (by decide) hS'
 replace hx := hx.st hS'
 replace hf := hf.st hS'
 replace hX := (hX.st hS').mono hS'.ext.size
 replace hI_ := (hI_.st hS').mono hS'.ext.size
 replace hJ := (hJ.st hS').mono hS'.ext.size
 replace hL := (hL.st hS').mono hS'.ext.size
 replace hS := hS.trans hS'
 clear hS'
 refine sv5 hF (v_move rfl) (v_ext rfl rfl) (v_ext rfl rfl) (v_assign rfl) (v_assign rfl) rfl rfl rfl rfl rfl ?_; clear hF a; intro a hF
 refine WL_nil (hK _ _ ?_)
 clear hK K
 replace hF := hF.sub _ (c_ 15 rfl (c_ 14 rfl (c_ 7 rfl (c_ 5 rfl (c_ 4 rfl (n_))))))
 refine W_sr rfl (fun K hK => ?_)
 refine sv2 hF (v_move rfl) (v_move rfl) rfl rfl ?_; clear hF a; intro a hF
 refine sc hF rfl rfl rfl en23 rfl (Inverse_ok B _ wb q hp fv _ _ P_ _ hS.inv (Nat.le_refl _) hf hP_ hpl.1 hpl.2) ?_; clear hF a; intro v w' a hv hF
 obtain ⟨obV, uV, rfl, hoV, hS'⟩ := hv
 obtain ⟨sV, cV, rfl, hV⟩ := hoV.mat (by decide) (Nat.zero_le _)
 clear hoV
 replace hbx := hbx.st (by decide) hS'
 replace hby := hby.st (by decide) hS'
 replace hx := hx.st hS'
 replace hf := hf.st hS'
 replace hX := (hX.st hS').mono hS'.ext.size
 replace hI_ := (hI_.st hS').mono hS'.ext.size
 replace hJ := (hJ.st hS').mono hS'.ext.size
 replace hL := (hL.st hS').mono hS'.ext.size
 replace hP_ := (hP_.st hS').mono hS'.ext.size
 replace hS := hS.trans hS'
 clear hS'
 refine sv5 hF (v_move rfl) (v_ext rfl rfl) (v_ext rfl rfl) (v_assign rfl) (v_assign rfl) rfl rfl rfl rfl rfl ?_; clear hF a; intro a hF
 refine WL_nil (hK _ _ ?_)
 clear hK K
 replace hF := hF.sub _ (c_ 17 rfl (c_ 15 rfl (c_ 5 rfl (c_ 4 rfl (n_)))))
 refine W_sr rfl (fun K hK => ?_)
 refine sv2 hF (v_move rfl) (v_move rfl) rfl rfl ?_; clear hF a; intro a hF
 refine svg hF rfl ?_
 refine sv hF (v_move rfl) rfl ?_; clear hF a; intro a hF
 refine svg hF rfl ?_
 refine sv hF ((v_eql rfl rfl).as (congrArg Value.bool (decide_eq_true (rfl)))) rfl ?_; clear hF a; intro a hF
 refine sv2 hF (v_pickT rfl rfl) (v_move rfl) rfl rfl ?_; clear hF a; intro a hF
 refine svg hF rfl ?_
 refine sv hF (v_move rfl) rfl ?_; clear hF a; intro a hF
 refine svg hF rfl ?_
 refine sv hF ((v_eql rfl rfl).as (congrArg Value.bool (decide_eq_true (hp2)))) rfl ?_; clear hF a; intro a hF
 refine sv2 hF (v_pickT rfl rfl) (v_assign rfl) rfl rfl ?_; clear hF a; intro a hF
 refine WL_nil (hK _ _ ?_)
 clear hK K
 replace hF := hF.sub _ (c_ 4 rfl (n_))
 refine W_ret ?_
 refine ⟨_, _, hF, rfl, ?_⟩
 exact ⟨rfl, hS⟩

end Go.Proofs.YtkoiolamnnmokaaGreat
