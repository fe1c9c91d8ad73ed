/- The statement RegionNobody, walked: it returns true. -/
import Derived.Test.YtlkifpmlpnaaoaaFAw03
set_option linter.unusedVariables false
set_option linter.unusedSimpArgs false
namespace Go.Proofs.Ytlkifpmlpnaaoaa
open Go Go.Gam


namespace FxFRegionNobody
theorem en15 : Ent Try.prog 15 := ent Try.func15 (by kernel_rfl) (by kernel_rfl)
theorem en16 : Ent Try.prog 16 := ent Try.func16 (by kernel_rfl) (by kernel_rfl)
theorem en17 : Ent Try.prog 17 := ent Try.func17 (by kernel_rfl) (by kernel_rfl)
theorem en19 : Ent Try.prog 19 := ent Try.func19 (by kernel_rfl) (by kernel_rfl)
theorem en25 : Ent Try.prog 25 := ent Try.func25 (by kernel_rfl) (by kernel_rfl)
theorem en26 : Ent Try.prog 26 := ent Try.func26 (by kernel_rfl) (by kernel_rfl)
theorem en35 : Ent Try.prog 35 := ent Try.func35 (by kernel_rfl) (by kernel_rfl)
theorem en39 : Ent Try.prog 39 := ent Try.func39 (by kernel_rfl) (by kernel_rfl)
theorem sl22 : Sl Try.prog 22 5 (.int .u8 0) 1 := sl_of Try.underlying22 rfl (by kernel_rfl)
theorem sl23 : Sl Try.prog 23 3 (.int .i64 0) 8 := sl_of Try.underlying23 rfl (by kernel_rfl)
theorem sl59 : Sl Try.prog 59 22 (.slice none 0 0) 24 := sl_of Try.underlying59 rfl (by kernel_rfl)
end FxFRegionNobody
open FxFRegionNobody

set_option maxRecDepth 100000 in
set_option maxHeartbeats 1000000 in
theorem RegionNobody_ok (B M : Nat) (pb : Option Addr) (cb : Nat) (b : List Nat) (ic : Int) (w : World) (hI : Inv FDx B w) (hM : M ≤ w.heap.size) (hb : Row FDx B M w (.slice pb b.length cb) (byt b)) (hb8 : ∀ x ∈ b, x < 256) (hbl : b.length ≤ maxLen) (hic : -9223372036854775808 ≤ ic ∧ ic < 9223372036854775808) : Ret Try.prog 8 [.slice pb b.length cb, .int .i64 ic] w fun v w' => v = .bool true ∧ St FDx B w w' := by
  refine enter 103 [(0, .slice pb b.length cb), (1, .int .i64 ic)] 4 Try.func8 rfl rfl rfl rfl rfl ?_; intro a hF
  have hS := St.refl hI
  simp only [maxLen] at hbl
  refine W_sr rfl (fun K hK => ?_)
  refine sv hF (v_assign rfl) rfl ?_; clear hF a; intro a hF
  refine WL_nil (hK _ _ ?_)
  clear hK K
  refine W_sr rfl (fun K hK => ?_)
  refine sc hF rfl rfl rfl en15 rfl (aw03_ok B _ hS.inv) ?_; clear hF a; intro v w' a hv hF
  obtain ⟨rfl, hS'⟩ := hv
  replace hb := hb.st hS'
  replace hS := hS.trans hS'
  clear hS'
  refine sv hF (v_assign rfl) rfl ?_; clear hF a; intro a hF
  refine WL_nil (hK _ _ ?_)
  clear hK K
  replace hF := hF.sub _ (c_ 5 rfl (c_ 4 rfl (c_ 0 rfl (c_ 1 rfl (n_)))))
  refine W_seq ?_
  refine W_sr rfl (fun K hK => ?_)
  refine sv hF (v_move rfl) rfl ?_; clear hF a; intro a hF
  refine sv hF (v_lenS rfl sl22 rfl) rfl ?_; clear hF a; intro a hF
  refine sv hF (v_gtr rfl rfl) rfl ?_; clear hF a; intro a hF
  refine WL_nil (hK _ _ ?_)
  clear hK K
  replace hF := hF.sub _ (c_ 24 rfl (c_ 5 rfl (c_ 4 rfl (c_ 0 rfl (c_ 1 rfl (n_))))))
  refine W_if hF rfl (fun hc1 => ?_) (fun hc1 => ?_)
  · skip
    try simp only [decide_eq_true_eq, decide_eq_false_iff_not, Bool.not_eq_true', Bool.not_eq_false', Bool.not_true, Bool.not_false] at hc1
    refine W_sr rfl (fun K hK => ?_)
    refine sv hF (v_move rfl) rfl ?_; clear hF a; intro a hF
    refine sv hF (v_assign rfl) rfl ?_; clear hF a; intro a hF
    refine WL_nil (hK _ _ ?_)
    clear hK K
    replace hF := hF.sub _ (c_ 4 rfl (c_ 5 rfl (c_ 0 rfl (c_ 1 rfl (n_)))))
    refine W_ret ?_
    refine ⟨_, _, hF, rfl, ?_⟩
    exact ⟨rfl, hS⟩
  · skip
    try simp only [decide_eq_true_eq, decide_eq_false_iff_not, Bool.not_eq_true', Bool.not_eq_false', Bool.not_true, Bool.not_false] at hc1
    refine W_skip ?_
    refine W_sr rfl (fun K hK => ?_)
    refine sc hF rfl rfl rfl en16 rfl (field3_ok B false _ hS.inv) ?_; clear hF a; intro v w' a hv hF
    obtain ⟨fv, rfl, hf, hS'⟩ := hv
    rw [show fq false = (8, 285) from rfl] at hf
    replace hb := hb.st hS'
    replace hS := hS.trans hS'
    clear hS'
    refine sv hF (v_move rfl) rfl ?_; clear hF a; intro a hF
    refine sv hF (v_ext rfl rfl) rfl ?_; clear hF a; intro a hF
    refine sv hF (v_ext rfl rfl) rfl ?_; clear hF a; intro a hF
    refine sv hF (v_ext rfl rfl) rfl ?_; clear hF a; intro a hF
    refine sv hF (v_assign rfl) rfl ?_; clear hF a; intro a hF
    refine sv hF (v_assign rfl) rfl ?_; clear hF a; intro a hF
    refine sv hF (v_assign rfl) rfl ?_; clear hF a; intro a hF
    refine WL_nil (hK _ _ ?_)
    clear hK K
    replace hF := hF.sub _ (c_ 6 rfl (c_ 5 rfl (c_ 4 rfl (c_ 0 rfl (c_ 1 rfl (n_))))))
    refine W_sr rfl (fun K hK => ?_)
    refine sv hF (v_move rfl) rfl ?_; clear hF a; intro a hF
    refine sc hF rfl rfl rfl en17 rfl (Words_ok B _ none _ pb cb b _ rfl hS.inv hb (Nat.le_trans hM hS.ext.size) hb8 (by omega)) ?_; clear hF a; intro v w' a hv hF
    obtain ⟨sX1, obX1, rfl, hOX1, hS'⟩ := hv
    rw [show rwords none b = none from rfl] at hOX1 hF
    try simp only [Option.getD_some, Option.getD_none] at hOX1
    obtain ⟨aX1, cX1, rfl⟩ := hOX1.shape
    have hX1 := hOX1.row (by decide)
    rw [ints_length] at hX1 hF
    clear hOX1
    replace hb := hb.st hS'
    replace hf := hf.st hS'
    replace hS := hS.trans hS'
    clear hS'
    refine sv hF (v_move rfl) rfl ?_; clear hF a; intro a hF
    refine sv hF (v_ext rfl rfl) rfl ?_; clear hF a; intro a hF
    refine sv hF (v_ext rfl rfl) rfl ?_; clear hF a; intro a hF
    refine sv hF (v_assign rfl) rfl ?_; clear hF a; intro a hF
    refine sv hF (v_assign rfl) rfl ?_; clear hF a; intro a hF
    refine WL_nil (hK _ _ ?_)
    clear hK K
    replace hF := hF.sub _ (c_ 10 rfl (c_ 6 rfl (c_ 5 rfl (c_ 4 rfl (c_ 0 rfl (c_ 1 rfl (n_)))))))
    refine W_sr rfl (fun K hK => ?_)
    refine sc hF rfl rfl rfl en19 rfl (Bytes_ok B _ none _ none 0 [] _ rfl hS.inv (.inl ⟨_, _, rfl, rfl⟩) (Nat.le_refl _) (by decide)) ?_; clear hF a; intro v w' a hv hF
    obtain ⟨sX2, obX2, rfl, hOX2, hS'⟩ := hv
    rw [show rbytes none [] = none from rfl] at hOX2 hF
    try simp only [Option.getD_some, Option.getD_none] at hOX2
    obtain ⟨aX2, cX2, rfl⟩ := hOX2.shape
    have hX2 := hOX2.row (by decide)
    rw [byt_length] at hX2 hF
    clear hOX2
    replace hb := hb.st hS'
    replace hf := hf.st hS'
    replace hX1 := (hX1.st hS').mono hS'.ext.size
    replace hS := hS.trans hS'
    clear hS'
    refine sv hF (v_move rfl) rfl ?_; clear hF a; intro a hF
    refine sv hF (v_ext rfl rfl) rfl ?_; clear hF a; intro a hF
    refine sv hF (v_ext rfl rfl) rfl ?_; clear hF a; intro a hF
    refine sv hF (v_assign rfl) rfl ?_; clear hF a; intro a hF
    refine sv hF (v_assign rfl) rfl ?_; clear hF a; intro a hF
    refine WL_nil (hK _ _ ?_)
    clear hK K
    replace hF := hF.sub _ (c_ 12 rfl (c_ 10 rfl (c_ 6 rfl (c_ 5 rfl (c_ 4 rfl (c_ 0 rfl (c_ 1 rfl (n_))))))))
    refine W_sr rfl (fun K hK => ?_)
    refine sv hF (v_move rfl) rfl ?_; clear hF a; intro a hF
    refine sv hF (v_move rfl) rfl ?_; clear hF a; intro a hF
    refine sc hF rfl rfl rfl en26 rfl (Mul_reg B _ none _ ic pb cb b _ rfl hS.inv hb (Nat.le_trans hM hS.ext.size) hb8 (by omega)) ?_; clear hF a; intro v w' a hv hF
    obtain ⟨sX3, obX3, rfl, hOX3, hS'⟩ := hv
    rw [show rmul none ic b = none from rfl] at hOX3 hF
    try simp only [Option.getD_some, Option.getD_none] at hOX3
    obtain ⟨aX3, cX3, rfl⟩ := hOX3.shape
    have hX3 := hOX3.row (by decide)
    rw [byt_length] at hX3 hF
    clear hOX3
    replace hb := hb.st hS'
    replace hf := hf.st hS'
    replace hX1 := (hX1.st hS').mono hS'.ext.size
    replace hX2 := (hX2.st hS').mono hS'.ext.size
    replace hS := hS.trans hS'
    clear hS'
    refine sv hF (v_move rfl) rfl ?_; clear hF a; intro a hF
    refine sv hF (v_ext rfl rfl) rfl ?_; clear hF a; intro a hF
    refine sv hF (v_ext rfl rfl) rfl ?_; clear hF a; intro a hF
    refine sv hF (v_assign rfl) rfl ?_; clear hF a; intro a hF
    refine sv hF (v_assign rfl) rfl ?_; clear hF a; intro a hF
    refine WL_nil (hK _ _ ?_)
    clear hK K
    replace hF := hF.sub _ (c_ 14 rfl (c_ 12 rfl (c_ 10 rfl (c_ 6 rfl (c_ 5 rfl (c_ 4 rfl (c_ 0 rfl (n_))))))))
    refine W_sr rfl (fun K hK => ?_)
    refine sv hF (v_move rfl) rfl ?_; clear hF a; intro a hF
    refine sc hF rfl rfl rfl en35 rfl (Dot_reg B _ (some (8, 285)) fv none none 0 0 [] [] [] _ hf hS.inv (.inl ⟨_, _, rfl, rfl⟩) (.inl ⟨_, _, rfl, rfl⟩) ⟨rfl, by simp⟩ (Nat.le_refl _) (by simp) (by simp) (by simp)) ?_; clear hF a; intro v w' a hv hF
    obtain ⟨sX4, obX4, rfl, hOX4, hS'⟩ := hv
    rw [rdot_none1 (.inr rfl)] at hOX4 hF
    try simp only [Option.getD_some, Option.getD_none] at hOX4
    obtain ⟨aX4, cX4, rfl⟩ := hOX4.shape
    have hX4 := hOX4.row (by decide)
    rw [byt_length] at hX4 hF
    clear hOX4
    replace hb := hb.st hS'
    replace hf := hf.st hS'
    replace hX1 := (hX1.st hS').mono hS'.ext.size
    replace hX2 := (hX2.st hS').mono hS'.ext.size
    replace hX3 := (hX3.st hS').mono hS'.ext.size
    replace hS := hS.trans hS'
    clear hS'
    refine sv hF (v_move rfl) rfl ?_; clear hF a; intro a hF
    refine sv hF (v_ext rfl rfl) rfl ?_; clear hF a; intro a hF
    refine sv hF (v_ext rfl rfl) rfl ?_; clear hF a; intro a hF
    refine sv hF (v_assign rfl) rfl ?_; clear hF a; intro a hF
    refine sv hF (v_assign rfl) rfl ?_; clear hF a; intro a hF
    refine WL_nil (hK _ _ ?_)
    clear hK K
    replace hF := hF.sub _ (c_ 16 rfl (c_ 14 rfl (c_ 12 rfl (c_ 10 rfl (c_ 6 rfl (c_ 5 rfl (c_ 4 rfl (c_ 0 rfl (n_)))))))))
    clear hX1 hX2 hX3 hX4
    refine W_sr rfl (fun K hK => ?_)
    refine sv hF (v_move rfl) rfl ?_; clear hF a; intro a hF
    refine s_bs (D := FDx) (B := B) hF sl23 rfl rfl (by decide) (by simp [Value.cells]) (by decide) hS.inv rfl ?_; clear hF a; intro w' a hm hI' hL1 hF
    replace hb := hb.mb hm (fun _ h => by cases h)
    replace hf := hf.mb hm
    replace hS := hS.mb0 hm
    clear hm hI'
    refine sv hF (v_move rfl) rfl ?_; clear hF a; intro a hF
    have hsz3 := hS.ext.size
    refine s_bs (D := FDx) (B := B) hF sl22 rfl rfl (by decide) (by simp [Value.cells]) (by decide) hS.inv rfl ?_; clear hF a; intro w' a hm hI' hE hF
    replace hb := hb.mb hm (fun _ h => by cases h)
    replace hf := hf.mb hm
    replace hL1 := hL1.mb hm (fun _ _ => by simp)
    replace hS := hS.mb0 hm
    clear hm hI'
    replace hE := hE.le hsz3
    refine sv hF (v_move rfl) rfl ?_; clear hF a; intro a hF
    refine s_app (D := FDx) (B := B) hF rfl sl22 rfl rfl hE (hb) (by intro u hu; obtain ⟨_, _, rfl⟩ := List.mem_map.1 hu; rfl) (by simp; omega) (by simp [maxLen]; omega) (hS.ext.size) (by decide) hS.inv rfl ?_; clear hF a; intro v' b' w' a ho' hm hI' hb' hF
    replace hb := hb.mb hm (fun k h => Nat.le_trans (hM) (hE.lt k h).1)
    replace hf := hf.mb hm
    replace hL1 := hL1.mb hm (hL1.ne_type hE (by decide))
    replace hS := hS.mb hm (fun k h => Nat.le_trans (Nat.le_refl _) (hE.lt k h).1)
    replace hE := ho'
    clear hm hI' ho'
    refine s_bs (D := FDx) (B := B) hF sl22 rfl rfl (by decide) (by simp [Value.cells]) (by decide) hS.inv rfl ?_; clear hF a; intro w' a hm hI' hB7 hF
    replace hb := hb.mb hm (fun _ h => by cases h)
    replace hf := hf.mb hm
    replace hL1 := hL1.mb hm (fun _ _ => by simp)
    replace hE := hE.mb hm (fun _ _ => by simp)
    replace hS := hS.mb0 hm
    clear hm hI'
    have hszB := hS.ext.size
    have hB7r := hB7.row (by decide)
    refine s_app (D := FDx) (B := B) hF rfl sl22 rfl rfl hE (hB7r) (by simp [Value.oneCell']) (by simp; omega) (by simp [maxLen]; omega) (hS.ext.size) (by decide) hS.inv rfl ?_; clear hF a; intro v' b' w' a ho' hm hI' hb' hF
    replace hb := hb.mb hm (fun k h => Nat.le_trans (hM) (hE.lt k h).1)
    replace hf := hf.mb hm
    replace hL1 := hL1.mb hm (hL1.ne_type hE (by decide))
    replace hS := hS.mb hm (fun k h => Nat.le_trans (Nat.le_refl _) (hE.lt k h).1)
    replace hE := ho'
    clear hm hI' ho'
    replace hE : Own FDx B w.heap.size _ _ _ _ (byt (b ++ [7])) := hE.cast (by simp [byt])
    obtain ⟨aE, cE, rfl⟩ := hE.shape
    have hbE := rows2_two (hb.mono (Nat.le_trans hM hS.ext.size)) (hE.row (by decide))
    clear hB7r
    refine s_bs (D := FDx) (B := B) hF sl59 rfl rfl (by decide) (by simp [Value.cells]) (by decide) hS.inv rfl ?_; clear hF a; intro w' a hm hI' hLR hF
    replace hb := hb.mb hm (fun _ h => by cases h)
    replace hf := hf.mb hm
    replace hL1 := hL1.mb hm (fun _ _ => by simp)
    replace hbE := (hbE.mb hm (fun _ h => by cases h)).mono hm.size
    replace hS := hS.mb0 hm
    clear hm hI'
    refine sc hF rfl rfl rfl en35 rfl (Dot_reg B _ (some (8, 285)) fv _ _ _ _ [1, 1] [_, _] [b, b ++ [7]] _ hf hS.inv ((hL1.cast (ys := zints [1, 1]) rfl).row (by decide)) (hLR.row (by decide)) hbE (Nat.le_refl _) (by intro x hx; simp at hx; rcases hx with rfl | rfl; exact hb8; intro u hu; simp at hu; rcases hu with hu | rfl; exact hb8 u hu; decide) (by simp) (by intro x hx; simp at hx; rcases hx with rfl | rfl; omega; simp; omega)) ?_; clear hF a; intro v w' a hv hF
    obtain ⟨sX5, obX5, rfl, hOX5, hS'⟩ := hv
    rw [rdot_unlike (b0 := b) (b := b ++ [7]) (c0 := 1) (c := 1) (j := 1) (.inl rfl) rfl rfl rfl rfl (by simp)] at hOX5 hF
    try simp only [Option.getD_some, Option.getD_none] at hOX5
    obtain ⟨aX5, cX5, rfl⟩ := hOX5.shape
    have hX5 := hOX5.row (by decide)
    rw [byt_length] at hX5 hF
    clear hOX5
    replace hb := hb.st hS'
    replace hf := hf.st hS'
    replace hS := hS.trans hS'
    clear hS'
    refine sv hF (v_move rfl) rfl ?_; clear hF a; intro a hF
    refine sv hF (v_ext rfl rfl) rfl ?_; clear hF a; intro a hF
    refine sv hF (v_ext rfl rfl) rfl ?_; clear hF a; intro a hF
    refine sv hF (v_assign rfl) rfl ?_; clear hF a; intro a hF
    refine sv hF (v_assign rfl) rfl ?_; clear hF a; intro a hF
    refine WL_nil (hK _ _ ?_)
    clear hK K
    replace hF := hF.sub _ (c_ 18 rfl (c_ 16 rfl (c_ 14 rfl (c_ 12 rfl (c_ 10 rfl (c_ 5 rfl (c_ 4 rfl (c_ 0 rfl (n_)))))))))
    refine W_sr rfl (fun K hK => ?_)
    refine sv hF (v_move rfl) rfl ?_; clear hF a; intro a hF
    have hsz1 := hS.ext.size
    refine s_bs (D := FDx) (B := B) hF sl22 rfl rfl (by decide) (by simp [Value.cells]) (by decide) hS.inv rfl ?_; clear hF a; intro w' a hm hI' hE hF
    replace hb := hb.mb hm (fun _ h => by cases h)
    replace hf := hf.mb hm
    replace hS := hS.mb0 hm
    clear hm hI'
    replace hE := hE.le hsz1
    refine sv hF (v_move rfl) rfl ?_; clear hF a; intro a hF
    refine s_app (D := FDx) (B := B) hF rfl sl22 rfl rfl hE (hb) (by intro u hu; obtain ⟨_, _, rfl⟩ := List.mem_map.1 hu; rfl) (by simp; omega) (by simp [maxLen]; omega) (hS.ext.size) (by decide) hS.inv rfl ?_; clear hF a; intro v' b' w' a ho' hm hI' hb' hF
    replace hb := hb.mb hm (fun k h => Nat.le_trans (hM) (hE.lt k h).1)
    replace hf := hf.mb hm
    replace hS := hS.mb hm (fun k h => Nat.le_trans (Nat.le_refl _) (hE.lt k h).1)
    replace hE := ho'
    clear hm hI' ho'
    refine s_bs (D := FDx) (B := B) hF sl22 rfl rfl (by decide) (by simp [Value.cells]) (by decide) hS.inv rfl ?_; clear hF a; intro w' a hm hI' hB7 hF
    replace hb := hb.mb hm (fun _ h => by cases h)
    replace hf := hf.mb hm
    replace hE := hE.mb hm (fun _ _ => by simp)
    replace hS := hS.mb0 hm
    clear hm hI'
    have hszB := hS.ext.size
    have hB7r := hB7.row (by decide)
    refine s_app (D := FDx) (B := B) hF rfl sl22 rfl rfl hE (hB7r) (by simp [Value.oneCell']) (by simp; omega) (by simp [maxLen]; omega) (hS.ext.size) (by decide) hS.inv rfl ?_; clear hF a; intro v' b' w' a ho' hm hI' hb' hF
    replace hb := hb.mb hm (fun k h => Nat.le_trans (hM) (hE.lt k h).1)
    replace hf := hf.mb hm
    replace hS := hS.mb hm (fun k h => Nat.le_trans (Nat.le_refl _) (hE.lt k h).1)
    replace hE := ho'
    clear hm hI' ho'
    replace hE : Own FDx B w.heap.size _ _ _ _ (byt (b ++ [7])) := hE.cast (by simp [byt])
    obtain ⟨aE, cE, rfl⟩ := hE.shape
    have hEr := hE.row (by decide)
    rw [byt_length] at hF hEr
    refine sc hF rfl rfl rfl en25 rfl (Add_reg B _ _ _ _ _ b (b ++ [7]) _ hS.inv (hb.mono (Nat.le_trans hM hS.ext.size)) hEr (Nat.le_refl _) hb8 (by intro u hu; simp at hu; rcases hu with hu | rfl; exact hb8 u hu; decide) (by omega) (by simp; omega)) ?_; clear hF a; intro v w' a hv hF
    obtain ⟨sX6, obX6, rfl, hOX6, hS'⟩ := hv
    rw [rsum_two_no (by simp)] at hOX6 hF
    try simp only [Option.getD_some, Option.getD_none] at hOX6
    obtain ⟨aX6, cX6, rfl⟩ := hOX6.shape
    have hX6 := hOX6.row (by decide)
    rw [byt_length] at hX6 hF
    clear hOX6
    replace hb := hb.st hS'
    replace hf := hf.st hS'
    replace hS := hS.trans hS'
    clear hS'
    refine sv hF (v_move rfl) rfl ?_; clear hF a; intro a hF
    refine sv hF (v_ext rfl rfl) rfl ?_; clear hF a; intro a hF
    refine sv hF (v_ext rfl rfl) rfl ?_; clear hF a; intro a hF
    refine sv hF (v_assign rfl) rfl ?_; clear hF a; intro a hF
    refine sv hF (v_assign rfl) rfl ?_; clear hF a; intro a hF
    refine WL_nil (hK _ _ ?_)
    clear hK K
    replace hF := hF.sub _ (c_ 20 rfl (c_ 18 rfl (c_ 16 rfl (c_ 14 rfl (c_ 12 rfl (c_ 10 rfl (c_ 5 rfl (c_ 4 rfl (n_)))))))))
    refine W_sr rfl (fun K hK => ?_)
    refine sv hF (v_move rfl) rfl ?_; clear hF a; intro a hF
    refine sv hF (v_move rfl) rfl ?_; clear hF a; intro a hF
    refine svg hF rfl ?_
    refine sv hF (v_move rfl) rfl ?_; clear hF a; intro a hF
    refine svg hF rfl ?_
    refine sv hF ((v_eql rfl rfl).as (congrArg Value.bool (decide_eq_true (rfl)))) rfl ?_; clear hF a; intro a hF
    refine sv hF (v_pickT rfl rfl) rfl ?_; clear hF a; intro a hF
    refine sv hF (v_move rfl) rfl ?_; clear hF a; intro a hF
    refine svg hF rfl ?_
    refine sv hF (v_move rfl) rfl ?_; clear hF a; intro a hF
    refine svg hF rfl ?_
    refine sv hF ((v_eql rfl rfl).as (congrArg Value.bool (decide_eq_true (rfl)))) rfl ?_; clear hF a; intro a hF
    refine sv hF (v_pickT rfl rfl) rfl ?_; clear hF a; intro a hF
    refine sv hF (v_move rfl) rfl ?_; clear hF a; intro a hF
    refine svg hF rfl ?_
    refine sv hF (v_move rfl) rfl ?_; clear hF a; intro a hF
    refine svg hF rfl ?_
    refine sv hF ((v_eql rfl rfl).as (congrArg Value.bool (decide_eq_true (rfl)))) rfl ?_; clear hF a; intro a hF
    refine sv hF (v_pickT rfl rfl) rfl ?_; clear hF a; intro a hF
    refine sv hF (v_move rfl) rfl ?_; clear hF a; intro a hF
    refine svg hF rfl ?_
    refine sv hF (v_move rfl) rfl ?_; clear hF a; intro a hF
    refine svg hF rfl ?_
    refine sv hF ((v_eql rfl rfl).as (congrArg Value.bool (decide_eq_true (rfl)))) rfl ?_; clear hF a; intro a hF
    refine sv hF (v_pickT rfl rfl) rfl ?_; clear hF a; intro a hF
    refine sv hF (v_move rfl) rfl ?_; clear hF a; intro a hF
    refine svg hF rfl ?_
    refine sv hF (v_move rfl) rfl ?_; clear hF a; intro a hF
    refine svg hF rfl ?_
    refine sv hF ((v_eql rfl rfl).as (congrArg Value.bool (decide_eq_true (rfl)))) rfl ?_; clear hF a; intro a hF
    refine sv hF (v_pickT rfl rfl) rfl ?_; clear hF a; intro a hF
    refine sv hF (v_move rfl) rfl ?_; clear hF a; intro a hF
    refine svg hF rfl ?_
    refine sv hF (v_move rfl) rfl ?_; clear hF a; intro a hF
    refine svg hF rfl ?_
    refine sv hF ((v_eql rfl rfl).as (congrArg Value.bool (decide_eq_true (rfl)))) rfl ?_; clear hF a; intro a hF
    refine sv hF (v_pickT rfl rfl) rfl ?_; clear hF a; intro a hF
    refine sv hF (v_move rfl) rfl ?_; clear hF a; intro a hF
    refine svg hF rfl ?_
    refine sc hF rfl rfl rfl en39 rfl (rIn_ok B 8 285 256 _ hS.inv (by decide)) ?_; clear hF a; intro v w' a hv hF
    obtain ⟨rfl, hw⟩ := hv
    obtain rfl := hw.symm
    have hS' := St.refl hS.inv
    rw [show inF (some (8, 285)) 256 = false by decide] at hF
    replace hb := hb.st hS'
    replace hf := hf.st hS'
    replace hX6 := (hX6.st hS').mono hS'.ext.size
    replace hS := hS.trans hS'
    clear hS'
    refine svg hF rfl ?_
    refine sv hF (v_not rfl) rfl ?_; clear hF a; intro a hF
    refine sv hF (v_pickT rfl rfl) rfl ?_; clear hF a; intro a hF
    refine sv hF (v_assign rfl) rfl ?_; clear hF a; intro a hF
    refine WL_nil (hK _ _ ?_)
    clear hK K
    replace hF := hF.sub _ (c_ 4 rfl (n_))
    refine W_ret ?_
    refine ⟨_, _, hF, rfl, ?_⟩
    exact ⟨rfl, hS⟩

end Go.Proofs.Ytlkifpmlpnaaoaa
