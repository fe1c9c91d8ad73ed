/- The statement RegionUndo, walked: it returns true. -/
import Derived.Test.YtlkifpmlpnaaoaaFAw03
set_option linter.unusedVariables false
set_option linter.unusedSimpArgs false
namespace Go.Proofs.Ytlkifpmlpnaaoaa
open Go Go.Gam


namespace FxFRegionUndo
theorem en15 : Ent Try.prog 15 := ent Try.func15 (by kernel_rfl) (by kernel_rfl)
theorem en16 : Ent Try.prog 16 := ent Try.func16 (by kernel_rfl) (by kernel_rfl)
theorem en23 : Ent Try.prog 23 := ent Try.func23 (by kernel_rfl) (by kernel_rfl)
theorem en24 : Ent Try.prog 24 := ent Try.func24 (by kernel_rfl) (by kernel_rfl)
theorem en25 : Ent Try.prog 25 := ent Try.func25 (by kernel_rfl) (by kernel_rfl)
theorem en26 : Ent Try.prog 26 := ent Try.func26 (by kernel_rfl) (by kernel_rfl)
theorem en40 : Ent Try.prog 40 := ent Try.func40 (by kernel_rfl) (by kernel_rfl)
theorem sl22 : Sl Try.prog 22 5 (.int .u8 0) 1 := sl_of Try.underlying22 rfl (by kernel_rfl)
end FxFRegionUndo
open FxFRegionUndo

set_option maxRecDepth 100000 in
set_option maxHeartbeats 1000000 in
theorem RegionUndo_ok (B M : Nat) (lg : Bool) (c : Nat) (pb : Option Addr) (cb : Nat) (b : List Nat) (w : World) (hI : Inv FDx B w) (hM : M ≤ w.heap.size) (hc : c < 65536) (hb : Row FDx B M w (.slice pb b.length cb) (byt b)) (hb8 : ∀ x ∈ b, x < 256) (hbl : b.length ≤ maxLen) : Ret Try.prog 9 [.bool lg, .int .u16 (c : Int), .slice pb b.length cb] w fun v w' => v = .bool true ∧ St FDx B w w' := by
  refine enter 98 [(0, .bool lg), (1, .int .u16 (c : Int)), (2, .slice pb b.length cb)] 6 Try.func9 rfl rfl rfl rfl rfl ?_; intro a hF
  have hS := St.refl hI
  replace hb := hb.mono hM
  simp only [maxLen] at hbl
  refine W_sr rfl (fun K hK => ?_)
  refine sv hF (v_assign rfl) rfl ?_; clear hF a; intro a hF
  refine WL_nil (hK _ _ ?_)
  clear hK K
  refine W_sr rfl (fun K hK => ?_)
  refine sc hF rfl rfl rfl en15 rfl (aw03_ok B _ hS.inv) ?_; clear hF a; intro v w' a hv hF
  obtain ⟨rfl, hS'⟩ := hv
  replace hb := (hb.st hS').mono hS'.ext.size
  replace hS := hS.trans hS'
  clear hS'
  refine sv hF (v_assign rfl) rfl ?_; clear hF a; intro a hF
  refine WL_nil (hK _ _ ?_)
  clear hK K
  replace hF := hF.sub _ (c_ 7 rfl (c_ 6 rfl (c_ 0 rfl (c_ 1 rfl (c_ 2 rfl (n_))))))
  refine W_seq ?_
  refine W_sr rfl (fun K hK => ?_)
  refine sv hF (v_move rfl) rfl ?_; clear hF a; intro a hF
  refine sv hF (v_lenS rfl sl22 rfl) rfl ?_; clear hF a; intro a hF
  refine sb hF (v_gtr rfl rfl) rfl ?_ ?_
  · clear hF a; intro hc1 a hF
    try simp only [decide_eq_true_eq, decide_eq_false_iff_not, Bool.not_eq_true', Bool.not_eq_false', Bool.not_true, Bool.not_false] at hc1
    refine sv hF (v_move rfl) rfl ?_; clear hF a; intro a hF
    refine svn hF rfl rfl rfl ?_; clear hF a; intro a hF
    refine svn hF rfl rfl rfl ?_; clear hF a; intro a hF
    refine svn hF rfl rfl rfl ?_; clear hF a; intro a hF
    refine svn hF rfl rfl rfl ?_; clear hF a; intro a hF
    refine sv hF (v_pickT rfl rfl) rfl ?_; clear hF a; intro a hF
    refine WL_nil (hK _ _ ?_)
    clear hK K
    replace hF := hF.sub _ (c_ 31 rfl (c_ 7 rfl (c_ 6 rfl (c_ 0 rfl (c_ 1 rfl (c_ 2 rfl (n_)))))))
    refine W_ifT hF rfl ?_
    refine W_sr rfl (fun K hK => ?_)
    refine sv hF (v_move rfl) rfl ?_; clear hF a; intro a hF
    refine sv hF (v_assign rfl) rfl ?_; clear hF a; intro a hF
    refine WL_nil (hK _ _ ?_)
    clear hK K
    replace hF := hF.sub _ (c_ 6 rfl (c_ 7 rfl (c_ 0 rfl (c_ 1 rfl (c_ 2 rfl (n_))))))
    refine W_ret ?_
    refine ⟨_, _, hF, rfl, ?_⟩
    exact ⟨rfl, hS⟩
  · clear hF a; intro hc1 a hF
    try simp only [decide_eq_true_eq, decide_eq_false_iff_not, Bool.not_eq_true', Bool.not_eq_false', Bool.not_true, Bool.not_false] at hc1
    refine sv hF (v_move rfl) rfl ?_; clear hF a; intro a hF
    refine svg hF rfl ?_
    refine sv hF (v_move rfl) rfl ?_; clear hF a; intro a hF
    refine svg hF rfl ?_
    refine sv hF (v_lenS rfl sl22 rfl) rfl ?_; clear hF a; intro a hF
    refine svg hF rfl ?_
    refine sv hF (v_remI rfl rfl (by omega) (by omega)) rfl ?_; clear hF a; intro a hF
    refine svg hF rfl ?_
    refine sv hF (v_neq rfl rfl) rfl ?_; clear hF a; intro a hF
    refine sv hF (v_pickF rfl rfl) rfl ?_; clear hF a; intro a hF
    refine WL_nil (hK _ _ ?_)
    clear hK K
    replace hF := hF.sub _ (c_ 31 rfl (c_ 7 rfl (c_ 6 rfl (c_ 0 rfl (c_ 1 rfl (c_ 2 rfl (n_)))))))
    refine W_if hF rfl (fun hc2 => ?_) (fun hc2 => ?_)
    · skip
      try simp only [decide_eq_true_eq, decide_eq_false_iff_not, Bool.not_eq_true', Bool.not_eq_false', Bool.not_true, Bool.not_false] at hc2
      refine W_sr rfl (fun K hK => ?_)
      refine sv hF (v_move rfl) rfl ?_; clear hF a; intro a hF
      refine sv hF (v_assign rfl) rfl ?_; clear hF a; intro a hF
      refine WL_nil (hK _ _ ?_)
      clear hK K
      replace hF := hF.sub _ (c_ 6 rfl (c_ 7 rfl (c_ 0 rfl (c_ 1 rfl (c_ 2 rfl (n_))))))
      refine W_ret ?_
      refine ⟨_, _, hF, rfl, ?_⟩
      exact ⟨rfl, hS⟩
    · skip
      try simp only [decide_eq_true_eq, decide_eq_false_iff_not, Bool.not_eq_true', Bool.not_eq_false', Bool.not_true, Bool.not_false] at hc2
      refine W_skip ?_
      refine W_sr rfl (fun K hK => ?_)
      refine sv hF (v_move rfl) rfl ?_; clear hF a; intro a hF
      refine sc hF rfl rfl rfl en16 rfl (field3_ok B lg _ hS.inv) ?_; clear hF a; intro v w' a hv hF
      obtain ⟨fv, rfl, hf, hS'⟩ := hv
      obtain ⟨⟨wb, p⟩, hq⟩ : ∃ q, fq lg = q := ⟨_, rfl⟩
      have hq1 : (fq lg).1 = wb := by rw [hq]
      have hq2 : (fq lg).2 = p := by rw [hq]
      rw [hq] at hf
      rw [hq1, hq2] at hF
      clear hq1 hq2
      have hp : Prm wb p := hf.1
      obtain ⟨kk, rfl, -⟩ := hf.2
      replace hb := (hb.st hS').mono hS'.ext.size
      replace hS := hS.trans hS'
      clear hS'
      refine sv hF (v_move rfl) rfl ?_; clear hF a; intro a hF
      refine sv hF (v_ext rfl rfl) rfl ?_; clear hF a; intro a hF
      refine sv hF (v_ext rfl rfl) rfl ?_; clear hF a; intro a hF
      refine sv hF (v_ext rfl rfl) rfl ?_; clear hF a; intro a hF
      refine sv hF (v_assign rfl) rfl ?_; clear hF a; intro a hF
      refine sv hF (v_assign rfl) rfl ?_; clear hF a; intro a hF
      refine sv hF (v_assign rfl) rfl ?_; clear hF a; intro a hF
      refine WL_nil (hK _ _ ?_)
      clear hK K
      replace hF := hF.sub _ (c_ 8 rfl (c_ 7 rfl (c_ 6 rfl (c_ 1 rfl (c_ 2 rfl (n_))))))
      refine W_seq ?_
      refine W_sr rfl (fun K hK => ?_)
      refine sv hF (v_move rfl) rfl ?_; clear hF a; intro a hF
      refine sv hF ((v_eqlNil (by exact Try.underlying25) rfl rfl).as (congrArg Value.bool (rfl))) rfl ?_; clear hF a; intro a hF
      refine WL_nil (hK _ _ ?_)
      clear hK K
      replace hF := hF.sub _ (c_ 40 rfl (c_ 8 rfl (c_ 7 rfl (c_ 6 rfl (c_ 1 rfl (c_ 2 rfl (n_)))))))
      refine W_ifF hF rfl ?_
      refine W_skip ?_
      refine W_sr rfl (fun K hK => ?_)
      refine sv hF (v_move rfl) rfl ?_; clear hF a; intro a hF
      refine sv hF (v_cv Try.underlying43 Try.underlying3 rfl (wrap_i64 _ (by omega))) rfl ?_; clear hF a; intro a hF
      refine sv hF (v_move rfl) rfl ?_; clear hF a; intro a hF
      refine sc hF rfl rfl rfl en24 rfl (Size_ok B (some (wb, p)) _ _ hf) ?_; clear hF a; intro v w' a hv hF
      obtain ⟨rfl, hw⟩ := hv
      obtain rfl := hw.symm
      have hS' := St.refl hS.inv
      replace hb := (hb.st hS').mono hS'.ext.size
      replace hf := hf.st hS'
      replace hS := hS.trans hS'
      clear hS'
      rw [fsz_some] at hF
      have hsz := hp.size
      refine sv hF ((v_remI rfl rfl (by omega) (by omega)).as (congrArg _ (Int.natCast_emod c _).symm)) rfl ?_; clear hF a; intro a hF
      refine sv hF ((v_maxI rfl rfl rfl).as (congrArg _ (show max ((c % 2 ^ wb : Nat) : Int) 1 = ((max (c % 2 ^ wb) 1 : Nat) : Int) by omega))) rfl ?_; clear hF a; intro a hF
      refine sv hF (v_assign rfl) rfl ?_; clear hF a; intro a hF
      refine WL_nil (hK _ _ ?_)
      clear hK K
      replace hF := hF.sub _ (c_ 11 rfl (c_ 8 rfl (c_ 7 rfl (c_ 6 rfl (c_ 2 rfl (n_))))))
      have hm : max (c % 2 ^ wb) 1 < 2 ^ wb := by have := Nat.mod_lt c (show 0 < 2 ^ wb by omega); omega
      have hm0 : max (c % 2 ^ wb) 1 ≠ 0 := by omega
      generalize max (c % 2 ^ wb) 1 = m at *
      have hbm : b.length % (wb / 8) = 0 := by rcases nn12 hp with ⟨_, e⟩ | ⟨_, e⟩ <;> rw [e] <;> omega
      obtain ⟨P, eP, hPl, eB⟩ := undo hp hm hm0 hbm hb8
      have hP8 : ∀ x ∈ P, x < 256 := by have := rmul_lt hp (m : Int) b; rw [eP] at this; exact this
      have hrs : rsum [b, P] = some (xorB b P) := rsum_two hPl.symm
      have hxl : (xorB b P).length = b.length := xorB_len hPl.symm
      refine W_sr rfl (fun K hK => ?_)
      refine sv hF (v_move rfl) rfl ?_; clear hF a; intro a hF
      refine sv hF (v_move rfl) rfl ?_; clear hF a; intro a hF
      refine sc hF rfl rfl rfl en40 rfl (Inv_gf B (some (wb, p)) _ (m : Int) _ hS.inv hf) ?_; clear hF a; intro v w' a hv hF
      obtain ⟨rfl, hS'⟩ := hv
      replace hb := (hb.st hS').mono hS'.ext.size
      replace hf := hf.st hS'
      replace hS := hS.trans hS'
      clear hS'
      refine sv hF (v_move rfl) rfl ?_; clear hF a; intro a hF
      refine sv hF (v_ext rfl rfl) rfl ?_; clear hF a; intro a hF
      refine sv hF (v_ext rfl rfl) rfl ?_; clear hF a; intro a hF
      refine sv hF (v_assign rfl) rfl ?_; clear hF a; intro a hF
      refine sv hF (v_assign rfl) rfl ?_; clear hF a; intro a hF
      refine WL_nil (hK _ _ ?_)
      clear hK K
      replace hF := hF.sub _ (c_ 12 rfl (c_ 11 rfl (c_ 8 rfl (c_ 7 rfl (c_ 6 rfl (c_ 2 rfl (n_)))))))
      refine W_sr rfl (fun K hK => ?_)
      refine sv hF (v_move rfl) rfl ?_; clear hF a; intro a hF
      refine sv hF (v_move rfl) rfl ?_; clear hF a; intro a hF
      refine sv hF (v_move rfl) rfl ?_; clear hF a; intro a hF
      refine sc hF rfl rfl rfl en26 rfl (Mul_reg B _ (some (wb, p)) _ (m : Int) pb cb b _ hf hS.inv hb (Nat.le_refl _) hb8 (by omega)) ?_; clear hF a; intro v w' a hv hF
      obtain ⟨sX, obX, rfl, hOX, hS'⟩ := hv
      rw [eP] at hOX hF
      try simp only [Option.getD_some, Option.getD_none] at hOX
      obtain ⟨aX, cX, rfl⟩ := hOX.shape
      have hX := hOX.row (by decide)
      rw [byt_length] at hX hF
      clear hOX
      replace hb := (hb.st hS').mono hS'.ext.size
      replace hf := hf.st hS'
      replace hS := hS.trans hS'
      clear hS'
      refine sv hF (v_move rfl) rfl ?_; clear hF a; intro a hF
      refine sv hF (v_ext rfl rfl) rfl ?_; clear hF a; intro a hF
      refine sv hF (v_ext rfl rfl) rfl ?_; clear hF a; intro a hF
      refine sv hF (v_assign rfl) rfl ?_; clear hF a; intro a hF
      refine sv hF (v_assign rfl) rfl ?_; clear hF a; intro a hF
      refine WL_nil (hK _ _ ?_)
      clear hK K
      replace hF := hF.sub _ (c_ 14 rfl (c_ 12 rfl (c_ 8 rfl (c_ 7 rfl (c_ 6 rfl (c_ 2 rfl (n_)))))))
      refine W_sr rfl (fun K hK => ?_)
      refine sv hF (v_move rfl) rfl ?_; clear hF a; intro a hF
      refine sv hF (v_move rfl) rfl ?_; clear hF a; intro a hF
      refine sv hF (v_move rfl) rfl ?_; clear hF a; intro a hF
      refine sc hF rfl rfl rfl en26 rfl (Mul_reg B _ (some (wb, p)) _ (ginv (some (wb, p)) (m : Int)) _ _ P _ hf hS.inv hX (Nat.le_refl _) hP8 (by omega)) ?_; clear hF a; intro v w' a hv hF
      obtain ⟨sY, obY, rfl, hOY, hS'⟩ := hv
      rw [eB] at hOY hF
      try simp only [Option.getD_some, Option.getD_none] at hOY
      obtain ⟨aY, cY, rfl⟩ := hOY.shape
      have hY := hOY.row (by decide)
      rw [byt_length] at hY hF
      clear hOY
      replace hb := (hb.st hS').mono hS'.ext.size
      replace hf := hf.st hS'
      replace hX := (hX.st hS').mono hS'.ext.size
      replace hS := hS.trans hS'
      clear hS'
      refine sv hF (v_move rfl) rfl ?_; clear hF a; intro a hF
      refine sv hF (v_ext rfl rfl) rfl ?_; clear hF a; intro a hF
      refine sv hF (v_ext rfl rfl) rfl ?_; clear hF a; intro a hF
      refine sv hF (v_assign rfl) rfl ?_; clear hF a; intro a hF
      refine sv hF (v_assign rfl) rfl ?_; clear hF a; intro a hF
      refine WL_nil (hK _ _ ?_)
      clear hK K
      replace hF := hF.sub _ (c_ 17 rfl (c_ 16 rfl (c_ 14 rfl (c_ 7 rfl (c_ 6 rfl (c_ 2 rfl (n_)))))))
      refine W_sr rfl (fun K hK => ?_)
      refine sv hF (v_move rfl) rfl ?_; clear hF a; intro a hF
      refine sv hF (v_move rfl) rfl ?_; clear hF a; intro a hF
      refine sc hF rfl rfl rfl en25 rfl (Add_reg B _ _ _ _ _ b P _ hS.inv hb hX (Nat.le_refl _) hb8 hP8 (by omega) (by omega)) ?_; clear hF a; intro v w' a hv hF
      obtain ⟨sS_, obS_, rfl, hOS_, hS'⟩ := hv
      rw [hrs] at hOS_ hF
      try simp only [Option.getD_some, Option.getD_none] at hOS_
      obtain ⟨aS_, cS_, rfl⟩ := hOS_.shape
      have hS_ := hOS_.row (by decide)
      rw [byt_length] at hS_ hF
      clear hOS_
      replace hb := (hb.st hS').mono hS'.ext.size
      replace hf := hf.st hS'
      replace hX := (hX.st hS').mono hS'.ext.size
      replace hY := (hY.st hS').mono hS'.ext.size
      replace hS := hS.trans hS'
      clear hS'
      refine sv hF (v_move rfl) rfl ?_; clear hF a; intro a hF
      refine sv hF (v_ext rfl rfl) rfl ?_; clear hF a; intro a hF
      refine sv hF (v_ext rfl rfl) rfl ?_; clear hF a; intro a hF
      refine sv hF (v_assign rfl) rfl ?_; clear hF a; intro a hF
      refine sv hF (v_assign rfl) rfl ?_; clear hF a; intro a hF
      refine WL_nil (hK _ _ ?_)
      clear hK K
      replace hF := hF.sub _ (c_ 18 rfl (c_ 17 rfl (c_ 16 rfl (c_ 14 rfl (c_ 7 rfl (c_ 6 rfl (c_ 2 rfl (n_))))))))
      refine W_sr rfl (fun K hK => ?_)
      refine sv hF (v_move rfl) rfl ?_; clear hF a; intro a hF
      refine sv hF (v_move rfl) rfl ?_; clear hF a; intro a hF
      refine sc hF rfl rfl rfl en25 rfl (Add_reg B _ _ _ _ _ (xorB b P) P _ hS.inv hS_ hX (Nat.le_refl _) (xorB_lt hb8 hP8) hP8 (by omega) (by omega)) ?_; clear hF a; intro v w' a hv hF
      obtain ⟨sT_, obT_, rfl, hOT_, hS'⟩ := hv
      rw [rsum_two (show (xorB b P).length = P.length by omega)] at hOT_ hF
      try simp only [Option.getD_some, Option.getD_none] at hOT_
      obtain ⟨aT_, cT_, rfl⟩ := hOT_.shape
      have hT_ := hOT_.row (by decide)
      rw [byt_length] at hT_ hF
      clear hOT_
      replace hb := (hb.st hS').mono hS'.ext.size
      replace hf := hf.st hS'
      replace hX := (hX.st hS').mono hS'.ext.size
      replace hY := (hY.st hS').mono hS'.ext.size
      replace hS_ := (hS_.st hS').mono hS'.ext.size
      replace hS := hS.trans hS'
      clear hS'
      refine sv hF (v_move rfl) rfl ?_; clear hF a; intro a hF
      refine sv hF (v_ext rfl rfl) rfl ?_; clear hF a; intro a hF
      refine sv hF (v_ext rfl rfl) rfl ?_; clear hF a; intro a hF
      refine sv hF (v_assign rfl) rfl ?_; clear hF a; intro a hF
      refine sv hF (v_assign rfl) rfl ?_; clear hF a; intro a hF
      refine WL_nil (hK _ _ ?_)
      clear hK K
      replace hF := hF.sub _ (c_ 21 rfl (c_ 20 rfl (c_ 17 rfl (c_ 16 rfl (c_ 7 rfl (c_ 6 rfl (c_ 2 rfl (n_))))))))
      have hbk := xorB_back b P hPl.symm
      rw [hbk] at hF hT_
      refine W_sr rfl (fun K hK => ?_)
      refine sv hF (v_move rfl) rfl ?_; clear hF a; intro a hF
      refine sv hF (v_move rfl) rfl ?_; clear hF a; intro a hF
      refine svg hF rfl ?_
      refine sv hF (v_move rfl) rfl ?_; clear hF a; intro a hF
      refine svg hF rfl ?_
      refine sv hF ((v_eql rfl rfl).as (congrArg Value.bool (decide_eq_true (rfl)))) rfl ?_; clear hF a; intro a hF
      refine sv hF (v_pickT rfl rfl) rfl ?_; clear hF a; intro a hF
      refine sv hF (v_move rfl) rfl ?_; clear hF a; intro a hF
      refine svg hF rfl ?_
      refine sv hF (v_move rfl) rfl ?_; clear hF a; intro a hF
      refine svg hF rfl ?_
      refine sv hF ((v_eql rfl rfl).as (congrArg Value.bool (decide_eq_true (rfl)))) rfl ?_; clear hF a; intro a hF
      refine sv hF (v_pickT rfl rfl) rfl ?_; clear hF a; intro a hF
      refine sv hF (v_move rfl) rfl ?_; clear hF a; intro a hF
      refine svg hF rfl ?_
      refine sv hF (v_move rfl) rfl ?_; clear hF a; intro a hF
      refine svg hF rfl ?_
      refine sv hF (v_move rfl) rfl ?_; clear hF a; intro a hF
      refine svg hF rfl ?_
      refine sc hF rfl rfl rfl en23 rfl (Same_t B _ _ _ _ _ b b _ hY hb hb8 hb8 rfl) ?_; clear hF a; intro v w' a hv hF
      obtain ⟨rfl, hw⟩ := hv
      obtain rfl := hw.symm
      have hS' := St.refl hS.inv
      replace hb := (hb.st hS').mono hS'.ext.size
      replace hf := hf.st hS'
      replace hX := (hX.st hS').mono hS'.ext.size
      replace hY := (hY.st hS').mono hS'.ext.size
      replace hS_ := (hS_.st hS').mono hS'.ext.size
      replace hT_ := (hT_.st hS').mono hS'.ext.size
      replace hS := hS.trans hS'
      clear hS'
      refine sv hF (v_pickT rfl rfl) rfl ?_; clear hF a; intro a hF
      refine sv hF (v_move rfl) rfl ?_; clear hF a; intro a hF
      refine svg hF rfl ?_
      refine sv hF (v_move rfl) rfl ?_; clear hF a; intro a hF
      refine svg hF rfl ?_
      refine sv hF (v_move rfl) rfl ?_; clear hF a; intro a hF
      refine svg hF rfl ?_
      refine sc hF rfl rfl rfl en23 rfl (Same_t B _ _ _ _ _ b b _ hT_ hb hb8 hb8 rfl) ?_; clear hF a; intro v w' a hv hF
      obtain ⟨rfl, hw⟩ := hv
      obtain rfl := hw.symm
      have hS' := St.refl hS.inv
      replace hb := (hb.st hS').mono hS'.ext.size
      replace hf := hf.st hS'
      replace hX := (hX.st hS').mono hS'.ext.size
      replace hY := (hY.st hS').mono hS'.ext.size
      replace hS_ := (hS_.st hS').mono hS'.ext.size
      replace hT_ := (hT_.st hS').mono hS'.ext.size
      replace hS := hS.trans hS'
      clear hS'
      refine sv hF (v_pickT rfl rfl) rfl ?_; clear hF a; intro a hF
      refine sv hF (v_assign rfl) rfl ?_; clear hF a; intro a hF
      refine WL_nil (hK _ _ ?_)
      clear hK K
      replace hF := hF.sub _ (c_ 6 rfl (n_))
      refine W_ret ?_
      refine ⟨_, _, hF, rfl, ?_⟩
      exact ⟨rfl, hS⟩

end Go.Proofs.Ytlkifpmlpnaaoaa
