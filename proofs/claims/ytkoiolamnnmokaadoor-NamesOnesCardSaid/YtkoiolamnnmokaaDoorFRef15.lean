/- The walks of gambrelref15: a shard's name. -/
import Derived.Test.YtkoiolamnnmokaaDoorFRef09
import Derived.Test.YtkoiolamnnmokaaDoorGNam
set_option linter.unusedVariables false
set_option linter.unusedSimpArgs false
namespace Go.Proofs.YtkoiolamnnmokaaDoor
open Go Go.Gam


namespace FxFRef15
theorem en15 : Ent Tryd.prog 15 := ent Tryd.func15 (by kernel_rfl) (by kernel_rfl)
theorem en16 : Ent Tryd.prog 16 := ent Tryd.func16 (by kernel_rfl) (by kernel_rfl)
theorem en34 : Ent Tryd.prog 34 := ent Tryd.func34 (by kernel_rfl) (by kernel_rfl)
theorem en35 : Ent Tryd.prog 35 := ent Tryd.func35 (by kernel_rfl) (by kernel_rfl)
theorem fa35_0 : FieldFact Tryd.prog 35 0 0 := ff_of (sz := 0) Tryd.underlying35 (by kernel_rfl)
theorem fa35_1 : FieldFact Tryd.prog 35 1 1 := ff_of (sz := 0) Tryd.underlying35 (by kernel_rfl)
theorem fa35_2 : FieldFact Tryd.prog 35 2 2 := ff_of (sz := 0) Tryd.underlying35 (by kernel_rfl)
theorem fa42_0 : FieldFact Tryd.prog 42 0 0 := ff_of (sz := 0) Tryd.underlying42 (by kernel_rfl)
theorem fa42_3 : FieldFact Tryd.prog 42 3 3 := ff_of (sz := 0) Tryd.underlying42 (by kernel_rfl)
theorem hmix : Tryd.prog.follows .mixedOrders = true := by kernel_rfl
theorem sc3 : Scalar Tryd.prog 3 := ⟨_, Tryd.underlying3, by simp, by simp⟩
theorem sc5 : Scalar Tryd.prog 5 := ⟨_, Tryd.underlying5, by simp, by simp⟩
theorem sc9 : Scalar Tryd.prog 9 := ⟨_, Tryd.underlying9, by simp, by simp⟩
theorem sl54 : Sl Tryd.prog 54 9 (.string ⟨#[]⟩) 16 := sl_of Tryd.underlying54 rfl (by kernel_rfl)
theorem sl74 : Sl Tryd.prog 74 5 (.int .u8 0) 1 := sl_of Tryd.underlying74 rfl (by kernel_rfl)
theorem sl78 : Sl Tryd.prog 78 3 (.int .i64 0) 8 := sl_of Tryd.underlying78 rfl (by kernel_rfl)
end FxFRef15
open FxFRef15

set_option maxRecDepth 100000 in
set_option maxHeartbeats 1000000 in
theorem rMay15_ok (B : Nat) (nm : List UInt8) (w : World) (hI : Inv FDx B w) : Ret Tryd.prog 16 [.string (str nm)] w fun v w' => v = .bool (mayS nm) ∧ St FDx B w w' := by
  refine enter 28 [(0, .string (str nm))] 2 Tryd.func16 rfl rfl rfl rfl rfl ?_; intro a hF
  have hS := St.refl hI
  refine W_sr rfl (fun K hK => ?_)
  refine sv hF (v_assign rfl) rfl ?_; clear hF a; intro a hF
  refine WL_nil (hK _ _ ?_)
  clear hK K
  refine W_seq ?_
  refine W_sr rfl (fun K hK => ?_)
  refine sv hF (v_move rfl) rfl ?_; clear hF a; intro a hF
  refine sv hF (v_lenT rfl Tryd.underlying9 rfl) rfl ?_; clear hF a; intro a hF
  refine sb hF (v_lss rfl rfl) rfl ?_ ?_
  · clear hF a; intro hc1 a hF
    try simp only [decide_eq_true_eq, decide_eq_false_iff_not, Bool.not_eq_true', Bool.not_eq_false', Bool.not_true, Bool.not_false] at hc1
    refine sv hF (v_move rfl) rfl ?_; clear hF a; intro a hF
    refine svn hF rfl rfl rfl ?_; clear hF a; intro a hF
    refine svn hF rfl rfl rfl ?_; clear hF a; intro a hF
    refine svn hF rfl rfl rfl ?_; clear hF a; intro a hF
    refine sv hF (v_pickT rfl rfl) rfl ?_; clear hF a; intro a hF
    refine WL_nil (hK _ _ ?_)
    clear hK K
    replace hF := hF.sub _ (c_ 11 rfl (c_ 2 rfl (c_ 0 rfl (n_))))
    refine W_ifT hF rfl ?_
    refine W_sr rfl (fun K hK => ?_)
    refine sv hF (v_assign rfl) rfl ?_; clear hF a; intro a hF
    refine WL_nil (hK _ _ ?_)
    clear hK K
    replace hF := hF.sub _ (c_ 2 rfl (c_ 0 rfl (n_)))
    refine W_ret ?_
    refine ⟨_, _, hF, rfl, ?_⟩
    exact ⟨by rw [mayS_no (by omega)], hS⟩
  · clear hF a; intro hc1 a hF
    try simp only [decide_eq_true_eq, decide_eq_false_iff_not, Bool.not_eq_true', Bool.not_eq_false', Bool.not_true, Bool.not_false] at hc1
    refine sv hF (v_move rfl) rfl ?_; clear hF a; intro a hF
    refine svg hF rfl ?_
    refine sv hF (v_move rfl) rfl ?_; clear hF a; intro a hF
    refine svg hF rfl ?_
    refine sv hF (v_lenT rfl Tryd.underlying9 rfl) rfl ?_; clear hF a; intro a hF
    refine svg hF rfl ?_
    refine sv hF (v_gtr rfl rfl) rfl ?_; clear hF a; intro a hF
    refine sv hF (v_pickF rfl rfl) rfl ?_; clear hF a; intro a hF
    refine WL_nil (hK _ _ ?_)
    clear hK K
    replace hF := hF.sub _ (c_ 11 rfl (c_ 2 rfl (c_ 0 rfl (n_))))
    refine W_if hF rfl (fun hc2 => ?_) (fun hc2 => ?_)
    · skip
      try simp only [decide_eq_true_eq, decide_eq_false_iff_not, Bool.not_eq_true', Bool.not_eq_false', Bool.not_true, Bool.not_false] at hc2
      refine W_sr rfl (fun K hK => ?_)
      refine sv hF (v_assign rfl) rfl ?_; clear hF a; intro a hF
      refine WL_nil (hK _ _ ?_)
      clear hK K
      replace hF := hF.sub _ (c_ 2 rfl (c_ 0 rfl (n_)))
      refine W_ret ?_
      refine ⟨_, _, hF, rfl, ?_⟩
      exact ⟨by rw [mayS_no (by omega)], hS⟩
    · skip
      try simp only [decide_eq_true_eq, decide_eq_false_iff_not, Bool.not_eq_true', Bool.not_eq_false', Bool.not_true, Bool.not_false] at hc2
      refine W_skip ?_
      refine W_seq ?_
      refine W_sr rfl (fun K hK => ?_)
      refine sv hF (v_assign rfl) rfl ?_; clear hF a; intro a hF
      refine WL_nil (hK _ _ ?_)
      clear hK K
      replace hF := hF.sub _ (c_ 3 rfl (c_ 2 rfl (c_ 0 rfl (n_))))
      refine W_block ?_
      refine W_loop (fun q a w1 => ∃ (i : Nat), Fr 28 [(0, .string (str nm)), (3, .int .i64 (i : Int))] a ∧ (St FDx B w w1) ∧ (i ≤ nm.length) ∧ (∀ b ∈ nm.take i, letter b = true) ∧ (q + i = nm.length)) (nm.length) ?_ ?_
      · skip
        exact ⟨0, hF.sub _ (c_ 0 rfl (c_ 3 rfl (n_))), hS, by omega, by simp, by omega⟩
      · skip
        clear hF
        clear hS
        rintro q a w1 ⟨i, hF, hS, hi, hn, hq⟩
        refine W_seq ?_
        refine W_sr rfl (fun K hK => ?_)
        refine sv hF (v_move rfl) rfl ?_; clear hF a; intro a hF
        refine sv hF (v_move rfl) rfl ?_; clear hF a; intro a hF
        refine sv hF (v_lenT rfl Tryd.underlying9 rfl) rfl ?_; clear hF a; intro a hF
        refine sv hF (v_lss rfl rfl) rfl ?_; clear hF a; intro a hF
        refine WL_nil (hK _ _ ?_)
        clear hK K
        replace hF := hF.sub _ (c_ 15 rfl (c_ 0 rfl (c_ 3 rfl (n_))))
        refine W_if hF rfl (fun hc3 => ?_) (fun hc3 => ?_)
        · skip
          try simp only [decide_eq_true_eq, decide_eq_false_iff_not, Bool.not_eq_true', Bool.not_eq_false', Bool.not_true, Bool.not_false] at hc3
          have hlt : i < nm.length := by omega
          obtain ⟨b_, hb⟩ : ∃ z, nm[i]? = some z := ⟨_, List.getElem?_eq_getElem hlt⟩
          refine W_skip ?_
          refine W_seq ?_
          refine W_block ?_
          refine W_sr rfl (fun K hK => ?_)
          refine sv hF (v_move rfl) rfl ?_; clear hF a; intro a hF
          refine sv hF (v_move rfl) rfl ?_; clear hF a; intro a hF
          refine sv hF (v_ixT (b := b_) Tryd.underlying9 rfl rfl (by omega) (by rw [Int.toNat_natCast]; exact hb)) rfl ?_; clear hF a; intro a hF
          refine sb hF (v_lss rfl rfl) rfl ?_ ?_
          · clear hF a; intro hc4 a hF
            try simp only [decide_eq_true_eq, decide_eq_false_iff_not, Bool.not_eq_true', Bool.not_eq_false', Bool.not_true, Bool.not_false] at hc4
            refine sv hF (v_move rfl) rfl ?_; clear hF a; intro a hF
            refine svn hF rfl rfl rfl ?_; clear hF a; intro a hF
            refine svn hF rfl rfl rfl ?_; clear hF a; intro a hF
            refine svn hF rfl rfl rfl ?_; clear hF a; intro a hF
            refine svn hF rfl rfl rfl ?_; clear hF a; intro a hF
            refine sv hF (v_pickT rfl rfl) rfl ?_; clear hF a; intro a hF
            refine WL_nil (hK _ _ ?_)
            clear hK K
            replace hF := hF.sub _ (c_ 27 rfl (c_ 0 rfl (c_ 3 rfl (n_))))
            refine W_ifT hF rfl ?_
            refine W_sr rfl (fun K hK => ?_)
            refine sv hF (v_assign rfl) rfl ?_; clear hF a; intro a hF
            refine WL_nil (hK _ _ ?_)
            clear hK K
            replace hF := hF.sub _ (c_ 2 rfl (c_ 0 rfl (c_ 3 rfl (n_))))
            refine W_ret ?_
            refine ⟨_, _, hF, rfl, ?_⟩
            exact ⟨by rw [mayS_bad hb (by unfold letter; rw [decide_eq_false_iff_not]; omega)], hS⟩
          · clear hF a; intro hc4 a hF
            try simp only [decide_eq_true_eq, decide_eq_false_iff_not, Bool.not_eq_true', Bool.not_eq_false', Bool.not_true, Bool.not_false] at hc4
            refine sv hF (v_move rfl) rfl ?_; clear hF a; intro a hF
            refine svg hF rfl ?_
            refine sv hF (v_move rfl) rfl ?_; clear hF a; intro a hF
            refine svg hF rfl ?_
            refine sv hF (v_move rfl) rfl ?_; clear hF a; intro a hF
            refine svg hF rfl ?_
            refine sv hF (v_ixT (b := b_) Tryd.underlying9 rfl rfl (by omega) (by rw [Int.toNat_natCast]; exact hb)) rfl ?_; clear hF a; intro a hF
            refine svg hF rfl ?_
            refine sv hF (v_gtr rfl rfl) rfl ?_; clear hF a; intro a hF
            refine sv hF (v_pickF rfl rfl) rfl ?_; clear hF a; intro a hF
            refine WL_nil (hK _ _ ?_)
            clear hK K
            replace hF := hF.sub _ (c_ 27 rfl (c_ 0 rfl (c_ 3 rfl (n_))))
            refine W_if hF rfl (fun hc5 => ?_) (fun hc5 => ?_)
            · skip
              try simp only [decide_eq_true_eq, decide_eq_false_iff_not, Bool.not_eq_true', Bool.not_eq_false', Bool.not_true, Bool.not_false] at hc5
              refine W_sr rfl (fun K hK => ?_)
              refine sv hF (v_assign rfl) rfl ?_; clear hF a; intro a hF
              refine WL_nil (hK _ _ ?_)
              clear hK K
              replace hF := hF.sub _ (c_ 2 rfl (c_ 0 rfl (c_ 3 rfl (n_))))
              refine W_ret ?_
              refine ⟨_, _, hF, rfl, ?_⟩
              exact ⟨by rw [mayS_bad hb (by unfold letter; rw [decide_eq_false_iff_not]; omega)], hS⟩
            · skip
              try simp only [decide_eq_true_eq, decide_eq_false_iff_not, Bool.not_eq_true', Bool.not_eq_false', Bool.not_true, Bool.not_false] at hc5
              refine W_skip ?_
              refine W_reg rfl (fun K hK => ?_)
              refine sv hF (v_move rfl) rfl ?_; clear hF a; intro a hF
              refine sv hF (v_addI rfl rfl (by omega)) rfl ?_; clear hF a; intro a hF
              refine sv hF (v_assign rfl) rfl ?_; clear hF a; intro a hF
              refine WL_nil (hK _ _ ?_)
              clear hK K
              replace hF := hF.sub _ (c_ 3 rfl (c_ 17 rfl (c_ 16 rfl (c_ 0 rfl (n_)))))
              exact ⟨q - 1, by omega, i + 1, hF.sub _ (c_ 0 rfl (c_ 3 rfl (n_))), hS, by omega, take_snoc_all hn hb (by unfold letter; rw [decide_eq_true_eq]; omega), by omega⟩
        · skip
          try simp only [decide_eq_true_eq, decide_eq_false_iff_not, Bool.not_eq_true', Bool.not_eq_false', Bool.not_true, Bool.not_false] at hc3
          refine W_exit rfl ?_
          refine W_sr rfl (fun K hK => ?_)
          refine sv hF (v_assign rfl) rfl ?_; clear hF a; intro a hF
          refine WL_nil (hK _ _ ?_)
          clear hK K
          replace hF := hF.sub _ (c_ 2 rfl (c_ 0 rfl (c_ 3 rfl (n_))))
          refine W_ret ?_
          refine ⟨_, _, hF, rfl, ?_⟩
          obtain rfl : i = nm.length := by omega
          rw [List.take_length] at hn
          exact ⟨by rw [mayS_ok (by omega) hn], hS⟩

set_option maxRecDepth 100000 in
set_option maxHeartbeats 1000000 in
theorem figure_ok (B n : Nat) (w : World) (hI : Inv FDx B w) (hn : n < 200) : Ret Tryd.prog 35 [.int .i64 (n : Int)] w fun v w' => v = .string (str [fg n]) ∧ St FDx B w w' := by
  refine enter 8 [(0, .int .i64 (n : Int))] 2 Tryd.func35 rfl rfl rfl rfl rfl ?_; intro a hF
  have hS := St.refl hI
  refine W_sr rfl (fun K hK => ?_)
  refine sv hF (v_assign rfl) rfl ?_; clear hF a; intro a hF
  refine WL_nil (hK _ _ ?_)
  clear hK K
  refine W_sr rfl (fun K hK => ?_)
  refine sv hF (v_move rfl) rfl ?_; clear hF a; intro a hF
  refine sv hF ((v_addI rfl rfl (by omega)).as (show Value.int .i64 (48 + (n : Int)) = .int .i64 ((48 + n : Nat) : Int) by simp)) rfl ?_; clear hF a; intro a hF
  refine sv hF (v_cv Tryd.underlying3 Tryd.underlying5 rfl (wrap_u8 _ (by omega))) rfl ?_; clear hF a; intro a hF
  refine s_bs (D := FDx) (B := B) hF sl74 rfl rfl (by decide) (by simp [Value.cells]) (by decide) hS.inv rfl ?_; clear hF a; intro w' a hm hI' hL hF
  replace hS := hS.mb0 hm
  clear hm hI'
  replace hL := hL.cast (ys := byt ([fg n].map UInt8.toNat)) (by simp [byt, fg]; omega)
  refine sv hF (v_bstrT (l := [fg n]) Tryd.underlying74 Tryd.underlying5 Tryd.underlying9 rfl (hL.row (by decide)) rfl) rfl ?_; clear hF a; intro a hF
  refine sv hF (v_assign rfl) rfl ?_; clear hF a; intro a hF
  refine WL_nil (hK _ _ ?_)
  clear hK K
  replace hF := hF.sub _ (c_ 2 rfl (n_))
  refine W_ret ?_
  refine ⟨_, _, hF, rfl, ?_⟩
  exact ⟨rfl, hS⟩

set_option maxRecDepth 100000 in
set_option maxHeartbeats 1000000 in
theorem rShard_ok (B : Nat) (nm : List UInt8) (p k m i : Int) (w : World) (hI : Inv FDx B w) : Ret Tryd.prog 19 [.string (str nm), .agg #[.int .i64 p, .int .i64 k, .int .i64 m], .int .i64 i] w fun v w' => v = .tuple #[.string (str (shardR nm p k m i).1), .int .i64 (shardR nm p k m i).2] ∧ St FDx B w w' := by
  refine enter2 74 [(0, .string (str nm)), (1, .agg #[.int .i64 p, .int .i64 k, .int .i64 m]), (2, .int .i64 i)] 6 7 Tryd.func19 rfl rfl rfl rfl rfl ?_; intro a hF
  have hS := St.refl hI
  refine W_sr rfl (fun K hK => ?_)
  refine s_box (D := FDx) (B := B) hF rfl (by decide) hS.inv rfl ?_; clear hF a; intro w' a hm hbx hsz hF
  replace hS := hS.mb0 hm
  clear hm
  refine sv hF (v_assign rfl) rfl ?_; clear hF a; intro a hF
  refine sv hF (v_assign rfl) rfl ?_; clear hF a; intro a hF
  refine WL_nil (hK _ _ ?_)
  clear hK K
  replace hF := hF.sub _ (c_ 7 rfl (c_ 6 rfl (c_ 4 rfl (c_ 0 rfl (c_ 2 rfl (n_))))))
  refine W_seq ?_
  refine W_sr rfl (fun K hK => ?_)
  refine sv hF (v_move rfl) rfl ?_; clear hF a; intro a hF
  refine sc hF rfl rfl rfl en16 rfl (rMay15_ok B nm _ hS.inv) ?_; clear hF a; intro v w' a hv hF
  obtain ⟨rfl, hS'⟩ := hv
  replace hbx := hbx.st (by decide) hS'
  replace hS := hS.trans hS'
  clear hS'
  refine sb hF (v_not rfl) rfl ?_ ?_
  · clear hF a; intro hc1 a hF
    try simp only [decide_eq_true_eq, decide_eq_false_iff_not, Bool.not_eq_true', Bool.not_eq_false', Bool.not_true, Bool.not_false] at hc1
    refine sv hF (v_move rfl) rfl ?_; clear hF a; intro a hF
    refine svn hF rfl rfl rfl ?_; clear hF a; intro a hF
    refine svn hF rfl rfl rfl ?_; clear hF a; intro a hF
    refine svn hF rfl rfl rfl ?_; clear hF a; intro a hF
    refine sv hF (v_pickT rfl rfl) rfl ?_; clear hF a; intro a hF
    refine sv hF (v_move rfl) rfl ?_; clear hF a; intro a hF
    refine svn hF rfl rfl rfl ?_; clear hF a; intro a hF
    refine svn hF rfl rfl rfl ?_; clear hF a; intro a hF
    refine sv hF (v_pickT rfl rfl) rfl ?_; clear hF a; intro a hF
    refine sv hF (v_move rfl) rfl ?_; clear hF a; intro a hF
    refine svn hF rfl rfl rfl ?_; clear hF a; intro a hF
    refine svn hF rfl rfl rfl ?_; clear hF a; intro a hF
    refine svn hF rfl rfl rfl ?_; clear hF a; intro a hF
    refine svn hF rfl rfl rfl ?_; clear hF a; intro a hF
    refine svn hF rfl rfl rfl ?_; clear hF a; intro a hF
    refine svn hF rfl rfl rfl ?_; clear hF a; intro a hF
    refine svn hF rfl rfl rfl ?_; clear hF a; intro a hF
    refine sv hF (v_pickT rfl rfl) rfl ?_; clear hF a; intro a hF
    refine WL_nil (hK _ _ ?_)
    clear hK K
    replace hF := hF.sub _ (c_ 30 rfl (c_ 7 rfl (c_ 6 rfl (c_ 4 rfl (c_ 0 rfl (c_ 2 rfl (n_)))))))
    refine W_ifT hF rfl ?_
    refine W_sr rfl (fun K hK => ?_)
    refine sv hF (v_assign rfl) rfl ?_; clear hF a; intro a hF
    refine sv hF (v_assign rfl) rfl ?_; clear hF a; intro a hF
    refine WL_nil (hK _ _ ?_)
    clear hK K
    replace hF := hF.sub _ (c_ 7 rfl (c_ 6 rfl (c_ 4 rfl (c_ 0 rfl (c_ 2 rfl (n_))))))
    refine W_ret ?_
    refine ⟨_, _, _, hF, rfl, rfl, ?_⟩
    exact ⟨by rw [shardR_no (fun h => by obtain ⟨h1, h2, h3, h4⟩ := h; first | omega | simp_all)]; rfl, hS⟩
  · clear hF a; intro hc1 a hF
    try simp only [decide_eq_true_eq, decide_eq_false_iff_not, Bool.not_eq_true', Bool.not_eq_false', Bool.not_true, Bool.not_false] at hc1
    refine sv hF (v_move rfl) rfl ?_; clear hF a; intro a hF
    refine svg hF rfl ?_
    refine sv hF (v_loadN Tryd.underlying35 rfl (by kernel_rfl) rfl hbx) rfl ?_; clear hF a; intro a hF
    refine svg hF rfl ?_
    refine sc hF rfl rfl rfl en34 rfl (rPMay_ok B p k m _ hS.inv) ?_; clear hF a; intro v w' a hv hF
    obtain ⟨rfl, hS'⟩ := hv
    replace hbx := hbx.st (by decide) hS'
    replace hS := hS.trans hS'
    clear hS'
    refine svg hF rfl ?_
    refine sb hF (v_not rfl) rfl ?_ ?_
    · clear hF a; intro hc2 a hF
      try simp only [decide_eq_true_eq, decide_eq_false_iff_not, Bool.not_eq_true', Bool.not_eq_false', Bool.not_true, Bool.not_false] at hc2
      refine sv hF (v_pickF rfl rfl) rfl ?_; clear hF a; intro a hF
      refine sv hF (v_move rfl) rfl ?_; clear hF a; intro a hF
      refine svn hF rfl rfl rfl ?_; clear hF a; intro a hF
      refine svn hF rfl rfl rfl ?_; clear hF a; intro a hF
      refine sv hF (v_pickT rfl rfl) rfl ?_; clear hF a; intro a hF
      refine sv hF (v_move rfl) rfl ?_; clear hF a; intro a hF
      refine svn hF rfl rfl rfl ?_; clear hF a; intro a hF
      refine svn hF rfl rfl rfl ?_; clear hF a; intro a hF
      refine svn hF rfl rfl rfl ?_; clear hF a; intro a hF
      refine svn hF rfl rfl rfl ?_; clear hF a; intro a hF
      refine svn hF rfl rfl rfl ?_; clear hF a; intro a hF
      refine svn hF rfl rfl rfl ?_; clear hF a; intro a hF
      refine svn hF rfl rfl rfl ?_; clear hF a; intro a hF
      refine sv hF (v_pickT rfl rfl) rfl ?_; clear hF a; intro a hF
      refine WL_nil (hK _ _ ?_)
      clear hK K
      replace hF := hF.sub _ (c_ 30 rfl (c_ 7 rfl (c_ 6 rfl (c_ 4 rfl (c_ 0 rfl (c_ 2 rfl (n_)))))))
      refine W_ifT hF rfl ?_
      refine W_sr rfl (fun K hK => ?_)
      refine sv hF (v_assign rfl) rfl ?_; clear hF a; intro a hF
      refine sv hF (v_assign rfl) rfl ?_; clear hF a; intro a hF
      refine WL_nil (hK _ _ ?_)
      clear hK K
      replace hF := hF.sub _ (c_ 7 rfl (c_ 6 rfl (c_ 4 rfl (c_ 0 rfl (c_ 2 rfl (n_))))))
      refine W_ret ?_
      refine ⟨_, _, _, hF, rfl, rfl, ?_⟩
      exact ⟨by rw [shardR_no (fun h => by obtain ⟨h1, h2, h3, h4⟩ := h; first | omega | simp_all)]; rfl, hS⟩
    · clear hF a; intro hc2 a hF
      try simp only [decide_eq_true_eq, decide_eq_false_iff_not, Bool.not_eq_true', Bool.not_eq_false', Bool.not_true, Bool.not_false] at hc2
      refine sv hF (v_pickF rfl rfl) rfl ?_; clear hF a; intro a hF
      refine sv hF (v_move rfl) rfl ?_; clear hF a; intro a hF
      refine svg hF rfl ?_
      refine sv hF (v_move rfl) rfl ?_; clear hF a; intro a hF
      refine svg hF rfl ?_
      refine sb hF (v_lss rfl rfl) rfl ?_ ?_
      · clear hF a; intro hc3 a hF
        try simp only [decide_eq_true_eq, decide_eq_false_iff_not, Bool.not_eq_true', Bool.not_eq_false', Bool.not_true, Bool.not_false] at hc3
        refine sv hF (v_pickF rfl rfl) rfl ?_; clear hF a; intro a hF
        refine sv hF (v_move rfl) rfl ?_; clear hF a; intro a hF
        refine svn hF rfl rfl rfl ?_; clear hF a; intro a hF
        refine svn hF rfl rfl rfl ?_; clear hF a; intro a hF
        refine svn hF rfl rfl rfl ?_; clear hF a; intro a hF
        refine svn hF rfl rfl rfl ?_; clear hF a; intro a hF
        refine svn hF rfl rfl rfl ?_; clear hF a; intro a hF
        refine svn hF rfl rfl rfl ?_; clear hF a; intro a hF
        refine svn hF rfl rfl rfl ?_; clear hF a; intro a hF
        refine sv hF (v_pickT rfl rfl) rfl ?_; clear hF a; intro a hF
        refine WL_nil (hK _ _ ?_)
        clear hK K
        replace hF := hF.sub _ (c_ 30 rfl (c_ 7 rfl (c_ 6 rfl (c_ 4 rfl (c_ 0 rfl (c_ 2 rfl (n_)))))))
        refine W_ifT hF rfl ?_
        refine W_sr rfl (fun K hK => ?_)
        refine sv hF (v_assign rfl) rfl ?_; clear hF a; intro a hF
        refine sv hF (v_assign rfl) rfl ?_; clear hF a; intro a hF
        refine WL_nil (hK _ _ ?_)
        clear hK K
        replace hF := hF.sub _ (c_ 7 rfl (c_ 6 rfl (c_ 4 rfl (c_ 0 rfl (c_ 2 rfl (n_))))))
        refine W_ret ?_
        refine ⟨_, _, _, hF, rfl, rfl, ?_⟩
        exact ⟨by rw [shardR_no (fun h => by obtain ⟨h1, h2, h3, h4⟩ := h; first | omega | simp_all)]; rfl, hS⟩
      · clear hF a; intro hc3 a hF
        try simp only [decide_eq_true_eq, decide_eq_false_iff_not, Bool.not_eq_true', Bool.not_eq_false', Bool.not_true, Bool.not_false] at hc3
        refine sv hF (v_pickF rfl rfl) rfl ?_; clear hF a; intro a hF
        refine sv hF (v_move rfl) rfl ?_; clear hF a; intro a hF
        refine svg hF rfl ?_
        refine sv hF (v_move rfl) rfl ?_; clear hF a; intro a hF
        refine svg hF rfl ?_
        refine sv hF (v_fieldAddr fa35_1 rfl) rfl ?_; clear hF a; intro a hF
        refine svg hF rfl ?_
        refine sv hF (v_load sc3 rfl (hbx.at 1 rfl)) rfl ?_; clear hF a; intro a hF
        refine svg hF rfl ?_
        refine sv hF (v_fieldAddr fa35_2 rfl) rfl ?_; clear hF a; intro a hF
        refine svg hF rfl ?_
        refine sv hF (v_load sc3 rfl (hbx.at 2 rfl)) rfl ?_; clear hF a; intro a hF
        refine svg hF rfl ?_
        have hmay : mayP p k m = true := by assumption
        have hmay2 := mayP_of hmay
        obtain ⟨hp1, hp2, kn, mn, rfl, rfl, hk1, hk2, hm1, hm2, -⟩ := hmay2
        refine sv hF (v_addI rfl rfl (by omega)) rfl ?_; clear hF a; intro a hF
        refine svg hF rfl ?_
        refine sv hF (v_geq rfl rfl) rfl ?_; clear hF a; intro a hF
        refine sv hF (v_pickF rfl rfl) rfl ?_; clear hF a; intro a hF
        refine WL_nil (hK _ _ ?_)
        clear hK K
        replace hF := hF.sub _ (c_ 30 rfl (c_ 7 rfl (c_ 6 rfl (c_ 4 rfl (c_ 0 rfl (c_ 2 rfl (n_)))))))
        refine W_if hF rfl (fun hc4 => ?_) (fun hc4 => ?_)
        · skip
          try simp only [decide_eq_true_eq, decide_eq_false_iff_not, Bool.not_eq_true', Bool.not_eq_false', Bool.not_true, Bool.not_false] at hc4
          refine W_sr rfl (fun K hK => ?_)
          refine sv hF (v_assign rfl) rfl ?_; clear hF a; intro a hF
          refine sv hF (v_assign rfl) rfl ?_; clear hF a; intro a hF
          refine WL_nil (hK _ _ ?_)
          clear hK K
          replace hF := hF.sub _ (c_ 7 rfl (c_ 6 rfl (c_ 4 rfl (c_ 0 rfl (c_ 2 rfl (n_))))))
          refine W_ret ?_
          refine ⟨_, _, _, hF, rfl, rfl, ?_⟩
          exact ⟨by rw [shardR_no (fun h => by obtain ⟨h1, h2, h3, h4⟩ := h; first | omega | simp_all)]; rfl, hS⟩
        · skip
          try simp only [decide_eq_true_eq, decide_eq_false_iff_not, Bool.not_eq_true', Bool.not_eq_false', Bool.not_true, Bool.not_false] at hc4
          refine W_skip ?_
          have hms : mayS nm = true := by assumption
          have hml := mayS_len hms
          obtain ⟨ni, rfl⟩ : ∃ n : Nat, i = (n : Int) := ⟨i.toNat, by omega⟩
          refine W_sr rfl (fun K hK => ?_)
          refine sv hF (v_fieldAddr fa35_0 rfl) rfl ?_; clear hF a; intro a hF
          refine sv hF (v_load sc3 rfl (hbx.at 0 rfl)) rfl ?_; clear hF a; intro a hF
          refine sc hF rfl rfl rfl en15 rfl (rPOf_ok B p _ hS.inv) ?_; clear hF a; intro v w' a hv hF
          obtain ⟨rfl, hS'⟩ := hv
          replace hbx := hbx.st (by decide) hS'
          replace hS := hS.trans hS'
          clear hS'
          refine sv hF (v_move rfl) rfl ?_; clear hF a; intro a hF
          refine sv hF (v_ext rfl rfl) rfl ?_; clear hF a; intro a hF
          refine sv hF (v_ext rfl rfl) rfl ?_; clear hF a; intro a hF
          have hs0 := hS.ext.size
          refine s_allocN (D := FDx) (B := B) (z := .agg prz.toArray) hF (by kernel_rfl) (by decide) hS.inv rfl ?_; clear hF a; intro gR w' a hm hI' hR hF
          replace hbx := hbx.mb hm (by simp)
          replace hS := hS.mb0 hm
          clear hm hI'
          replace hR := hR.le hs0
          clear hs0
          refine s_storeN (D := FDx) (B := B) hF (by rw [List.size_toArray, prOf_len]; kernel_rfl) rfl rfl (prOf_one p) (by rw [List.size_toArray, prOf_len]; rfl) hR hS.inv ?_; intro w' hm hI' hrc'
          replace hbx := hbx.mb hm (by intro e; cases e; exact absurd hR.blk (by intro e2; have := hbx.symm.trans e2; cases this))
          replace hS := hS.mb hm (fun k h => by cases h; exact hR.low)
          replace hR := hrc'
          clear hm hI' hrc'
          refine sv hF (v_assign rfl) rfl ?_; clear hF a; intro a hF
          refine WL_nil (hK _ _ ?_)
          clear hK K
          replace hF := hF.sub _ (c_ 8 rfl (c_ 7 rfl (c_ 6 rfl (c_ 4 rfl (c_ 0 rfl (c_ 2 rfl (n_)))))))
          refine W_seq ?_
          refine W_sr rfl (fun K hK => ?_)
          refine sv hF (v_move rfl) rfl ?_; clear hF a; intro a hF
          refine sv hF (v_fieldAddr fa35_1 rfl) rfl ?_; clear hF a; intro a hF
          refine sv hF (v_load sc3 rfl (hbx.at 1 rfl)) rfl ?_; clear hF a; intro a hF
          refine sv hF (v_lss rfl rfl) rfl ?_; clear hF a; intro a hF
          refine WL_nil (hK _ _ ?_)
          clear hK K
          replace hF := hF.sub _ (c_ 40 rfl (c_ 8 rfl (c_ 7 rfl (c_ 6 rfl (c_ 4 rfl (c_ 0 rfl (c_ 2 rfl (n_))))))))
          refine W_if hF rfl (fun hc5 => ?_) (fun hc5 => ?_)
          · skip
            try simp only [decide_eq_true_eq, decide_eq_false_iff_not, Bool.not_eq_true', Bool.not_eq_false', Bool.not_true, Bool.not_false] at hc5
            refine W_sd (m := 16) rfl hmix hS.inv (fun K hK w1 hS' hh => ?_)
            replace hbx := hbx.st (by decide) hS'
            replace hR := hR.st hS'
            replace hS := hS.trans hS'
            clear hS'
            clear hh
            refine a_v (i := 0) rfl (by kernel_rfl) hF (fun w2 hx => v_move rfl) rfl ?_; clear hF a; intro a hF
            refine a_v (i := 1) rfl (by kernel_rfl) hF (fun w2 hx => v_catT (b := [46, 100]) rfl rfl (by simp [maxLen]; omega)) rfl ?_; clear hF a; intro a hF
            refine a_v (i := 2) rfl (by kernel_rfl) hF (fun w2 hx => v_fieldAddr fa42_3 rfl) rfl ?_; clear hF a; intro a hF
            refine a_v (i := 3) rfl (by kernel_rfl) hF (fun w2 hx => v_load sc5 rfl (KC.ld (hR.kc 3 (prOf_lay ⟨hp1, hp2⟩)) hx)) rfl ?_; clear hF a; intro a hF
            refine a_v (i := 7) rfl (by kernel_rfl) hF (fun w2 hx => v_fieldAddr fa35_1 rfl) rfl ?_; clear hF a; intro a hF
            refine a_v (i := 8) rfl (by kernel_rfl) hF (fun w2 hx => v_load sc3 rfl (hbx.ld (by decide) hx 1 rfl)) rfl ?_; clear hF a; intro a hF
            refine a_v (i := 11) rfl (by kernel_rfl) hF (fun w2 hx => v_move rfl) rfl ?_; clear hF a; intro a hF
            refine a_e2 (i := 4) (i' := 9) rfl rfl (by kernel_rfl) ?_ ?_
            · skip
              refine s_bs (D := FDx) (B := B) hF sl74 rfl rfl (by decide) (by simp [Value.cells]) (by decide) hS.inv rfl ?_; clear hF a; intro w' a hm hI' hL hF
              have hS' := (St.refl hS.inv).mb0 hm
              refine WL_nil ⟨hS'.ext, ?_⟩
              clear hS'
              replace hbx := hbx.mb hm (by simp)
              replace hR := hR.mb hm (by simp)
              replace hS := hS.mb0 hm
              clear hm hI'
              refine a_v (i := 5) rfl (by kernel_rfl) hF (fun w2 hx => v_bstrT (l := [layL p]) Tryd.underlying74 Tryd.underlying5 Tryd.underlying9 rfl ((hL.row (by decide)).ext hx) rfl) rfl ?_; clear hF a; intro a hF
              refine a_v (i := 6) rfl (by kernel_rfl) hF (fun w2 hx => v_catT rfl rfl (by simp [maxLen]; omega)) rfl ?_; clear hF a; intro a hF
              refine a_e (i := 9) rfl (by kernel_rfl) ?_
              refine sc hF rfl rfl rfl en35 rfl (figure_ok B kn _ hS.inv (by omega)) ?_; clear hF a; intro v w' a hv hF
              obtain ⟨rfl, hS'⟩ := hv
              refine WL_nil ⟨hS'.ext, ?_⟩
              replace hbx := hbx.st (by decide) hS'
              replace hR := hR.st hS'
              replace hL := hL.st (by decide) hS'
              replace hS := hS.trans hS'
              clear hS'
              refine a_v (i := 10) rfl (by kernel_rfl) hF (fun w2 hx => v_catT rfl rfl (by simp [maxLen]; omega)) rfl ?_; clear hF a; intro a hF
              refine a_e (i := 12) rfl (by kernel_rfl) ?_
              refine sc hF rfl rfl rfl en35 rfl (figure_ok B ni _ hS.inv (by omega)) ?_; clear hF a; intro v w' a hv hF
              obtain ⟨rfl, hS'⟩ := hv
              refine WL_nil ⟨hS'.ext, ?_⟩
              replace hbx := hbx.st (by decide) hS'
              replace hR := hR.st hS'
              replace hL := hL.st (by decide) hS'
              replace hS := hS.trans hS'
              clear hS'
              refine a_v (i := 13) rfl (by kernel_rfl) hF (fun w2 hx => v_catT rfl rfl (by simp [maxLen]; omega)) rfl ?_; clear hF a; intro a hF
              refine a_v (i := 14) rfl (by kernel_rfl) hF (fun w2 hx => v_assign rfl) rfl ?_; clear hF a; intro a hF
              refine a_v (i := 15) rfl (by kernel_rfl) hF (fun w2 hx => v_assign rfl) rfl ?_; clear hF a; intro a hF
              refine a_done (by kernel_rfl) (hK _ _ ?_)
              clear hK K
              replace hF := hF.sub _ (c_ 7 rfl (c_ 6 rfl (c_ 8 rfl (c_ 4 rfl (c_ 0 rfl (c_ 2 rfl (n_)))))))
              refine W_ret ?_
              refine ⟨_, _, _, hF, rfl, rfl, ?_⟩
              exact ⟨by rw [shardR_is hms hmay (by omega)]; unfold shardN; first | (rw [if_pos (by omega)]; simp [dataN, fig]; done) | (rw [if_neg (by omega)]; simp [parN, fig]), hS⟩
            · skip
              refine sc hF rfl rfl rfl en35 rfl (figure_ok B kn _ hS.inv (by omega)) ?_; clear hF a; intro v w' a hv hF
              obtain ⟨rfl, hS'⟩ := hv
              refine WL_nil ⟨hS'.ext, ?_⟩
              replace hbx := hbx.st (by decide) hS'
              replace hR := hR.st hS'
              replace hS := hS.trans hS'
              clear hS'
              refine a_e2 (i := 4) (i' := 12) rfl rfl (by kernel_rfl) ?_ ?_
              · skip
                refine s_bs (D := FDx) (B := B) hF sl74 rfl rfl (by decide) (by simp [Value.cells]) (by decide) hS.inv rfl ?_; clear hF a; intro w' a hm hI' hL hF
                have hS' := (St.refl hS.inv).mb0 hm
                refine WL_nil ⟨hS'.ext, ?_⟩
                clear hS'
                replace hbx := hbx.mb hm (by simp)
                replace hR := hR.mb hm (by simp)
                replace hS := hS.mb0 hm
                clear hm hI'
                refine a_v (i := 5) rfl (by kernel_rfl) hF (fun w2 hx => v_bstrT (l := [layL p]) Tryd.underlying74 Tryd.underlying5 Tryd.underlying9 rfl ((hL.row (by decide)).ext hx) rfl) rfl ?_; clear hF a; intro a hF
                refine a_v (i := 6) rfl (by kernel_rfl) hF (fun w2 hx => v_catT rfl rfl (by simp [maxLen]; omega)) rfl ?_; clear hF a; intro a hF
                refine a_v (i := 10) rfl (by kernel_rfl) hF (fun w2 hx => v_catT rfl rfl (by simp [maxLen]; omega)) rfl ?_; clear hF a; intro a hF
                refine a_e (i := 12) rfl (by kernel_rfl) ?_
                refine sc hF rfl rfl rfl en35 rfl (figure_ok B ni _ hS.inv (by omega)) ?_; clear hF a; intro v w' a hv hF
                obtain ⟨rfl, hS'⟩ := hv
                refine WL_nil ⟨hS'.ext, ?_⟩
                replace hbx := hbx.st (by decide) hS'
                replace hR := hR.st hS'
                replace hL := hL.st (by decide) hS'
                replace hS := hS.trans hS'
                clear hS'
                refine a_v (i := 13) rfl (by kernel_rfl) hF (fun w2 hx => v_catT rfl rfl (by simp [maxLen]; omega)) rfl ?_; clear hF a; intro a hF
                refine a_v (i := 14) rfl (by kernel_rfl) hF (fun w2 hx => v_assign rfl) rfl ?_; clear hF a; intro a hF
                refine a_v (i := 15) rfl (by kernel_rfl) hF (fun w2 hx => v_assign rfl) rfl ?_; clear hF a; intro a hF
                refine a_done (by kernel_rfl) (hK _ _ ?_)
                clear hK K
                replace hF := hF.sub _ (c_ 7 rfl (c_ 6 rfl (c_ 8 rfl (c_ 4 rfl (c_ 0 rfl (c_ 2 rfl (n_)))))))
                refine W_ret ?_
                refine ⟨_, _, _, hF, rfl, rfl, ?_⟩
                exact ⟨by rw [shardR_is hms hmay (by omega)]; unfold shardN; first | (rw [if_pos (by omega)]; simp [dataN, fig]; done) | (rw [if_neg (by omega)]; simp [parN, fig]), hS⟩
              · skip
                refine sc hF rfl rfl rfl en35 rfl (figure_ok B ni _ hS.inv (by omega)) ?_; clear hF a; intro v w' a hv hF
                obtain ⟨rfl, hS'⟩ := hv
                refine WL_nil ⟨hS'.ext, ?_⟩
                replace hbx := hbx.st (by decide) hS'
                replace hR := hR.st hS'
                replace hS := hS.trans hS'
                clear hS'
                refine a_e (i := 4) rfl (by kernel_rfl) ?_
                refine s_bs (D := FDx) (B := B) hF sl74 rfl rfl (by decide) (by simp [Value.cells]) (by decide) hS.inv rfl ?_; clear hF a; intro w' a hm hI' hL hF
                have hS' := (St.refl hS.inv).mb0 hm
                refine WL_nil ⟨hS'.ext, ?_⟩
                clear hS'
                replace hbx := hbx.mb hm (by simp)
                replace hR := hR.mb hm (by simp)
                replace hS := hS.mb0 hm
                clear hm hI'
                refine a_v (i := 5) rfl (by kernel_rfl) hF (fun w2 hx => v_bstrT (l := [layL p]) Tryd.underlying74 Tryd.underlying5 Tryd.underlying9 rfl ((hL.row (by decide)).ext hx) rfl) rfl ?_; clear hF a; intro a hF
                refine a_v (i := 6) rfl (by kernel_rfl) hF (fun w2 hx => v_catT rfl rfl (by simp [maxLen]; omega)) rfl ?_; clear hF a; intro a hF
                refine a_v (i := 10) rfl (by kernel_rfl) hF (fun w2 hx => v_catT rfl rfl (by simp [maxLen]; omega)) rfl ?_; clear hF a; intro a hF
                refine a_v (i := 13) rfl (by kernel_rfl) hF (fun w2 hx => v_catT rfl rfl (by simp [maxLen]; omega)) rfl ?_; clear hF a; intro a hF
                refine a_v (i := 14) rfl (by kernel_rfl) hF (fun w2 hx => v_assign rfl) rfl ?_; clear hF a; intro a hF
                refine a_v (i := 15) rfl (by kernel_rfl) hF (fun w2 hx => v_assign rfl) rfl ?_; clear hF a; intro a hF
                refine a_done (by kernel_rfl) (hK _ _ ?_)
                clear hK K
                replace hF := hF.sub _ (c_ 7 rfl (c_ 6 rfl (c_ 8 rfl (c_ 4 rfl (c_ 0 rfl (c_ 2 rfl (n_)))))))
                refine W_ret ?_
                refine ⟨_, _, _, hF, rfl, rfl, ?_⟩
                exact ⟨by rw [shardR_is hms hmay (by omega)]; unfold shardN; first | (rw [if_pos (by omega)]; simp [dataN, fig]; done) | (rw [if_neg (by omega)]; simp [parN, fig]), hS⟩
          · skip
            try simp only [decide_eq_true_eq, decide_eq_false_iff_not, Bool.not_eq_true', Bool.not_eq_false', Bool.not_true, Bool.not_false] at hc5
            refine W_skip ?_
            refine W_sd (m := 21) rfl hmix hS.inv (fun K hK w1 hS' hh => ?_)
            replace hbx := hbx.st (by decide) hS'
            replace hR := hR.st hS'
            replace hS := hS.trans hS'
            clear hS'
            clear hh
            refine a_v (i := 0) rfl (by kernel_rfl) hF (fun w2 hx => v_move rfl) rfl ?_; clear hF a; intro a hF
            refine a_v (i := 1) rfl (by kernel_rfl) hF (fun w2 hx => v_catT (b := [46, 112]) rfl rfl (by simp [maxLen]; omega)) rfl ?_; clear hF a; intro a hF
            refine a_v (i := 2) rfl (by kernel_rfl) hF (fun w2 hx => v_fieldAddr fa42_0 rfl) rfl ?_; clear hF a; intro a hF
            refine a_v (i := 3) rfl (by kernel_rfl) hF (fun w2 hx => v_load sc9 rfl (KC.ld (hR.kc 0 (prOf_tagL ⟨hp1, hp2⟩)) hx)) rfl ?_; clear hF a; intro a hF
            refine a_v (i := 4) rfl (by kernel_rfl) hF (fun w2 hx => v_catT rfl rfl (by simp [maxLen, tagL_len]; omega)) rfl ?_; clear hF a; intro a hF
            refine a_v (i := 5) rfl (by kernel_rfl) hF (fun w2 hx => v_fieldAddr fa35_1 rfl) rfl ?_; clear hF a; intro a hF
            refine a_v (i := 6) rfl (by kernel_rfl) hF (fun w2 hx => v_load sc3 rfl (hbx.ld (by decide) hx 1 rfl)) rfl ?_; clear hF a; intro a hF
            refine a_v (i := 9) rfl (by kernel_rfl) hF (fun w2 hx => v_fieldAddr fa35_2 rfl) rfl ?_; clear hF a; intro a hF
            refine a_v (i := 10) rfl (by kernel_rfl) hF (fun w2 hx => v_load sc3 rfl (hbx.ld (by decide) hx 2 rfl)) rfl ?_; clear hF a; intro a hF
            refine a_v (i := 13) rfl (by kernel_rfl) hF (fun w2 hx => v_move rfl) rfl ?_; clear hF a; intro a hF
            refine a_v (i := 14) rfl (by kernel_rfl) hF (fun w2 hx => v_fieldAddr fa35_1 rfl) rfl ?_; clear hF a; intro a hF
            refine a_v (i := 15) rfl (by kernel_rfl) hF (fun w2 hx => v_load sc3 rfl (hbx.ld (by decide) hx 1 rfl)) rfl ?_; clear hF a; intro a hF
            refine a_v (i := 16) rfl (by kernel_rfl) hF (fun w2 hx => (v_subI rfl rfl (by omega)).as (show Value.int .i64 ((ni : Int) - (kn : Int)) = .int .i64 ((ni - kn : Nat) : Int) by congr 1; omega)) rfl ?_; clear hF a; intro a hF
            refine a_e (i := 7) rfl (by kernel_rfl) ?_
            refine sc hF rfl rfl rfl en35 rfl (figure_ok B kn _ hS.inv (by omega)) ?_; clear hF a; intro v w' a hv hF
            obtain ⟨rfl, hS'⟩ := hv
            refine WL_nil ⟨hS'.ext, ?_⟩
            replace hbx := hbx.st (by decide) hS'
            replace hR := hR.st hS'
            replace hS := hS.trans hS'
            clear hS'
            refine a_v (i := 8) rfl (by kernel_rfl) hF (fun w2 hx => v_catT rfl rfl (by simp [maxLen, tagL_len]; omega)) rfl ?_; clear hF a; intro a hF
            refine a_e (i := 11) rfl (by kernel_rfl) ?_
            refine sc hF rfl rfl rfl en35 rfl (figure_ok B mn _ hS.inv (by omega)) ?_; clear hF a; intro v w' a hv hF
            obtain ⟨rfl, hS'⟩ := hv
            refine WL_nil ⟨hS'.ext, ?_⟩
            replace hbx := hbx.st (by decide) hS'
            replace hR := hR.st hS'
            replace hS := hS.trans hS'
            clear hS'
            refine a_v (i := 12) rfl (by kernel_rfl) hF (fun w2 hx => v_catT rfl rfl (by simp [maxLen, tagL_len]; omega)) rfl ?_; clear hF a; intro a hF
            refine a_e (i := 17) rfl (by kernel_rfl) ?_
            refine sc hF rfl rfl rfl en35 rfl (figure_ok B (ni - kn) _ hS.inv (by omega)) ?_; clear hF a; intro v w' a hv hF
            obtain ⟨rfl, hS'⟩ := hv
            refine WL_nil ⟨hS'.ext, ?_⟩
            replace hbx := hbx.st (by decide) hS'
            replace hR := hR.st hS'
            replace hS := hS.trans hS'
            clear hS'
            refine a_v (i := 18) rfl (by kernel_rfl) hF (fun w2 hx => v_catT rfl rfl (by simp [maxLen, tagL_len]; omega)) rfl ?_; clear hF a; intro a hF
            refine a_v (i := 19) rfl (by kernel_rfl) hF (fun w2 hx => v_assign rfl) rfl ?_; clear hF a; intro a hF
            refine a_v (i := 20) rfl (by kernel_rfl) hF (fun w2 hx => v_assign rfl) rfl ?_; clear hF a; intro a hF
            refine a_done (by kernel_rfl) (hK _ _ ?_)
            clear hK K
            replace hF := hF.sub _ (c_ 7 rfl (c_ 6 rfl (n_)))
            refine W_ret ?_
            refine ⟨_, _, _, hF, rfl, rfl, ?_⟩
            exact ⟨by rw [shardR_is hms hmay (by omega)]; unfold shardN; first | (rw [if_pos (by omega)]; simp [dataN, fig]; done) | (rw [if_neg (by omega)]; simp [parN, fig]), hS⟩

set_option maxRecDepth 100000 in
set_option maxHeartbeats 1000000 in
theorem rSidecar_ok (B : Nat) (nm : List UInt8) (w : World) (hI : Inv FDx B w) : Ret Tryd.prog 20 [.string (str nm)] w fun v w' => v = .tuple #[.string (str (sideR nm).1), .int .i64 (sideR nm).2] ∧ St FDx B w w' := by
  refine enter2 9 [(0, .string (str nm))] 2 3 Tryd.func20 rfl rfl rfl rfl rfl ?_; intro a hF
  have hS := St.refl hI
  refine W_sr rfl (fun K hK => ?_)
  refine sv hF (v_assign rfl) rfl ?_; clear hF a; intro a hF
  refine sv hF (v_assign rfl) rfl ?_; clear hF a; intro a hF
  refine WL_nil (hK _ _ ?_)
  clear hK K
  refine W_seq ?_
  refine W_sr rfl (fun K hK => ?_)
  refine sv hF (v_move rfl) rfl ?_; clear hF a; intro a hF
  refine sc hF rfl rfl rfl en16 rfl (rMay15_ok B nm _ hS.inv) ?_; clear hF a; intro v w' a hv hF
  obtain ⟨rfl, hS'⟩ := hv
  replace hS := hS.trans hS'
  clear hS'
  refine sv hF (v_not rfl) rfl ?_; clear hF a; intro a hF
  refine WL_nil (hK _ _ ?_)
  clear hK K
  replace hF := hF.sub _ (c_ 6 rfl (c_ 3 rfl (c_ 2 rfl (c_ 0 rfl (n_)))))
  refine W_if hF rfl (fun hc1 => ?_) (fun hc1 => ?_)
  · skip
    try simp only [decide_eq_true_eq, decide_eq_false_iff_not, Bool.not_eq_true', Bool.not_eq_false', Bool.not_true, Bool.not_false] at hc1
    refine W_sr rfl (fun K hK => ?_)
    refine sv hF (v_assign rfl) rfl ?_; clear hF a; intro a hF
    refine sv hF (v_assign rfl) rfl ?_; clear hF a; intro a hF
    refine WL_nil (hK _ _ ?_)
    clear hK K
    replace hF := hF.sub _ (c_ 3 rfl (c_ 2 rfl (c_ 0 rfl (n_))))
    refine W_ret ?_
    refine ⟨_, _, _, hF, rfl, rfl, ?_⟩
    exact ⟨by rw [show sideR nm = ([], 1) from if_neg (by simpa using hc1)]; rfl, hS⟩
  · skip
    try simp only [decide_eq_true_eq, decide_eq_false_iff_not, Bool.not_eq_true', Bool.not_eq_false', Bool.not_true, Bool.not_false] at hc1
    refine W_skip ?_
    have hm : mayS nm = true := by simpa using hc1
    have hml := mayS_len hm
    refine W_sr rfl (fun K hK => ?_)
    refine sv hF (v_move rfl) rfl ?_; clear hF a; intro a hF
    refine sv hF (v_catT (b := [46, 115, 105, 100, 101]) rfl rfl (by simp [maxLen]; omega)) rfl ?_; clear hF a; intro a hF
    refine sv hF (v_assign rfl) rfl ?_; clear hF a; intro a hF
    refine sv hF (v_assign rfl) rfl ?_; clear hF a; intro a hF
    refine WL_nil (hK _ _ ?_)
    clear hK K
    replace hF := hF.sub _ (c_ 3 rfl (c_ 2 rfl (n_)))
    refine W_ret ?_
    refine ⟨_, _, _, hF, rfl, rfl, ?_⟩
    exact ⟨by rw [show sideR nm = (nm ++ 46 :: [115, 105, 100, 101], 0) from if_pos hm]; first | done | simp, hS⟩

set_option maxRecDepth 100000 in
set_option maxHeartbeats 1000000 in
theorem object_ok (B : Nat) (nm : List UInt8) (w : World) (hI : Inv FDx B w) (hl : nm.length ≤ 1000) : Ret Tryd.prog 31 [.string (str nm)] w fun v w' => v = .string (str (objOf nm)) ∧ St FDx B w w' := by
  refine enter 18 [(0, .string (str nm))] 2 Tryd.func31 rfl rfl rfl rfl rfl ?_; intro a hF
  have hS := St.refl hI
  refine W_sr rfl (fun K hK => ?_)
  refine sv hF (v_assign rfl) rfl ?_; clear hF a; intro a hF
  refine WL_nil (hK _ _ ?_)
  clear hK K
  refine W_seq ?_
  refine W_sr rfl (fun K hK => ?_)
  refine sv hF (v_assign rfl) rfl ?_; clear hF a; intro a hF
  refine WL_nil (hK _ _ ?_)
  clear hK K
  refine W_block ?_
  refine W_loop (fun q a w1 => ∃ (i : Nat), Fr 18 [(0, .string (str nm)), (3, .int .i64 (i : Int))] a ∧ (St FDx B w w1) ∧ (i ≤ nm.length) ∧ (∀ b ∈ nm.take i, b ≠ 46) ∧ (q + i = nm.length)) (nm.length) ?_ ?_
  · skip
    exact ⟨0, hF.sub _ (c_ 0 rfl (c_ 3 rfl (n_))), hS, by omega, by simp, by omega⟩
  · skip
    clear hF
    clear hS
    rintro q a w1 ⟨i, hF, hS, hi, hn, hq⟩
    refine W_seq ?_
    refine W_sr rfl (fun K hK => ?_)
    refine sv hF (v_move rfl) rfl ?_; clear hF a; intro a hF
    refine sv hF (v_move rfl) rfl ?_; clear hF a; intro a hF
    refine sv hF (v_lenT rfl Tryd.underlying9 rfl) rfl ?_; clear hF a; intro a hF
    refine sv hF (v_lss rfl rfl) rfl ?_; clear hF a; intro a hF
    refine WL_nil (hK _ _ ?_)
    clear hK K
    replace hF := hF.sub _ (c_ 7 rfl (c_ 0 rfl (c_ 3 rfl (n_))))
    refine W_if hF rfl (fun hc1 => ?_) (fun hc1 => ?_)
    · skip
      try simp only [decide_eq_true_eq, decide_eq_false_iff_not, Bool.not_eq_true', Bool.not_eq_false', Bool.not_true, Bool.not_false] at hc1
      have hlt : i < nm.length := by omega
      obtain ⟨b_, hb⟩ : ∃ z, nm[i]? = some z := ⟨_, List.getElem?_eq_getElem hlt⟩
      refine W_skip ?_
      refine W_seq ?_
      refine W_block ?_
      refine W_sr rfl (fun K hK => ?_)
      refine sv hF (v_move rfl) rfl ?_; clear hF a; intro a hF
      refine sv hF (v_move rfl) rfl ?_; clear hF a; intro a hF
      refine sv hF (v_ixT (b := b_) Tryd.underlying9 rfl rfl (by omega) (by rw [Int.toNat_natCast]; exact hb)) rfl ?_; clear hF a; intro a hF
      refine sv hF (v_eql rfl rfl) rfl ?_; clear hF a; intro a hF
      refine WL_nil (hK _ _ ?_)
      clear hK K
      replace hF := hF.sub _ (c_ 13 rfl (c_ 0 rfl (c_ 3 rfl (n_))))
      refine W_if hF rfl (fun hc2 => ?_) (fun hc2 => ?_)
      · skip
        try simp only [decide_eq_true_eq, decide_eq_false_iff_not, Bool.not_eq_true', Bool.not_eq_false', Bool.not_true, Bool.not_false] at hc2
        have heq : b_ = 46 := UInt8.toNat_inj.1 (Int.ofNat_inj.1 (show (b_.toNat : Int) = ((46 : UInt8).toNat : Int) by assumption))
        rw [heq] at hb
        refine W_sr rfl (fun K hK => ?_)
        refine sv hF (v_move rfl) rfl ?_; clear hF a; intro a hF
        refine sv hF (v_move rfl) rfl ?_; clear hF a; intro a hF
        refine sv hF (v_slHiT Tryd.underlying9 rfl rfl (by omega)) rfl ?_; clear hF a; intro a hF
        refine sv hF (v_assign rfl) rfl ?_; clear hF a; intro a hF
        refine WL_nil (hK _ _ ?_)
        clear hK K
        replace hF := hF.sub _ (c_ 2 rfl (c_ 0 rfl (c_ 3 rfl (n_))))
        refine W_ret ?_
        refine ⟨_, _, hF, rfl, ?_⟩
        exact ⟨by rw [objOf_at hb (fun hm => hn _ hm rfl)], hS⟩
      · skip
        try simp only [decide_eq_true_eq, decide_eq_false_iff_not, Bool.not_eq_true', Bool.not_eq_false', Bool.not_true, Bool.not_false] at hc2
        have hne : b_ ≠ 46 := fun e => (show ¬ (b_.toNat : Int) = 46 by assumption) (by rw [e]; rfl)
        refine W_skip ?_
        refine W_reg rfl (fun K hK => ?_)
        refine sv hF (v_move rfl) rfl ?_; clear hF a; intro a hF
        refine sv hF (v_addI rfl rfl (by omega)) rfl ?_; clear hF a; intro a hF
        refine sv hF (v_assign rfl) rfl ?_; clear hF a; intro a hF
        refine WL_nil (hK _ _ ?_)
        clear hK K
        replace hF := hF.sub _ (c_ 3 rfl (c_ 9 rfl (c_ 8 rfl (c_ 0 rfl (n_)))))
        exact ⟨q - 1, by omega, i + 1, hF.sub _ (c_ 0 rfl (c_ 3 rfl (n_))), hS, by omega, take_snoc_all hn hb hne, by omega⟩
    · skip
      try simp only [decide_eq_true_eq, decide_eq_false_iff_not, Bool.not_eq_true', Bool.not_eq_false', Bool.not_true, Bool.not_false] at hc1
      refine W_exit rfl ?_
      refine W_sr rfl (fun K hK => ?_)
      refine sv hF (v_move rfl) rfl ?_; clear hF a; intro a hF
      refine sv hF (v_assign rfl) rfl ?_; clear hF a; intro a hF
      refine WL_nil (hK _ _ ?_)
      clear hK K
      replace hF := hF.sub _ (c_ 2 rfl (c_ 17 rfl (c_ 0 rfl (c_ 3 rfl (n_)))))
      refine W_ret ?_
      refine ⟨_, _, hF, rfl, ?_⟩
      obtain rfl : i = nm.length := by omega
      rw [List.take_length] at hn
      exact ⟨by rw [objOf_no (fun hm => hn _ hm rfl)], hS⟩

set_option maxRecDepth 100000 in
set_option maxHeartbeats 1000000 in
theorem Strings_t (B M : Nat) (pa pb : Option Addr) (ca cb : Nat) (L : List (List UInt8)) (w : World) (hI : Inv FDx B w) (hA : Row FDx B M w (.slice pa L.length ca) (strs L)) (hB : Row FDx B M w (.slice pb L.length cb) (strs L)) (hl : L.length ≤ 1000) : Ret Tryd.prog 24 [.slice pa L.length ca, .slice pb L.length cb] w fun v w' => v = .bool true ∧ St FDx B w w' := by
  refine enter 26 [(0, .slice pa L.length ca), (1, .slice pb L.length cb)] 4 Tryd.func24 rfl rfl rfl rfl rfl ?_; intro a hF
  have hS := St.refl hI
  refine W_sr rfl (fun K hK => ?_)
  refine sv hF (v_assign rfl) rfl ?_; clear hF a; intro a hF
  refine WL_nil (hK _ _ ?_)
  clear hK K
  refine W_seq ?_
  refine W_sr rfl (fun K hK => ?_)
  refine sv hF (v_move rfl) rfl ?_; clear hF a; intro a hF
  refine sv hF (v_lenS rfl sl54 rfl) rfl ?_; clear hF a; intro a hF
  refine sv hF (v_move rfl) rfl ?_; clear hF a; intro a hF
  refine sv hF (v_lenS rfl sl54 rfl) rfl ?_; clear hF a; intro a hF
  refine sv hF ((v_neq rfl rfl).as (congrArg Value.bool (decide_eq_false (fun h => h rfl)))) rfl ?_; clear hF a; intro a hF
  refine WL_nil (hK _ _ ?_)
  clear hK K
  replace hF := hF.sub _ (c_ 10 rfl (c_ 4 rfl (c_ 0 rfl (c_ 1 rfl (n_)))))
  refine W_ifF hF rfl ?_
  refine W_skip ?_
  refine W_seq ?_
  refine W_sr rfl (fun K hK => ?_)
  refine sv hF (v_assign rfl) rfl ?_; clear hF a; intro a hF
  refine WL_nil (hK _ _ ?_)
  clear hK K
  replace hF := hF.sub _ (c_ 5 rfl (c_ 4 rfl (c_ 0 rfl (c_ 1 rfl (n_)))))
  refine W_block ?_
  refine W_loop (fun q a w1 => ∃ (i : Nat), Fr 26 [(0, .slice pa L.length ca), (1, .slice pb L.length cb), (5, .int .i64 (i : Int))] a ∧ (St FDx B w w1) ∧ (Row FDx B M w1 (.slice pa L.length ca) (strs L)) ∧ (Row FDx B M w1 (.slice pb L.length cb) (strs L)) ∧ (i ≤ L.length) ∧ (q + i = L.length)) (L.length) ?_ ?_
  · skip
    exact ⟨0, hF.sub _ (c_ 0 rfl (c_ 1 rfl (c_ 5 rfl (n_)))), hS, hA, hB, by omega, by omega⟩
  · skip
    clear hF
    clear hS hA hB
    rintro q a w1 ⟨i, hF, hS, hA, hB, hi, hq⟩
    refine W_seq ?_
    refine W_sr rfl (fun K hK => ?_)
    refine sv hF (v_move rfl) rfl ?_; clear hF a; intro a hF
    refine sv hF (v_move rfl) rfl ?_; clear hF a; intro a hF
    refine sv hF (v_lenS rfl sl54 rfl) rfl ?_; clear hF a; intro a hF
    refine sv hF (v_lss rfl rfl) rfl ?_; clear hF a; intro a hF
    refine WL_nil (hK _ _ ?_)
    clear hK K
    replace hF := hF.sub _ (c_ 14 rfl (c_ 0 rfl (c_ 1 rfl (c_ 5 rfl (n_)))))
    refine W_if hF rfl (fun hc1 => ?_) (fun hc1 => ?_)
    · skip
      try simp only [decide_eq_true_eq, decide_eq_false_iff_not, Bool.not_eq_true', Bool.not_eq_false', Bool.not_true, Bool.not_false] at hc1
      have hlt : i < L.length := by omega
      obtain ⟨l_, hl_⟩ : ∃ z, L[i]? = some z := ⟨_, List.getElem?_eq_getElem hlt⟩
      obtain ⟨ga, oga, hga, hkga, -⟩ := hA.kat (strs_at hl_)
      subst hga
      obtain ⟨gb, ogb, hgb, hkgb, -⟩ := hB.kat (strs_at hl_)
      subst hgb
      refine W_skip ?_
      refine W_seq ?_
      refine W_block ?_
      refine W_sd (m := 9) rfl hmix hS.inv (fun K hK w1 hS' hh => ?_)
      replace hA := hA.st hS'
      replace hB := hB.st hS'
      replace hkga := hkga.st hS'
      replace hkgb := hkgb.st hS'
      replace hS := hS.trans hS'
      clear hS'
      clear hh
      refine a_v (i := 0) rfl (by kernel_rfl) hF (fun w2 hx => v_move rfl) rfl ?_; clear hF a; intro a hF
      refine a_v (i := 1) rfl (by kernel_rfl) hF (fun w2 hx => v_move rfl) rfl ?_; clear hF a; intro a hF
      refine a_v (i := 2) rfl (by kernel_rfl) hF (fun w2 hx => v_ixS sl54 rfl rfl (by omega) (by omega)) rfl ?_; clear hF a; intro a hF
      refine a_v (i := 3) rfl (by kernel_rfl) hF (fun w2 hx => v_load sc9 rfl (by rw [toNat_c]; exact KC.ld hkga hx)) rfl ?_; clear hF a; intro a hF
      refine a_v (i := 4) rfl (by kernel_rfl) hF (fun w2 hx => v_move rfl) rfl ?_; clear hF a; intro a hF
      refine a_v (i := 5) rfl (by kernel_rfl) hF (fun w2 hx => v_move rfl) rfl ?_; clear hF a; intro a hF
      refine a_v (i := 6) rfl (by kernel_rfl) hF (fun w2 hx => v_ixS sl54 rfl rfl (by omega) (by omega)) rfl ?_; clear hF a; intro a hF
      refine a_v (i := 7) rfl (by kernel_rfl) hF (fun w2 hx => v_load sc9 rfl (by rw [toNat_c]; exact KC.ld hkgb hx)) rfl ?_; clear hF a; intro a hF
      refine a_v (i := 8) rfl (by kernel_rfl) hF (fun w2 hx => (v_neqT (a := l_) (b := l_) rfl rfl).as (congrArg Value.bool (show (!decide (l_ = l_)) = false by simp))) rfl ?_; clear hF a; intro a hF
      refine a_done (by kernel_rfl) (hK _ _ ?_)
      clear hK K
      replace hF := hF.sub _ (c_ 25 rfl (c_ 0 rfl (c_ 1 rfl (c_ 5 rfl (n_)))))
      refine W_ifF hF rfl ?_
      refine W_skip ?_
      refine W_reg rfl (fun K hK => ?_)
      refine sv hF (v_move rfl) rfl ?_; clear hF a; intro a hF
      refine sv hF (v_addI rfl rfl (by omega)) rfl ?_; clear hF a; intro a hF
      refine sv hF (v_assign rfl) rfl ?_; clear hF a; intro a hF
      refine WL_nil (hK _ _ ?_)
      clear hK K
      replace hF := hF.sub _ (c_ 5 rfl (c_ 16 rfl (c_ 15 rfl (c_ 0 rfl (c_ 1 rfl (n_))))))
      exact ⟨q - 1, by omega, i + 1, hF.sub _ (c_ 0 rfl (c_ 1 rfl (c_ 5 rfl (n_)))), hS, hA, hB, by omega, by omega⟩
    · skip
      try simp only [decide_eq_true_eq, decide_eq_false_iff_not, Bool.not_eq_true', Bool.not_eq_false', Bool.not_true, Bool.not_false] at hc1
      refine W_exit rfl ?_
      refine W_sr rfl (fun K hK => ?_)
      refine sv hF (v_assign rfl) rfl ?_; clear hF a; intro a hF
      refine WL_nil (hK _ _ ?_)
      clear hK K
      replace hF := hF.sub _ (c_ 4 rfl (c_ 0 rfl (c_ 1 rfl (c_ 5 rfl (n_)))))
      refine W_ret ?_
      refine ⟨_, _, hF, rfl, ?_⟩
      exact ⟨rfl, hS⟩

end Go.Proofs.YtkoiolamnnmokaaDoor
