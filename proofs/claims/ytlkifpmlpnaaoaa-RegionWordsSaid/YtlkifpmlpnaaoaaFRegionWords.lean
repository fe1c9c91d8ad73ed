/- The statement RegionWords, walked: it returns true. -/
import Derived.Test.YtlkifpmlpnaaoaaFAw03
set_option linter.unusedVariables false
set_option linter.unusedSimpArgs false
namespace Go.Proofs.Ytlkifpmlpnaaoaa
open Go Go.Gam


namespace FxFRegionWords
theorem en15 : Ent Try.prog 15 := ent Try.func15 (by kernel_rfl) (by kernel_rfl)
theorem en16 : Ent Try.prog 16 := ent Try.func16 (by kernel_rfl) (by kernel_rfl)
theorem en17 : Ent Try.prog 17 := ent Try.func17 (by kernel_rfl) (by kernel_rfl)
theorem en18 : Ent Try.prog 18 := ent Try.func18 (by kernel_rfl) (by kernel_rfl)
theorem en19 : Ent Try.prog 19 := ent Try.func19 (by kernel_rfl) (by kernel_rfl)
theorem en20 : Ent Try.prog 20 := ent Try.func20 (by kernel_rfl) (by kernel_rfl)
theorem en21 : Ent Try.prog 21 := ent Try.func21 (by kernel_rfl) (by kernel_rfl)
theorem en22 : Ent Try.prog 22 := ent Try.func22 (by kernel_rfl) (by kernel_rfl)
theorem en23 : Ent Try.prog 23 := ent Try.func23 (by kernel_rfl) (by kernel_rfl)
theorem sl22 : Sl Try.prog 22 5 (.int .u8 0) 1 := sl_of Try.underlying22 rfl (by kernel_rfl)
theorem sl23 : Sl Try.prog 23 3 (.int .i64 0) 8 := sl_of Try.underlying23 rfl (by kernel_rfl)
end FxFRegionWords
open FxFRegionWords

set_option maxRecDepth 100000 in
set_option maxHeartbeats 1000000 in
theorem RegionWords_ok (B M : Nat) (lg : Bool) (pb : Option Addr) (cb : Nat) (b : List Nat) (sl : Option Addr) (cl : Nat) (l : List Int) (w : World) (hI : Inv FDx B w) (hM : M ≤ w.heap.size) (hb : Row FDx B M w (.slice pb b.length cb) (byt b)) (hb8 : ∀ x ∈ b, x < 256) (hbl : b.length ≤ maxLen) (hl : Row FDx B M w (.slice sl l.length cl) (zints l)) (hlb : ∀ z ∈ l, (Lit.int .i64 z).wf = true) (hll : l.length ≤ maxLen) : Ret Try.prog 3 [.bool lg, .slice pb b.length cb, .slice sl l.length cl] w fun v w' => v = .bool true ∧ St FDx B w w' := by
  refine enter 82 [(0, .bool lg), (1, .slice pb b.length cb), (2, .slice sl l.length cl)] 6 Try.func3 rfl rfl rfl rfl rfl ?_; intro a hF
  have hS := St.refl hI
  replace hb := hb.mono hM
  replace hl := hl.mono hM
  simp only [maxLen] at hbl hll
  refine W_sr rfl (fun K hK => ?_)
  refine sv hF (v_assign rfl) rfl ?_; clear hF a; intro a hF
  refine WL_nil (hK _ _ ?_)
  clear hK K
  refine W_sr rfl (fun K hK => ?_)
  refine sc hF rfl rfl rfl en15 rfl (aw03_ok B _ hS.inv) ?_; clear hF a; intro v w' a hv hF
  obtain ⟨rfl, hS'⟩ := hv
  replace hb := (hb.st hS').mono hS'.ext.size
  replace hl := (hl.st hS').mono hS'.ext.size
  replace hS := hS.trans hS'
  clear hS'
  refine sv hF (v_assign rfl) rfl ?_; clear hF a; intro a hF
  refine WL_nil (hK _ _ ?_)
  clear hK K
  replace hF := hF.sub _ (c_ 7 rfl (c_ 6 rfl (c_ 0 rfl (c_ 1 rfl (c_ 2 rfl (n_))))))
  refine W_seq ?_
  refine W_sr rfl (fun K hK => ?_)
  refine sv hF (v_move rfl) rfl ?_; clear hF a; intro a hF
  refine sv hF (v_lenS rfl sl22 rfl) rfl ?_; clear hF a; intro a hF
  refine sb hF (v_gtr rfl rfl) rfl ?_ ?_
  · clear hF a; intro hc1 a hF
    try simp only [decide_eq_true_eq, decide_eq_false_iff_not, Bool.not_eq_true', Bool.not_eq_false', Bool.not_true, Bool.not_false] at hc1
    refine sv hF (v_move rfl) rfl ?_; clear hF a; intro a hF
    refine svn hF rfl rfl rfl ?_; clear hF a; intro a hF
    refine svn hF rfl rfl rfl ?_; clear hF a; intro a hF
    refine svn hF rfl rfl rfl ?_; clear hF a; intro a hF
    refine sv hF (v_pickT rfl rfl) rfl ?_; clear hF a; intro a hF
    refine WL_nil (hK _ _ ?_)
    clear hK K
    replace hF := hF.sub _ (c_ 27 rfl (c_ 7 rfl (c_ 6 rfl (c_ 0 rfl (c_ 1 rfl (c_ 2 rfl (n_)))))))
    refine W_ifT hF rfl ?_
    refine W_sr rfl (fun K hK => ?_)
    refine sv hF (v_move rfl) rfl ?_; clear hF a; intro a hF
    refine sv hF (v_assign rfl) rfl ?_; clear hF a; intro a hF
    refine WL_nil (hK _ _ ?_)
    clear hK K
    replace hF := hF.sub _ (c_ 6 rfl (c_ 7 rfl (c_ 0 rfl (c_ 1 rfl (c_ 2 rfl (n_))))))
    refine W_ret ?_
    refine ⟨_, _, hF, rfl, ?_⟩
    exact ⟨rfl, hS⟩
  · clear hF a; intro hc1 a hF
    try simp only [decide_eq_true_eq, decide_eq_false_iff_not, Bool.not_eq_true', Bool.not_eq_false', Bool.not_true, Bool.not_false] at hc1
    refine sv hF (v_move rfl) rfl ?_; clear hF a; intro a hF
    refine svg hF rfl ?_
    refine sv hF (v_move rfl) rfl ?_; clear hF a; intro a hF
    refine svg hF rfl ?_
    refine sv hF (v_lenS rfl sl23 rfl) rfl ?_; clear hF a; intro a hF
    refine svg hF rfl ?_
    refine sv hF (v_gtr rfl rfl) rfl ?_; clear hF a; intro a hF
    refine sv hF (v_pickF rfl rfl) rfl ?_; clear hF a; intro a hF
    refine WL_nil (hK _ _ ?_)
    clear hK K
    replace hF := hF.sub _ (c_ 27 rfl (c_ 7 rfl (c_ 6 rfl (c_ 0 rfl (c_ 1 rfl (c_ 2 rfl (n_)))))))
    refine W_if hF rfl (fun hc2 => ?_) (fun hc2 => ?_)
    · skip
      try simp only [decide_eq_true_eq, decide_eq_false_iff_not, Bool.not_eq_true', Bool.not_eq_false', Bool.not_true, Bool.not_false] at hc2
      refine W_sr rfl (fun K hK => ?_)
      refine sv hF (v_move rfl) rfl ?_; clear hF a; intro a hF
      refine sv hF (v_assign rfl) rfl ?_; clear hF a; intro a hF
      refine WL_nil (hK _ _ ?_)
      clear hK K
      replace hF := hF.sub _ (c_ 6 rfl (c_ 7 rfl (c_ 0 rfl (c_ 1 rfl (c_ 2 rfl (n_))))))
      refine W_ret ?_
      refine ⟨_, _, hF, rfl, ?_⟩
      exact ⟨rfl, hS⟩
    · skip
      try simp only [decide_eq_true_eq, decide_eq_false_iff_not, Bool.not_eq_true', Bool.not_eq_false', Bool.not_true, Bool.not_false] at hc2
      refine W_skip ?_
      refine W_sr rfl (fun K hK => ?_)
      refine sv hF (v_move rfl) rfl ?_; clear hF a; intro a hF
      refine sc hF rfl rfl rfl en16 rfl (field3_ok B lg _ hS.inv) ?_; clear hF a; intro v w' a hv hF
      obtain ⟨fv, rfl, hf, hS'⟩ := hv
      obtain ⟨⟨wb, p⟩, hq⟩ : ∃ q, fq lg = q := ⟨_, rfl⟩
      have hq1 : (fq lg).1 = wb := by rw [hq]
      have hq2 : (fq lg).2 = p := by rw [hq]
      rw [hq] at hf
      rw [hq1, hq2] at hF
      clear hq1 hq2
      have hp : Prm wb p := hf.1
      replace hb := (hb.st hS').mono hS'.ext.size
      replace hl := (hl.st hS').mono hS'.ext.size
      replace hS := hS.trans hS'
      clear hS'
      refine sv hF (v_move rfl) rfl ?_; clear hF a; intro a hF
      refine sv hF (v_ext rfl rfl) rfl ?_; clear hF a; intro a hF
      refine sv hF (v_ext rfl rfl) rfl ?_; clear hF a; intro a hF
      refine sv hF (v_ext rfl rfl) rfl ?_; clear hF a; intro a hF
      refine sv hF (v_assign rfl) rfl ?_; clear hF a; intro a hF
      refine sv hF (v_assign rfl) rfl ?_; clear hF a; intro a hF
      refine sv hF (v_assign rfl) rfl ?_; clear hF a; intro a hF
      refine WL_nil (hK _ _ ?_)
      clear hK K
      replace hF := hF.sub _ (c_ 9 rfl (c_ 8 rfl (c_ 7 rfl (c_ 6 rfl (c_ 1 rfl (c_ 2 rfl (n_)))))))
      refine W_sr rfl (fun K hK => ?_)
      refine sv hF (v_move rfl) rfl ?_; clear hF a; intro a hF
      refine sv hF (v_move rfl) rfl ?_; clear hF a; intro a hF
      refine sc hF rfl rfl rfl en17 rfl (Words_ok B _ (some (wb, p)) fv pb cb b _ hf hS.inv hb (Nat.le_refl _) hb8 (by omega)) ?_; clear hF a; intro v w' a hv hF
      obtain ⟨sX, obX, rfl, hOX, hS'⟩ := hv
      obtain ⟨aX, cX, rfl⟩ := hOX.shape
      have hX := hOX.row (by decide)
      rw [ints_length] at hX hF
      clear hOX
      replace hb := (hb.st hS').mono hS'.ext.size
      replace hl := (hl.st hS').mono hS'.ext.size
      replace hf := hf.st hS'
      replace hS := hS.trans hS'
      clear hS'
      refine sv hF (v_move rfl) rfl ?_; clear hF a; intro a hF
      refine sv hF (v_ext rfl rfl) rfl ?_; clear hF a; intro a hF
      refine sv hF (v_ext rfl rfl) rfl ?_; clear hF a; intro a hF
      refine sv hF (v_assign rfl) rfl ?_; clear hF a; intro a hF
      refine sv hF (v_assign rfl) rfl ?_; clear hF a; intro a hF
      refine WL_nil (hK _ _ ?_)
      clear hK K
      replace hF := hF.sub _ (c_ 12 rfl (c_ 11 rfl (c_ 9 rfl (c_ 8 rfl (c_ 7 rfl (c_ 6 rfl (c_ 1 rfl (c_ 2 rfl (n_)))))))))
      refine W_sr rfl (fun K hK => ?_)
      refine sv hF (v_move rfl) rfl ?_; clear hF a; intro a hF
      refine sv hF (v_move rfl) rfl ?_; clear hF a; intro a hF
      refine sc hF rfl rfl rfl en18 rfl (rWords_ok B _ wb hp.w pb cb b _ hS.inv hb (Nat.le_refl _) hb8 (by omega)) ?_; clear hF a; intro v w' a hv hF
      obtain ⟨sY, obY, rfl, hOY, hS'⟩ := hv
      obtain ⟨aY, cY, rfl⟩ := hOY.shape
      have hY := hOY.row (by decide)
      rw [ints_length] at hY hF
      clear hOY
      replace hb := (hb.st hS').mono hS'.ext.size
      replace hl := (hl.st hS').mono hS'.ext.size
      replace hf := hf.st hS'
      replace hX := (hX.st hS').mono hS'.ext.size
      replace hS := hS.trans hS'
      clear hS'
      refine sv hF (v_move rfl) rfl ?_; clear hF a; intro a hF
      refine sv hF (v_ext rfl rfl) rfl ?_; clear hF a; intro a hF
      refine sv hF (v_ext rfl rfl) rfl ?_; clear hF a; intro a hF
      refine sv hF (v_assign rfl) rfl ?_; clear hF a; intro a hF
      refine sv hF (v_assign rfl) rfl ?_; clear hF a; intro a hF
      refine WL_nil (hK _ _ ?_)
      clear hK K
      replace hF := hF.sub _ (c_ 14 rfl (c_ 13 rfl (c_ 12 rfl (c_ 11 rfl (c_ 9 rfl (c_ 8 rfl (c_ 7 rfl (c_ 6 rfl (c_ 2 rfl (n_))))))))))
      refine W_sr rfl (fun K hK => ?_)
      refine sv hF (v_move rfl) rfl ?_; clear hF a; intro a hF
      refine sv hF (v_move rfl) rfl ?_; clear hF a; intro a hF
      refine sc hF rfl rfl rfl en19 rfl (Bytes_ok B _ (some (wb, p)) fv sl cl l _ hf hS.inv hl (Nat.le_refl _) (by omega)) ?_; clear hF a; intro v w' a hv hF
      obtain ⟨sC, obC, rfl, hOC, hS'⟩ := hv
      obtain ⟨aC, cC, rfl⟩ := hOC.shape
      have hC := hOC.row (by decide)
      rw [byt_length] at hC hF
      clear hOC
      replace hb := (hb.st hS').mono hS'.ext.size
      replace hl := (hl.st hS').mono hS'.ext.size
      replace hf := hf.st hS'
      replace hX := (hX.st hS').mono hS'.ext.size
      replace hY := (hY.st hS').mono hS'.ext.size
      replace hS := hS.trans hS'
      clear hS'
      refine sv hF (v_move rfl) rfl ?_; clear hF a; intro a hF
      refine sv hF (v_ext rfl rfl) rfl ?_; clear hF a; intro a hF
      refine sv hF (v_ext rfl rfl) rfl ?_; clear hF a; intro a hF
      refine sv hF (v_assign rfl) rfl ?_; clear hF a; intro a hF
      refine sv hF (v_assign rfl) rfl ?_; clear hF a; intro a hF
      refine WL_nil (hK _ _ ?_)
      clear hK K
      replace hF := hF.sub _ (c_ 16 rfl (c_ 15 rfl (c_ 14 rfl (c_ 13 rfl (c_ 12 rfl (c_ 11 rfl (c_ 9 rfl (c_ 7 rfl (c_ 6 rfl (c_ 2 rfl (n_)))))))))))
      refine W_sr rfl (fun K hK => ?_)
      refine sv hF (v_move rfl) rfl ?_; clear hF a; intro a hF
      refine sv hF (v_move rfl) rfl ?_; clear hF a; intro a hF
      refine sc hF rfl rfl rfl en20 rfl (rBytes_ok B _ wb p hp sl cl l _ hS.inv hl (Nat.le_refl _) (by omega)) ?_; clear hF a; intro v w' a hv hF
      obtain ⟨sD, obD, rfl, hOD, hS'⟩ := hv
      obtain ⟨aD, cD, rfl⟩ := hOD.shape
      have hD := hOD.row (by decide)
      rw [byt_length] at hD hF
      clear hOD
      replace hb := (hb.st hS').mono hS'.ext.size
      replace hl := (hl.st hS').mono hS'.ext.size
      replace hf := hf.st hS'
      replace hX := (hX.st hS').mono hS'.ext.size
      replace hY := (hY.st hS').mono hS'.ext.size
      replace hC := (hC.st hS').mono hS'.ext.size
      replace hS := hS.trans hS'
      clear hS'
      refine sv hF (v_move rfl) rfl ?_; clear hF a; intro a hF
      refine sv hF (v_ext rfl rfl) rfl ?_; clear hF a; intro a hF
      refine sv hF (v_ext rfl rfl) rfl ?_; clear hF a; intro a hF
      refine sv hF (v_assign rfl) rfl ?_; clear hF a; intro a hF
      refine sv hF (v_assign rfl) rfl ?_; clear hF a; intro a hF
      refine WL_nil (hK _ _ ?_)
      clear hK K
      replace hF := hF.sub _ (c_ 18 rfl (c_ 17 rfl (c_ 16 rfl (c_ 15 rfl (c_ 14 rfl (c_ 13 rfl (c_ 12 rfl (c_ 11 rfl (c_ 7 rfl (c_ 6 rfl (n_)))))))))))
      refine W_seq ?_
      refine W_sr rfl (fun K hK => ?_)
      refine sv hF (v_move rfl) rfl ?_; clear hF a; intro a hF
      refine sv hF (v_not rfl) rfl ?_; clear hF a; intro a hF
      refine WL_nil (hK _ _ ?_)
      clear hK K
      replace hF := hF.sub _ (c_ 60 rfl (c_ 18 rfl (c_ 17 rfl (c_ 16 rfl (c_ 15 rfl (c_ 14 rfl (c_ 13 rfl (c_ 12 rfl (c_ 11 rfl (c_ 7 rfl (c_ 6 rfl (n_))))))))))))
      refine W_if hF rfl (fun hc3 => ?_) (fun hc3 => ?_)
      · skip
        try simp only [decide_eq_true_eq, decide_eq_false_iff_not, Bool.not_eq_true', Bool.not_eq_false', Bool.not_true, Bool.not_false] at hc3
        have hn := wordsN_no (p := p) (by simpa using hc3)
        have hsz := rwords_sz b hp
        refine W_reg rfl (fun K hK => ?_)
        refine sv hF (v_assign rfl) rfl ?_; clear hF a; intro a hF
        refine WL_nil (hK _ _ ?_)
        clear hK K
        replace hF := hF.sub _ (c_ 13 rfl (c_ 18 rfl (c_ 17 rfl (c_ 16 rfl (c_ 15 rfl (c_ 14 rfl (c_ 12 rfl (c_ 11 rfl (c_ 7 rfl (c_ 6 rfl (n_)))))))))))
        refine W_sr rfl (fun K hK => ?_)
        refine sv hF (v_move rfl) rfl ?_; clear hF a; intro a hF
        refine sv hF (v_move rfl) rfl ?_; clear hF a; intro a hF
        refine svg hF rfl ?_
        refine sv hF (v_move rfl) rfl ?_; clear hF a; intro a hF
        refine svg hF rfl ?_
        refine sv hF (v_move rfl) rfl ?_; clear hF a; intro a hF
        refine svg hF rfl ?_
        refine sc hF rfl rfl rfl en21 rfl (was3_ok (rwords (some (wb, p)) b) _ _ (by rw [hn]; simpa using hc3)) ?_; clear hF a; intro v w' a hv hF
        obtain ⟨rfl, hw⟩ := hv
        obtain rfl := hw.symm
        have hS' := St.refl hS.inv
        replace hb := (hb.st hS').mono hS'.ext.size
        replace hl := (hl.st hS').mono hS'.ext.size
        replace hf := hf.st hS'
        replace hX := (hX.st hS').mono hS'.ext.size
        replace hY := (hY.st hS').mono hS'.ext.size
        replace hC := (hC.st hS').mono hS'.ext.size
        replace hD := (hD.st hS').mono hS'.ext.size
        replace hS := hS.trans hS'
        clear hS'
        refine sv hF (v_pickT rfl rfl) rfl ?_; clear hF a; intro a hF
        refine sv hF (v_move rfl) rfl ?_; clear hF a; intro a hF
        refine svg hF rfl ?_
        refine sv hF (v_move rfl) rfl ?_; clear hF a; intro a hF
        refine svg hF rfl ?_
        refine sv hF (v_move rfl) rfl ?_; clear hF a; intro a hF
        refine svg hF rfl ?_
        refine sc hF rfl rfl rfl en22 rfl (Intsn_t B _ _ _ _ _ _ [] _ hS.inv hX (.inl ⟨_, _, rfl, rfl⟩) (by omega) (by rw [hn]; rfl)) ?_; clear hF a; intro v w' a hv hF
        obtain ⟨rfl, hS'⟩ := hv
        replace hb := (hb.st hS').mono hS'.ext.size
        replace hl := (hl.st hS').mono hS'.ext.size
        replace hf := hf.st hS'
        replace hX := (hX.st hS').mono hS'.ext.size
        replace hY := (hY.st hS').mono hS'.ext.size
        replace hC := (hC.st hS').mono hS'.ext.size
        replace hD := (hD.st hS').mono hS'.ext.size
        replace hS := hS.trans hS'
        clear hS'
        refine sv hF (v_pickT rfl rfl) rfl ?_; clear hF a; intro a hF
        refine sv hF (v_move rfl) rfl ?_; clear hF a; intro a hF
        refine svg hF rfl ?_
        refine sv hF (v_move rfl) rfl ?_; clear hF a; intro a hF
        refine svg hF rfl ?_
        refine sv hF (v_move rfl) rfl ?_; clear hF a; intro a hF
        refine svg hF rfl ?_
        refine sc hF rfl rfl rfl en21 rfl (was3_ok (rbytes (some (wb, p)) l) _ _ rfl) ?_; clear hF a; intro v w' a hv hF
        obtain ⟨rfl, hw⟩ := hv
        obtain rfl := hw.symm
        have hS' := St.refl hS.inv
        replace hb := (hb.st hS').mono hS'.ext.size
        replace hl := (hl.st hS').mono hS'.ext.size
        replace hf := hf.st hS'
        replace hX := (hX.st hS').mono hS'.ext.size
        replace hY := (hY.st hS').mono hS'.ext.size
        replace hC := (hC.st hS').mono hS'.ext.size
        replace hD := (hD.st hS').mono hS'.ext.size
        replace hS := hS.trans hS'
        clear hS'
        refine sv hF (v_pickT rfl rfl) rfl ?_; clear hF a; intro a hF
        refine sv hF (v_move rfl) rfl ?_; clear hF a; intro a hF
        refine svg hF rfl ?_
        refine sv hF (v_move rfl) rfl ?_; clear hF a; intro a hF
        refine svg hF rfl ?_
        refine sv hF (v_move rfl) rfl ?_; clear hF a; intro a hF
        refine svg hF rfl ?_
        refine sc hF rfl rfl rfl en23 rfl (Same_t B _ _ _ _ _ _ _ _ hC hD (rbytes_lt hp l) (rbytes_lt hp l) rfl) ?_; clear hF a; intro v w' a hv hF
        obtain ⟨rfl, hw⟩ := hv
        obtain rfl := hw.symm
        have hS' := St.refl hS.inv
        replace hb := (hb.st hS').mono hS'.ext.size
        replace hl := (hl.st hS').mono hS'.ext.size
        replace hf := hf.st hS'
        replace hX := (hX.st hS').mono hS'.ext.size
        replace hY := (hY.st hS').mono hS'.ext.size
        replace hC := (hC.st hS').mono hS'.ext.size
        replace hD := (hD.st hS').mono hS'.ext.size
        replace hS := hS.trans hS'
        clear hS'
        refine sv hF (v_pickT rfl rfl) rfl ?_; clear hF a; intro a hF
        refine sv hF (v_assign rfl) rfl ?_; clear hF a; intro a hF
        refine WL_nil (hK _ _ ?_)
        clear hK K
        replace hF := hF.sub _ (c_ 6 rfl (n_))
        refine W_ret ?_
        refine ⟨_, _, hF, rfl, ?_⟩
        exact ⟨rfl, hS⟩
      · skip
        try simp only [decide_eq_true_eq, decide_eq_false_iff_not, Bool.not_eq_true', Bool.not_eq_false', Bool.not_true, Bool.not_false] at hc3
        have hn := wordsN_rw (p := p) (by simpa using hc3)
        have hsz := rwords_sz b hp
        refine W_skip ?_
        refine W_sr rfl (fun K hK => ?_)
        refine sv hF (v_move rfl) rfl ?_; clear hF a; intro a hF
        refine sv hF (v_move rfl) rfl ?_; clear hF a; intro a hF
        refine svg hF rfl ?_
        refine sv hF (v_move rfl) rfl ?_; clear hF a; intro a hF
        refine svg hF rfl ?_
        refine sv hF (v_move rfl) rfl ?_; clear hF a; intro a hF
        refine svg hF rfl ?_
        refine sc hF rfl rfl rfl en21 rfl (was3_ok (rwords (some (wb, p)) b) _ _ (by rw [hn]; simpa using hc3)) ?_; clear hF a; intro v w' a hv hF
        obtain ⟨rfl, hw⟩ := hv
        obtain rfl := hw.symm
        have hS' := St.refl hS.inv
        replace hb := (hb.st hS').mono hS'.ext.size
        replace hl := (hl.st hS').mono hS'.ext.size
        replace hf := hf.st hS'
        replace hX := (hX.st hS').mono hS'.ext.size
        replace hY := (hY.st hS').mono hS'.ext.size
        replace hC := (hC.st hS').mono hS'.ext.size
        replace hD := (hD.st hS').mono hS'.ext.size
        replace hS := hS.trans hS'
        clear hS'
        refine sv hF (v_pickT rfl rfl) rfl ?_; clear hF a; intro a hF
        refine sv hF (v_move rfl) rfl ?_; clear hF a; intro a hF
        refine svg hF rfl ?_
        refine sv hF (v_move rfl) rfl ?_; clear hF a; intro a hF
        refine svg hF rfl ?_
        refine sv hF (v_move rfl) rfl ?_; clear hF a; intro a hF
        refine svg hF rfl ?_
        refine sc hF rfl rfl rfl en22 rfl (Intsn_t B _ _ _ _ _ _ (wordsN (wb / 8) b) _ hS.inv hX (hY) (by omega) (by rw [hn]; rfl)) ?_; clear hF a; intro v w' a hv hF
        obtain ⟨rfl, hS'⟩ := hv
        replace hb := (hb.st hS').mono hS'.ext.size
        replace hl := (hl.st hS').mono hS'.ext.size
        replace hf := hf.st hS'
        replace hX := (hX.st hS').mono hS'.ext.size
        replace hY := (hY.st hS').mono hS'.ext.size
        replace hC := (hC.st hS').mono hS'.ext.size
        replace hD := (hD.st hS').mono hS'.ext.size
        replace hS := hS.trans hS'
        clear hS'
        refine sv hF (v_pickT rfl rfl) rfl ?_; clear hF a; intro a hF
        refine sv hF (v_move rfl) rfl ?_; clear hF a; intro a hF
        refine svg hF rfl ?_
        refine sv hF (v_move rfl) rfl ?_; clear hF a; intro a hF
        refine svg hF rfl ?_
        refine sv hF (v_move rfl) rfl ?_; clear hF a; intro a hF
        refine svg hF rfl ?_
        refine sc hF rfl rfl rfl en21 rfl (was3_ok (rbytes (some (wb, p)) l) _ _ rfl) ?_; clear hF a; intro v w' a hv hF
        obtain ⟨rfl, hw⟩ := hv
        obtain rfl := hw.symm
        have hS' := St.refl hS.inv
        replace hb := (hb.st hS').mono hS'.ext.size
        replace hl := (hl.st hS').mono hS'.ext.size
        replace hf := hf.st hS'
        replace hX := (hX.st hS').mono hS'.ext.size
        replace hY := (hY.st hS').mono hS'.ext.size
        replace hC := (hC.st hS').mono hS'.ext.size
        replace hD := (hD.st hS').mono hS'.ext.size
        replace hS := hS.trans hS'
        clear hS'
        refine sv hF (v_pickT rfl rfl) rfl ?_; clear hF a; intro a hF
        refine sv hF (v_move rfl) rfl ?_; clear hF a; intro a hF
        refine svg hF rfl ?_
        refine sv hF (v_move rfl) rfl ?_; clear hF a; intro a hF
        refine svg hF rfl ?_
        refine sv hF (v_move rfl) rfl ?_; clear hF a; intro a hF
        refine svg hF rfl ?_
        refine sc hF rfl rfl rfl en23 rfl (Same_t B _ _ _ _ _ _ _ _ hC hD (rbytes_lt hp l) (rbytes_lt hp l) rfl) ?_; clear hF a; intro v w' a hv hF
        obtain ⟨rfl, hw⟩ := hv
        obtain rfl := hw.symm
        have hS' := St.refl hS.inv
        replace hb := (hb.st hS').mono hS'.ext.size
        replace hl := (hl.st hS').mono hS'.ext.size
        replace hf := hf.st hS'
        replace hX := (hX.st hS').mono hS'.ext.size
        replace hY := (hY.st hS').mono hS'.ext.size
        replace hC := (hC.st hS').mono hS'.ext.size
        replace hD := (hD.st hS').mono hS'.ext.size
        replace hS := hS.trans hS'
        clear hS'
        refine sv hF (v_pickT rfl rfl) rfl ?_; clear hF a; intro a hF
        refine sv hF (v_assign rfl) rfl ?_; clear hF a; intro a hF
        refine WL_nil (hK _ _ ?_)
        clear hK K
        replace hF := hF.sub _ (c_ 6 rfl (n_))
        refine W_ret ?_
        refine ⟨_, _, hF, rfl, ?_⟩
        exact ⟨rfl, hS⟩

end Go.Proofs.Ytlkifpmlpnaaoaa
