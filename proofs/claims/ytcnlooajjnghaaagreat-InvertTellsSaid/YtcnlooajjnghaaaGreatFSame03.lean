/- The walks of gambrelref03: what is the same, what is few. -/
import Derived.Test.YtcnlooajjnghaaaGreatFRef03
import Derived.Test.YtcnlooajjnghaaaGreatGStr
set_option linter.unusedVariables false
set_option linter.unusedSimpArgs false
namespace Go.Proofs.YtcnlooajjnghaaaGreat
open Go Go.Gam


namespace FxFSame03
theorem hmix : Tryz.prog.follows .mixedOrders = true := by kernel_rfl
theorem sc3 : Scalar Tryz.prog 3 := ⟨_, Tryz.underlying3, by simp, by simp⟩
theorem sl23 : Sl Tryz.prog 23 3 (.int .i64 0) 8 := sl_of Tryz.underlying23 rfl (by kernel_rfl)
end FxFSame03
open FxFSame03

set_option maxRecDepth 100000 in
set_option maxHeartbeats 1000000 in
theorem Ints_ok (B M : Nat) (sx sy : Option Addr) (cx cy : Nat) (x y : List Int) (w : World) (hI : Inv FDx B w) (hx : Row FDx B M w (.slice sx x.length cx) (zints x)) (hy : Row FDx B M w (.slice sy y.length cy) (zints y)) (hl : x.length < 1000000) : Ret Tryz.prog 15 [.slice sx x.length cx, .slice sy y.length cy] w fun v w' => v = .bool (decide (x = y)) ∧ St FDx B w w' := by
  refine enter 26 [(0, .slice sx x.length cx), (1, .slice sy y.length cy)] 4 Tryz.func15 rfl rfl rfl rfl rfl ?_; intro a hF
  have hS := St.refl hI
  refine W_sr rfl (fun K hK => ?_)
  refine sv hF (v_assign rfl) rfl ?_; clear hF a; intro a hF
  refine WL_nil (hK _ _ ?_)
  clear hK K
  refine W_seq ?_
  refine W_sr rfl (fun K hK => ?_)
  refine sv hF (v_move rfl) rfl ?_; clear hF a; intro a hF
  refine sv hF (v_lenS rfl sl23 rfl) rfl ?_; clear hF a; intro a hF
  refine sv hF (v_move rfl) rfl ?_; clear hF a; intro a hF
  refine sv hF (v_lenS rfl sl23 rfl) rfl ?_; clear hF a; intro a hF
  refine sv hF (v_neq rfl rfl) rfl ?_; clear hF a; intro a hF
  refine WL_nil (hK _ _ ?_)
  clear hK K
  replace hF := hF.sub _ (c_ 10 rfl (c_ 4 rfl (c_ 0 rfl (c_ 1 rfl (n_)))))
  refine W_if hF rfl (fun hc1 => ?_) (fun hc1 => ?_)
  · skip
    try simp only [decide_eq_true_eq, decide_eq_false_iff_not, Bool.not_eq_true', Bool.not_eq_false', Bool.not_true, Bool.not_false] at hc1
    refine W_sr rfl (fun K hK => ?_)
    refine sv hF (v_assign rfl) rfl ?_; clear hF a; intro a hF
    refine WL_nil (hK _ _ ?_)
    clear hK K
    replace hF := hF.sub _ (c_ 4 rfl (c_ 0 rfl (c_ 1 rfl (n_))))
    refine W_ret ?_
    refine ⟨_, _, hF, rfl, ?_⟩
    have hne : ¬ x = y := fun e => by subst e; omega
    exact ⟨by rw [decide_eq_false hne], hS⟩
  · skip
    try simp only [decide_eq_true_eq, decide_eq_false_iff_not, Bool.not_eq_true', Bool.not_eq_false', Bool.not_true, Bool.not_false] at hc1
    refine W_skip ?_
    refine W_seq ?_
    refine W_sr rfl (fun K hK => ?_)
    refine sv hF (v_assign rfl) rfl ?_; clear hF a; intro a hF
    refine WL_nil (hK _ _ ?_)
    clear hK K
    replace hF := hF.sub _ (c_ 5 rfl (c_ 4 rfl (c_ 0 rfl (c_ 1 rfl (n_)))))
    refine W_block ?_
    refine W_loop (fun m a w1 => ∃ (i : Nat), Fr 26 [(0, .slice sx x.length cx), (1, .slice sy y.length cy), (5, .int .i64 (i : Int))] a ∧ (St FDx B w w1) ∧ (Row FDx B M w1 (.slice sx x.length cx) (zints x)) ∧ (Row FDx B M w1 (.slice sy y.length cy) (zints y)) ∧ (i ≤ x.length) ∧ (x.take i = y.take i) ∧ (m + i = x.length)) (x.length) ?_ ?_
    · skip
      exact ⟨0, hF.sub _ (c_ 0 rfl (c_ 1 rfl (c_ 5 rfl (n_)))), hS, hx, hy, by omega, by simp, by omega⟩
    · skip
      clear hF
      clear hS hx hy
      rintro m a w1 ⟨i, hF, hS, hx, hy, hi, heq, hm⟩
      refine W_seq ?_
      refine W_sr rfl (fun K hK => ?_)
      refine sv hF (v_move rfl) rfl ?_; clear hF a; intro a hF
      refine sv hF (v_move rfl) rfl ?_; clear hF a; intro a hF
      refine sv hF (v_lenS rfl sl23 rfl) rfl ?_; clear hF a; intro a hF
      refine sv hF (v_lss rfl rfl) rfl ?_; clear hF a; intro a hF
      refine WL_nil (hK _ _ ?_)
      clear hK K
      replace hF := hF.sub _ (c_ 14 rfl (c_ 0 rfl (c_ 1 rfl (c_ 5 rfl (n_)))))
      refine W_if hF rfl (fun hc2 => ?_) (fun hc2 => ?_)
      · skip
        try simp only [decide_eq_true_eq, decide_eq_false_iff_not, Bool.not_eq_true', Bool.not_eq_false', Bool.not_true, Bool.not_false] at hc2
        have hlt : i < x.length := by omega
        obtain ⟨u, hu⟩ : ∃ u, x[i]? = some u := ⟨_, List.getElem?_eq_getElem hlt⟩
        obtain ⟨v2, hv2⟩ : ∃ u, y[i]? = some u := ⟨_, List.getElem?_eq_getElem (by omega)⟩
        obtain ⟨-, ga, oa, hga, hca⟩ := hx.at (zints_at hu)
        obtain ⟨-, gb, ob_, hgb, hcb⟩ := hy.at (zints_at hv2)
        subst hga hgb
        clear hca hcb
        refine W_skip ?_
        refine W_seq ?_
        refine W_block ?_
        refine W_sd (m := 9) rfl hmix hS.inv (fun K hK w1 hS' hh => ?_)
        replace hx := hx.st hS'
        replace hy := hy.st hS'
        replace hS := hS.trans hS'
        clear hS'
        clear hh
        refine a_v (i := 0) rfl (by kernel_rfl) hF (fun w2 hx => v_move rfl) rfl ?_; clear hF a; intro a hF
        refine a_v (i := 1) rfl (by kernel_rfl) hF (fun w2 hx => v_move rfl) rfl ?_; clear hF a; intro a hF
        refine a_v (i := 2) rfl (by kernel_rfl) hF (fun w2 hx => v_ixS sl23 rfl rfl (by omega) (by omega)) rfl ?_; clear hF a; intro a hF
        refine a_v (i := 3) rfl (by kernel_rfl) hF (fun w2 hx => v_load sc3 rfl (by rw [toNat_c]; have h := ((Row.ext (by assumption) hx).at (zints_at hu)).2; obtain ⟨g9, o9, e9, h9⟩ := h; cases e9; exact h9)) rfl ?_; clear hF a; intro a hF
        refine a_v (i := 4) rfl (by kernel_rfl) hF (fun w2 hx => v_move rfl) rfl ?_; clear hF a; intro a hF
        refine a_v (i := 5) rfl (by kernel_rfl) hF (fun w2 hx => v_move rfl) rfl ?_; clear hF a; intro a hF
        refine a_v (i := 6) rfl (by kernel_rfl) hF (fun w2 hx => v_ixS sl23 rfl rfl (by omega) (by omega)) rfl ?_; clear hF a; intro a hF
        refine a_v (i := 7) rfl (by kernel_rfl) hF (fun w2 hx => v_load sc3 rfl (by rw [toNat_c]; have h := ((Row.ext (by assumption) hx).at (zints_at hv2)).2; obtain ⟨g9, o9, e9, h9⟩ := h; cases e9; exact h9)) rfl ?_; clear hF a; intro a hF
        refine a_v (i := 8) rfl (by kernel_rfl) hF (fun w2 hx => v_neq rfl rfl) rfl ?_; clear hF a; intro a hF
        refine a_done (by kernel_rfl) (hK _ _ ?_)
        clear hK K
        replace hF := hF.sub _ (c_ 25 rfl (c_ 0 rfl (c_ 1 rfl (c_ 5 rfl (n_)))))
        refine W_if hF rfl (fun hc3 => ?_) (fun hc3 => ?_)
        · skip
          try simp only [decide_eq_true_eq, decide_eq_false_iff_not, Bool.not_eq_true', Bool.not_eq_false', Bool.not_true, Bool.not_false] at hc3
          refine W_sr rfl (fun K hK => ?_)
          refine sv hF (v_assign rfl) rfl ?_; clear hF a; intro a hF
          refine WL_nil (hK _ _ ?_)
          clear hK K
          replace hF := hF.sub _ (c_ 4 rfl (c_ 0 rfl (c_ 1 rfl (c_ 5 rfl (n_)))))
          refine W_ret ?_
          refine ⟨_, _, hF, rfl, ?_⟩
          have hne : ¬ x = y := fun e => by subst e; rw [hu] at hv2; exact absurd (Option.some.inj hv2) (by omega)
          exact ⟨by rw [decide_eq_false hne], hS⟩
        · skip
          try simp only [decide_eq_true_eq, decide_eq_false_iff_not, Bool.not_eq_true', Bool.not_eq_false', Bool.not_true, Bool.not_false] at hc3
          refine W_skip ?_
          refine W_reg rfl (fun K hK => ?_)
          refine sv hF (v_move rfl) rfl ?_; clear hF a; intro a hF
          refine sv hF (v_addI rfl rfl (by omega)) rfl ?_; clear hF a; intro a hF
          refine sv hF (v_assign rfl) rfl ?_; clear hF a; intro a hF
          refine WL_nil (hK _ _ ?_)
          clear hK K
          replace hF := hF.sub _ (c_ 5 rfl (c_ 16 rfl (c_ 15 rfl (c_ 0 rfl (c_ 1 rfl (n_))))))
          exact ⟨m - 1, by omega, i + 1, hF.sub _ (c_ 0 rfl (c_ 1 rfl (c_ 5 rfl (n_)))), hS, hx, hy, by omega, by rw [List.take_add_one, List.take_add_one, hu, hv2, heq]; simp; omega, by omega⟩
      · skip
        try simp only [decide_eq_true_eq, decide_eq_false_iff_not, Bool.not_eq_true', Bool.not_eq_false', Bool.not_true, Bool.not_false] at hc2
        refine W_exit rfl ?_
        refine W_sr rfl (fun K hK => ?_)
        refine sv hF (v_assign rfl) rfl ?_; clear hF a; intro a hF
        refine WL_nil (hK _ _ ?_)
        clear hK K
        replace hF := hF.sub _ (c_ 4 rfl (c_ 0 rfl (c_ 1 rfl (c_ 5 rfl (n_)))))
        refine W_ret ?_
        refine ⟨_, _, hF, rfl, ?_⟩
        have he : x = y := by rw [List.take_of_length_le (by omega), List.take_of_length_le (by omega)] at heq; exact heq
        exact ⟨by rw [decide_eq_true he], hS⟩

def few (bss : List (List Nat)) : Bool := decide ((∀ b ∈ bss, b.length ≤ 200) ∧ bss.length ≤ 10)

end Go.Proofs.YtcnlooajjnghaaaGreat
