/- The walk of package jvan: rows of powers. -/
import Derived.Test.YtaeljbdpjiciaaaFInvC
import Derived.Test.YtaeljbdpjiciaaaGRec
set_option linter.unusedVariables false
set_option linter.unusedSimpArgs false
namespace Go.Proofs.Ytaeljbdpjiciaaa
open Go Go.Gam


namespace FxFJva
theorem en42 : Ent Try.prog 42 := ent Try.func42 (by kernel_rfl) (by kernel_rfl)
theorem on3 : Gam.One Try.prog 3 := by unfold Gam.One; kernel_rfl
theorem sc37 : Scalar Try.prog 37 := ⟨_, Try.underlying37, by simp, by simp⟩
theorem sl27 : Sl Try.prog 27 37 (.slice none 0 0) 24 := sl_of Try.underlying27 rfl (by kernel_rfl)
theorem sl28 : Sl Try.prog 28 37 (.slice none 0 0) 24 := sl_of Try.underlying28 rfl (by kernel_rfl)
theorem sl37 : Sl Try.prog 37 3 (.int .i64 0) 8 := sl_of Try.underlying37 rfl (by kernel_rfl)
end FxFJva
open FxFJva

set_option maxRecDepth 100000 in
set_option maxHeartbeats 1000000 in
theorem Extended_ok (B : Nat) (o : Fq) (fv : Value) (k m : Int) (w : World) (hI : Inv FDx B w) (hf : Fo FDx B w fv o) : Ret Try.prog 16 [fv, .int .i64 k, .int .i64 m] w fun v w' => ((fitB o k m = false ∧ v = .tuple #[.slice none 0 0, .int .i64 1]) ∨ (fitB o k m = true ∧ ∃ g cap bs rc, v = .tuple #[.slice (some ⟨g, 0, none⟩) (k + m).toNat cap, .int .i64 0] ∧ Gam.Own FDx B w.heap.size w' 37 (.slice (some ⟨g, 0, none⟩) (k + m).toNat cap) (some g) (vls (k + m).toNat k.toNat bs rc) ∧ Wr FDx B w.heap.size w'.heap.size w' (k + m).toNat k.toNat bs rc (extT o k.toNat m.toNat))) ∧ St FDx B w w' := by
  refine enter2 71 [(0, fv), (1, .int .i64 k), (2, .int .i64 m)] 6 7 Try.func16 rfl rfl rfl rfl rfl ?_; intro a hF
  have hS := St.refl hI
  have hprm := hf.prms
  obtain ⟨pa_, rfl, hpa⟩ := hf.ptr
  refine W_sr rfl (fun K hK => ?_)
  refine sv hF (v_assign rfl) rfl ?_; clear hF a; intro a hF
  refine sv hF (v_assign rfl) rfl ?_; clear hF a; intro a hF
  refine WL_nil (hK _ _ ?_)
  clear hK K
  refine W_seq ?_
  refine W_sr rfl (fun K hK => ?_)
  refine sv hF (v_move rfl) rfl ?_; clear hF a; intro a hF
  refine sb hF (v_eqlNil (by exact Try.underlying23) rfl rfl) rfl ?_ ?_
  · clear hF a; intro hc1 a hF
    try simp only [decide_eq_true_eq, decide_eq_false_iff_not, Bool.not_eq_true', Bool.not_eq_false', Bool.not_true, Bool.not_false] at hc1
    refine sv hF (v_move rfl) rfl ?_; clear hF a; intro a hF
    refine svn hF rfl rfl rfl ?_; clear hF a; intro a hF
    refine svn hF rfl rfl rfl ?_; clear hF a; intro a hF
    refine sv hF (v_pickT rfl rfl) rfl ?_; clear hF a; intro a hF
    refine sv hF (v_move rfl) rfl ?_; clear hF a; intro a hF
    refine svn hF rfl rfl rfl ?_; clear hF a; intro a hF
    refine svn hF rfl rfl rfl ?_; clear hF a; intro a hF
    refine sv hF (v_pickT rfl rfl) rfl ?_; clear hF a; intro a hF
    refine sv hF (v_move rfl) rfl ?_; clear hF a; intro a hF
    refine svn hF rfl rfl rfl ?_; clear hF a; intro a hF
    refine svn hF rfl rfl rfl ?_; clear hF a; intro a hF
    refine sv hF (v_pickT rfl rfl) rfl ?_; clear hF a; intro a hF
    refine sv hF (v_move rfl) rfl ?_; clear hF a; intro a hF
    refine svn hF rfl rfl rfl ?_; clear hF a; intro a hF
    refine svn hF rfl rfl rfl ?_; clear hF a; intro a hF
    refine sv hF (v_pickT rfl rfl) rfl ?_; clear hF a; intro a hF
    refine sv hF (v_move rfl) rfl ?_; clear hF a; intro a hF
    refine svn hF rfl rfl rfl ?_; clear hF a; intro a hF
    refine svn hF rfl rfl rfl ?_; clear hF a; intro a hF
    refine svn hF rfl rfl rfl ?_; clear hF a; intro a hF
    refine svn hF rfl rfl rfl ?_; clear hF a; intro a hF
    refine sv hF (v_pickT rfl rfl) rfl ?_; clear hF a; intro a hF
    refine WL_nil (hK _ _ ?_)
    clear hK K
    replace hF := hF.sub _ (c_ 36 rfl (c_ 7 rfl (c_ 6 rfl (c_ 0 rfl (c_ 1 rfl (c_ 2 rfl (n_)))))))
    refine W_ifT hF rfl ?_
    refine W_sr rfl (fun K hK => ?_)
    refine sv hF (v_assign rfl) rfl ?_; clear hF a; intro a hF
    refine sv hF (v_assign rfl) rfl ?_; clear hF a; intro a hF
    refine WL_nil (hK _ _ ?_)
    clear hK K
    replace hF := hF.sub _ (c_ 7 rfl (c_ 6 rfl (c_ 0 rfl (c_ 1 rfl (c_ 2 rfl (n_))))))
    refine W_ret ?_
    refine ⟨_, _, _, hF, rfl, rfl, ?_⟩
    exact ⟨.inl ⟨by unfold fitB; rw [← hpa]; cases pa_ <;> first | (exfalso; simp_all; done) | rfl | (rw [decide_eq_false (by omega)]; rfl), rfl⟩, hS⟩
  · clear hF a; intro hc1 a hF
    try simp only [decide_eq_true_eq, decide_eq_false_iff_not, Bool.not_eq_true', Bool.not_eq_false', Bool.not_true, Bool.not_false] at hc1
    refine sv hF (v_move rfl) rfl ?_; clear hF a; intro a hF
    refine svg hF rfl ?_
    refine sv hF (v_move rfl) rfl ?_; clear hF a; intro a hF
    refine svg hF rfl ?_
    refine sb hF (v_lss rfl rfl) rfl ?_ ?_
    · clear hF a; intro hc2 a hF
      try simp only [decide_eq_true_eq, decide_eq_false_iff_not, Bool.not_eq_true', Bool.not_eq_false', Bool.not_true, Bool.not_false] at hc2
      refine sv hF (v_pickF rfl rfl) rfl ?_; clear hF a; intro a hF
      refine sv hF (v_move rfl) rfl ?_; clear hF a; intro a hF
      refine svn hF rfl rfl rfl ?_; clear hF a; intro a hF
      refine svn hF rfl rfl rfl ?_; clear hF a; intro a hF
      refine sv hF (v_pickT rfl rfl) rfl ?_; clear hF a; intro a hF
      refine sv hF (v_move rfl) rfl ?_; clear hF a; intro a hF
      refine svn hF rfl rfl rfl ?_; clear hF a; intro a hF
      refine svn hF rfl rfl rfl ?_; clear hF a; intro a hF
      refine sv hF (v_pickT rfl rfl) rfl ?_; clear hF a; intro a hF
      refine sv hF (v_move rfl) rfl ?_; clear hF a; intro a hF
      refine svn hF rfl rfl rfl ?_; clear hF a; intro a hF
      refine svn hF rfl rfl rfl ?_; clear hF a; intro a hF
      refine sv hF (v_pickT rfl rfl) rfl ?_; clear hF a; intro a hF
      refine sv hF (v_move rfl) rfl ?_; clear hF a; intro a hF
      refine svn hF rfl rfl rfl ?_; clear hF a; intro a hF
      refine svn hF rfl rfl rfl ?_; clear hF a; intro a hF
      refine svn hF rfl rfl rfl ?_; clear hF a; intro a hF
      refine svn hF rfl rfl rfl ?_; clear hF a; intro a hF
      refine sv hF (v_pickT rfl rfl) rfl ?_; clear hF a; intro a hF
      refine WL_nil (hK _ _ ?_)
      clear hK K
      replace hF := hF.sub _ (c_ 36 rfl (c_ 7 rfl (c_ 6 rfl (c_ 0 rfl (c_ 1 rfl (c_ 2 rfl (n_)))))))
      refine W_ifT hF rfl ?_
      refine W_sr rfl (fun K hK => ?_)
      refine sv hF (v_assign rfl) rfl ?_; clear hF a; intro a hF
      refine sv hF (v_assign rfl) rfl ?_; clear hF a; intro a hF
      refine WL_nil (hK _ _ ?_)
      clear hK K
      replace hF := hF.sub _ (c_ 7 rfl (c_ 6 rfl (c_ 0 rfl (c_ 1 rfl (c_ 2 rfl (n_))))))
      refine W_ret ?_
      refine ⟨_, _, _, hF, rfl, rfl, ?_⟩
      exact ⟨.inl ⟨by unfold fitB; rw [← hpa]; cases pa_ <;> first | (exfalso; simp_all; done) | rfl | (rw [decide_eq_false (by omega)]; rfl), rfl⟩, hS⟩
    · clear hF a; intro hc2 a hF
      try simp only [decide_eq_true_eq, decide_eq_false_iff_not, Bool.not_eq_true', Bool.not_eq_false', Bool.not_true, Bool.not_false] at hc2
      refine sv hF (v_pickF rfl rfl) rfl ?_; clear hF a; intro a hF
      refine sv hF (v_move rfl) rfl ?_; clear hF a; intro a hF
      refine svg hF rfl ?_
      refine sv hF (v_move rfl) rfl ?_; clear hF a; intro a hF
      refine svg hF rfl ?_
      refine sb hF (v_lss rfl rfl) rfl ?_ ?_
      · clear hF a; intro hc3 a hF
        try simp only [decide_eq_true_eq, decide_eq_false_iff_not, Bool.not_eq_true', Bool.not_eq_false', Bool.not_true, Bool.not_false] at hc3
        refine sv hF (v_pickF rfl rfl) rfl ?_; clear hF a; intro a hF
        refine sv hF (v_move rfl) rfl ?_; clear hF a; intro a hF
        refine svn hF rfl rfl rfl ?_; clear hF a; intro a hF
        refine svn hF rfl rfl rfl ?_; clear hF a; intro a hF
        refine sv hF (v_pickT rfl rfl) rfl ?_; clear hF a; intro a hF
        refine sv hF (v_move rfl) rfl ?_; clear hF a; intro a hF
        refine svn hF rfl rfl rfl ?_; clear hF a; intro a hF
        refine svn hF rfl rfl rfl ?_; clear hF a; intro a hF
        refine sv hF (v_pickT rfl rfl) rfl ?_; clear hF a; intro a hF
        refine sv hF (v_move rfl) rfl ?_; clear hF a; intro a hF
        refine svn hF rfl rfl rfl ?_; clear hF a; intro a hF
        refine svn hF rfl rfl rfl ?_; clear hF a; intro a hF
        refine svn hF rfl rfl rfl ?_; clear hF a; intro a hF
        refine svn hF rfl rfl rfl ?_; clear hF a; intro a hF
        refine sv hF (v_pickT rfl rfl) rfl ?_; clear hF a; intro a hF
        refine WL_nil (hK _ _ ?_)
        clear hK K
        replace hF := hF.sub _ (c_ 36 rfl (c_ 7 rfl (c_ 6 rfl (c_ 0 rfl (c_ 1 rfl (c_ 2 rfl (n_)))))))
        refine W_ifT hF rfl ?_
        refine W_sr rfl (fun K hK => ?_)
        refine sv hF (v_assign rfl) rfl ?_; clear hF a; intro a hF
        refine sv hF (v_assign rfl) rfl ?_; clear hF a; intro a hF
        refine WL_nil (hK _ _ ?_)
        clear hK K
        replace hF := hF.sub _ (c_ 7 rfl (c_ 6 rfl (c_ 0 rfl (c_ 1 rfl (c_ 2 rfl (n_))))))
        refine W_ret ?_
        refine ⟨_, _, _, hF, rfl, rfl, ?_⟩
        exact ⟨.inl ⟨by unfold fitB; rw [← hpa]; cases pa_ <;> first | (exfalso; simp_all; done) | rfl | (rw [decide_eq_false (by omega)]; rfl), rfl⟩, hS⟩
      · clear hF a; intro hc3 a hF
        try simp only [decide_eq_true_eq, decide_eq_false_iff_not, Bool.not_eq_true', Bool.not_eq_false', Bool.not_true, Bool.not_false] at hc3
        refine sv hF (v_pickF rfl rfl) rfl ?_; clear hF a; intro a hF
        refine sv hF (v_move rfl) rfl ?_; clear hF a; intro a hF
        refine svg hF rfl ?_
        refine sv hF (v_move rfl) rfl ?_; clear hF a; intro a hF
        refine svg hF rfl ?_
        refine sb hF (v_geq rfl rfl) rfl ?_ ?_
        · clear hF a; intro hc4 a hF
          try simp only [decide_eq_true_eq, decide_eq_false_iff_not, Bool.not_eq_true', Bool.not_eq_false', Bool.not_true, Bool.not_false] at hc4
          refine sv hF (v_pickF rfl rfl) rfl ?_; clear hF a; intro a hF
          refine sv hF (v_move rfl) rfl ?_; clear hF a; intro a hF
          refine svn hF rfl rfl rfl ?_; clear hF a; intro a hF
          refine svn hF rfl rfl rfl ?_; clear hF a; intro a hF
          refine sv hF (v_pickT rfl rfl) rfl ?_; clear hF a; intro a hF
          refine sv hF (v_move rfl) rfl ?_; clear hF a; intro a hF
          refine svn hF rfl rfl rfl ?_; clear hF a; intro a hF
          refine svn hF rfl rfl rfl ?_; clear hF a; intro a hF
          refine svn hF rfl rfl rfl ?_; clear hF a; intro a hF
          refine svn hF rfl rfl rfl ?_; clear hF a; intro a hF
          refine sv hF (v_pickT rfl rfl) rfl ?_; clear hF a; intro a hF
          refine WL_nil (hK _ _ ?_)
          clear hK K
          replace hF := hF.sub _ (c_ 36 rfl (c_ 7 rfl (c_ 6 rfl (c_ 0 rfl (c_ 1 rfl (c_ 2 rfl (n_)))))))
          refine W_ifT hF rfl ?_
          refine W_sr rfl (fun K hK => ?_)
          refine sv hF (v_assign rfl) rfl ?_; clear hF a; intro a hF
          refine sv hF (v_assign rfl) rfl ?_; clear hF a; intro a hF
          refine WL_nil (hK _ _ ?_)
          clear hK K
          replace hF := hF.sub _ (c_ 7 rfl (c_ 6 rfl (c_ 0 rfl (c_ 1 rfl (c_ 2 rfl (n_))))))
          refine W_ret ?_
          refine ⟨_, _, _, hF, rfl, rfl, ?_⟩
          exact ⟨.inl ⟨by unfold fitB; rw [← hpa]; cases pa_ <;> first | (exfalso; simp_all; done) | rfl | (rw [decide_eq_false (by omega)]; rfl), rfl⟩, hS⟩
        · clear hF a; intro hc4 a hF
          try simp only [decide_eq_true_eq, decide_eq_false_iff_not, Bool.not_eq_true', Bool.not_eq_false', Bool.not_true, Bool.not_false] at hc4
          refine sv hF (v_pickF rfl rfl) rfl ?_; clear hF a; intro a hF
          refine sv hF (v_move rfl) rfl ?_; clear hF a; intro a hF
          refine svg hF rfl ?_
          refine sv hF (v_move rfl) rfl ?_; clear hF a; intro a hF
          refine svg hF rfl ?_
          refine sb hF (v_geq rfl rfl) rfl ?_ ?_
          · clear hF a; intro hc5 a hF
            try simp only [decide_eq_true_eq, decide_eq_false_iff_not, Bool.not_eq_true', Bool.not_eq_false', Bool.not_true, Bool.not_false] at hc5
            refine sv hF (v_pickF rfl rfl) rfl ?_; clear hF a; intro a hF
            refine sv hF (v_move rfl) rfl ?_; clear hF a; intro a hF
            refine svn hF rfl rfl rfl ?_; clear hF a; intro a hF
            refine svn hF rfl rfl rfl ?_; clear hF a; intro a hF
            refine svn hF rfl rfl rfl ?_; clear hF a; intro a hF
            refine svn hF rfl rfl rfl ?_; clear hF a; intro a hF
            refine sv hF (v_pickT rfl rfl) rfl ?_; clear hF a; intro a hF
            refine WL_nil (hK _ _ ?_)
            clear hK K
            replace hF := hF.sub _ (c_ 36 rfl (c_ 7 rfl (c_ 6 rfl (c_ 0 rfl (c_ 1 rfl (c_ 2 rfl (n_)))))))
            refine W_ifT hF rfl ?_
            refine W_sr rfl (fun K hK => ?_)
            refine sv hF (v_assign rfl) rfl ?_; clear hF a; intro a hF
            refine sv hF (v_assign rfl) rfl ?_; clear hF a; intro a hF
            refine WL_nil (hK _ _ ?_)
            clear hK K
            replace hF := hF.sub _ (c_ 7 rfl (c_ 6 rfl (c_ 0 rfl (c_ 1 rfl (c_ 2 rfl (n_))))))
            refine W_ret ?_
            refine ⟨_, _, _, hF, rfl, rfl, ?_⟩
            exact ⟨.inl ⟨by unfold fitB; rw [← hpa]; cases pa_ <;> first | (exfalso; simp_all; done) | rfl | (rw [decide_eq_false (by omega)]; rfl), rfl⟩, hS⟩
          · clear hF a; intro hc5 a hF
            try simp only [decide_eq_true_eq, decide_eq_false_iff_not, Bool.not_eq_true', Bool.not_eq_false', Bool.not_true, Bool.not_false] at hc5
            refine sv hF (v_pickF rfl rfl) rfl ?_; clear hF a; intro a hF
            refine sv hF (v_move rfl) rfl ?_; clear hF a; intro a hF
            refine svg hF rfl ?_
            refine sv hF (v_move rfl) rfl ?_; clear hF a; intro a hF
            refine svg hF rfl ?_
            refine sv hF (v_move rfl) rfl ?_; clear hF a; intro a hF
            refine svg hF rfl ?_
            refine sv hF (v_addI rfl rfl (by omega)) rfl ?_; clear hF a; intro a hF
            refine svg hF rfl ?_
            refine sv hF (v_gtr rfl rfl) rfl ?_; clear hF a; intro a hF
            refine sv hF (v_pickF rfl rfl) rfl ?_; clear hF a; intro a hF
            refine WL_nil (hK _ _ ?_)
            clear hK K
            replace hF := hF.sub _ (c_ 36 rfl (c_ 7 rfl (c_ 6 rfl (c_ 0 rfl (c_ 1 rfl (c_ 2 rfl (n_)))))))
            refine W_if hF rfl (fun hc6 => ?_) (fun hc6 => ?_)
            · skip
              try simp only [decide_eq_true_eq, decide_eq_false_iff_not, Bool.not_eq_true', Bool.not_eq_false', Bool.not_true, Bool.not_false] at hc6
              refine W_sr rfl (fun K hK => ?_)
              refine sv hF (v_assign rfl) rfl ?_; clear hF a; intro a hF
              refine sv hF (v_assign rfl) rfl ?_; clear hF a; intro a hF
              refine WL_nil (hK _ _ ?_)
              clear hK K
              replace hF := hF.sub _ (c_ 7 rfl (c_ 6 rfl (c_ 0 rfl (c_ 1 rfl (c_ 2 rfl (n_))))))
              refine W_ret ?_
              refine ⟨_, _, _, hF, rfl, rfl, ?_⟩
              exact ⟨.inl ⟨by unfold fitB; rw [← hpa]; cases pa_ <;> first | (exfalso; simp_all; done) | rfl | (rw [decide_eq_false (by omega)]; rfl), rfl⟩, hS⟩
            · skip
              try simp only [decide_eq_true_eq, decide_eq_false_iff_not, Bool.not_eq_true', Bool.not_eq_false', Bool.not_true, Bool.not_false] at hc6
              have hb : fitB o k m = true := by unfold fitB; rw [← hpa]; cases pa_ <;> first | (exfalso; simp_all; done) | (rw [decide_eq_true (by omega)]; rfl)
              obtain ⟨-, hb2⟩ := fitB_iff.1 hb
              obtain ⟨kn, rfl⟩ : ∃ n : Nat, k = (n : Int) := ⟨k.toNat, by omega⟩
              obtain ⟨mn, rfl⟩ : ∃ n : Nat, m = (n : Int) := ⟨m.toNat, by omega⟩
              refine W_skip ?_
              refine W_sr rfl (fun K hK => ?_)
              refine sv hF (v_assign rfl) rfl ?_; clear hF a; intro a hF
              refine WL_nil (hK _ _ ?_)
              clear hK K
              replace hF := hF.sub _ (c_ 8 rfl (c_ 7 rfl (c_ 6 rfl (c_ 0 rfl (c_ 1 rfl (c_ 2 rfl (n_)))))))
              refine W_seq ?_
              refine W_sr rfl (fun K hK => ?_)
              refine sv hF (v_move rfl) rfl ?_; clear hF a; intro a hF
              refine sv hF (v_move rfl) rfl ?_; clear hF a; intro a hF
              refine sv hF ((v_addI rfl rfl (by omega)).as (show Value.int .i64 ((kn : Int) + (mn : Int)) = .int .i64 ((kn + mn : Nat) : Int) by simp)) rfl ?_; clear hF a; intro a hF
              refine sv hF ((v_subI rfl rfl (by omega)).as (show Value.int .i64 (((kn + mn : Nat) : Int) - 1) = .int .i64 ((kn + mn - 1 : Nat) : Int) by congr 1; omega)) rfl ?_; clear hF a; intro a hF
              refine sv hF (v_move rfl) rfl ?_; clear hF a; intro a hF
              refine WL_nil (hK _ _ ?_)
              clear hK K
              replace hF := hF.sub _ (c_ 41 rfl (c_ 40 rfl (c_ 8 rfl (c_ 7 rfl (c_ 6 rfl (c_ 0 rfl (c_ 1 rfl (n_))))))))
              refine W_block ?_
              refine W_loop (fun q a w1 => ∃ (i : Nat) (v8 : Value) (b8 : Option Nat) (bs rc : Nat → Nat), Fr 71 [(0, .pointer pa_), (1, .int .i64 (kn : Int)), (8, v8), (40, .int .i64 ((kn + mn - 1 : Nat) : Int)), (41, .int .i64 (i : Int))] a ∧ (St FDx B w w1) ∧ (Fo FDx B w1 (.pointer pa_) o) ∧ (Gam.Own FDx B w.heap.size w1 37 v8 b8 (vls i kn bs rc)) ∧ (Wr FDx B w.heap.size w1.heap.size w1 i kn bs rc (extT o kn mn)) ∧ (i ≤ kn + mn - 1) ∧ (q + i = kn + mn - 1)) (kn + mn - 1) ?_ ?_
              · skip
                exact ⟨0, _, none, id, id, hF.sub _ (c_ 0 rfl (c_ 1 rfl (c_ 8 rfl (c_ 40 rfl (c_ 41 rfl (n_)))))), hS, hf, Gam.Own.nil _ _ _ _ _, Wr.nil, by omega, by omega⟩
              · skip
                clear hF
                clear hS hf
                rintro q a w1 ⟨i, v8, b8, bs, rc, hF, hS, hf, hO, hW, hi, hq⟩
                obtain ⟨KM, hKe⟩ : ∃ KM, KM = w1.heap.size := ⟨_, rfl⟩
                rw [← hKe] at hW
                have hKs : KM ≤ w1.heap.size := by omega
                have hNK : w.heap.size ≤ KM := by have := hS.ext.size; omega
                clear hKe
                refine W_sr rfl (fun K hK => ?_)
                refine sv hF (v_lss rfl rfl) rfl ?_; clear hF a; intro a hF
                refine WL_nil (hK _ _ ?_)
                clear hK K
                refine W_seq ?_
                refine W_if hF rfl (fun hc7 => ?_) (fun hc7 => ?_)
                · skip
                  try simp only [decide_eq_true_eq, decide_eq_false_iff_not, Bool.not_eq_true', Bool.not_eq_false', Bool.not_true, Bool.not_false] at hc7
                  have hlt : i < kn + mn - 1 := by omega
                  refine W_skip ?_
                  refine W_seq ?_
                  refine W_block ?_
                  refine W_sr rfl (fun K hK => ?_)
                  refine sv hF (v_move rfl) rfl ?_; clear hF a; intro a hF
                  refine sv hF (v_assign rfl) rfl ?_; clear hF a; intro a hF
                  refine WL_nil (hK _ _ ?_)
                  clear hK K
                  replace hF := hF.sub _ (c_ 9 rfl (c_ 0 rfl (c_ 1 rfl (c_ 8 rfl (c_ 40 rfl (c_ 41 rfl (n_)))))))
                  refine W_sr rfl (fun K hK => ?_)
                  refine sv hF (v_assign rfl) rfl ?_; clear hF a; intro a hF
                  refine WL_nil (hK _ _ ?_)
                  clear hK K
                  refine W_seq ?_
                  refine W_sr rfl (fun K hK => ?_)
                  refine sv hF (v_move rfl) rfl ?_; clear hF a; intro a hF
                  refine sv hF (v_move rfl) rfl ?_; clear hF a; intro a hF
                  refine WL_nil (hK _ _ ?_)
                  clear hK K
                  refine W_block ?_
                  refine W_loop (fun q2 a w2 => ∃ (j : Nat) (v10 : Value) (b10 : Option Nat), Fr 71 [(0, .pointer pa_), (1, .int .i64 (kn : Int)), (8, v8), (9, .int .i64 (i : Int)), (10, v10), (40, .int .i64 ((kn + mn - 1 : Nat) : Int)), (41, .int .i64 (i : Int)), (44, .int .i64 (kn : Int)), (45, .int .i64 (j : Int))] a ∧ (St FDx B w w2) ∧ (Fo FDx B w2 (.pointer pa_) o) ∧ (Gam.Own FDx B w.heap.size w2 37 v8 b8 (vls i kn bs rc)) ∧ (Wr FDx B w.heap.size KM w2 i kn bs rc (extT o kn mn)) ∧ (KM ≤ w2.heap.size) ∧ (Gam.Own FDx B KM w2 FDx.E v10 b10 (zints ((List.range j).map fun j => ((extT o kn mn i j : Nat) : Int)))) ∧ (j ≤ kn) ∧ (q2 + j = kn)) (kn) ?_ ?_
                  · skip
                    exact ⟨0, _, none, hF.sub _ (c_ 0 rfl (c_ 1 rfl (c_ 8 rfl (c_ 9 rfl (c_ 10 rfl (c_ 40 rfl (c_ 41 rfl (c_ 44 rfl (c_ 45 rfl (n_)))))))))), hS, hf, hO, hW, hKs, Gam.Own.nil _ _ _ _ _, by omega, by omega⟩
                  · skip
                    clear hF
                    clear hS hf hO hW hKs
                    rintro q2 a w2 ⟨j, v10, b10, hF, hS, hf, hO, hW, hKs, hC, hj, hq2⟩
                    refine W_sr rfl (fun K hK => ?_)
                    refine sv hF (v_lss rfl rfl) rfl ?_; clear hF a; intro a hF
                    refine WL_nil (hK _ _ ?_)
                    clear hK K
                    refine W_seq ?_
                    refine W_if hF rfl (fun hc8 => ?_) (fun hc8 => ?_)
                    · skip
                      try simp only [decide_eq_true_eq, decide_eq_false_iff_not, Bool.not_eq_true', Bool.not_eq_false', Bool.not_true, Bool.not_false] at hc8
                      have hlt2 : j < kn := by omega
                      refine W_skip ?_
                      refine W_seq ?_
                      refine W_block ?_
                      refine W_sr rfl (fun K hK => ?_)
                      refine sv hF (v_move rfl) rfl ?_; clear hF a; intro a hF
                      refine sv hF (v_assign rfl) rfl ?_; clear hF a; intro a hF
                      refine WL_nil (hK _ _ ?_)
                      clear hK K
                      replace hF := hF.sub _ (c_ 11 rfl (c_ 0 rfl (c_ 1 rfl (c_ 8 rfl (c_ 9 rfl (c_ 10 rfl (c_ 40 rfl (c_ 41 rfl (c_ 44 rfl (c_ 45 rfl (n_)))))))))))
                      refine W_reg rfl (fun K hK => ?_)
                      refine sv hF (v_move rfl) rfl ?_; clear hF a; intro a hF
                      refine sv hF (v_move rfl) rfl ?_; clear hF a; intro a hF
                      refine sv hF (v_move rfl) rfl ?_; clear hF a; intro a hF
                      refine sv hF (v_move rfl) rfl ?_; clear hF a; intro a hF
                      refine sc hF rfl rfl rfl en42 rfl (Pow_gf B o _ (i : Int) (j : Int) _ hS.inv hf (by omega)) ?_; clear hF a; intro v w' a hv hF
                      obtain ⟨rfl, hS'⟩ := hv
                      replace hf := hf.st hS'
                      replace hO := hO.st (by decide) hS'
                      replace hW := hW.st hS'
                      replace hKs := Nat.le_trans hKs hS'.ext.size
                      replace hC := hC.st (by decide) hS'
                      replace hS := hS.trans hS'
                      clear hS'
                      rw [← ext_cell hprm (k := kn) (m := mn) (j := j) hlt] at hF
                      refine s_bs (D := FDx) (B := B) hF sl37 rfl rfl (by decide) (by simp [Value.cells]) (by decide) hS.inv rfl ?_; clear hF a; intro w' a hm hI' hL hF
                      replace hf := hf.mb hm
                      replace hO := hO.mb hm (fun _ _ => by simp)
                      replace hW := hW.mb0 hm
                      replace hKs := Nat.le_trans hKs hm.size
                      replace hC := hC.mb hm (fun _ _ => by simp)
                      replace hS := hS.mb0 hm
                      clear hm hI'
                      refine s_app (D := FDx) (B := B) hF rfl sl37 rfl rfl hC (hL.row (by decide)) (by simp [Value.oneCell']) (by simp; omega) (by simp [maxLen]; omega) (hKs) (by decide) hS.inv rfl ?_; clear hF a; intro v' b' w' a ho' hm hI' hb' hF
                      replace hf := hf.mb hm
                      replace hO := hO.mb hm (hO.ne_type hC (by decide))
                      replace hW := hW.mbx hm (fun k e => (hC.lt k e).1)
                      replace hKs := Nat.le_trans hKs hm.size
                      replace hS := hS.mb hm (fun k h => Nat.le_trans (hNK) (hC.lt k h).1)
                      replace hC := ho'
                      clear hm hI' ho'
                      clear hL
                      refine sv hF (v_assign rfl) rfl ?_; clear hF a; intro a hF
                      refine WL_nil (hK _ _ ?_)
                      clear hK K
                      replace hF := hF.sub _ (c_ 10 rfl (c_ 0 rfl (c_ 1 rfl (c_ 8 rfl (c_ 9 rfl (c_ 40 rfl (c_ 41 rfl (c_ 44 rfl (c_ 45 rfl (n_))))))))))
                      refine W_reg rfl (fun K hK => ?_)
                      refine sv hF (v_addI rfl rfl (by omega)) rfl ?_; clear hF a; intro a hF
                      refine sv hF (v_move rfl) rfl ?_; clear hF a; intro a hF
                      refine WL_nil (hK _ _ ?_)
                      clear hK K
                      exact ⟨q2 - 1, by omega, j + 1, _, _, hF.sub _ (c_ 0 rfl (c_ 1 rfl (c_ 8 rfl (c_ 9 rfl (c_ 10 rfl (c_ 40 rfl (c_ 41 rfl (c_ 44 rfl (c_ 45 rfl (n_)))))))))), hS, hf, hO, hW, hKs, hC.cast (by rw [List.range_succ, List.map_append]; simp [zints]), by omega, by omega⟩
                    · skip
                      try simp only [decide_eq_true_eq, decide_eq_false_iff_not, Bool.not_eq_true', Bool.not_eq_false', Bool.not_true, Bool.not_false] at hc8
                      obtain rfl : j = kn := by omega
                      obtain ⟨gx, cx, rfl, rfl⟩ := hC.ptr (by simp; omega)
                      rw [zints_length, List.length_map, List.length_range] at hC hF
                      have hvl := vls_length i j bs rc
                      refine W_exit rfl ?_
                      refine W_reg rfl (fun K hK => ?_)
                      refine sv hF (v_move rfl) rfl ?_; clear hF a; intro a hF
                      refine sv hF (v_move rfl) rfl ?_; clear hF a; intro a hF
                      refine s_bs (D := FDx) (B := B) hF sl28 rfl rfl (by decide) (by simp [Value.cells]) (by decide) hS.inv rfl ?_; clear hF a; intro w' a hm hI' hL hF
                      replace hf := hf.mb hm
                      replace hO := hO.mb hm (fun _ _ => by simp)
                      replace hW := hW.mb0 hm
                      replace hKs := Nat.le_trans hKs hm.size
                      replace hC := hC.mb hm (fun _ _ => by simp)
                      replace hS := hS.mb0 hm
                      clear hm hI'
                      refine s_app (D := FDx) (B := B) hF rfl sl28 rfl rfl hO (hL.row (by decide)) (by simp [Value.oneCell']) (by rw [vls_length]; simp; omega) (by rw [vls_length]; simp [maxLen]; omega) (hS.ext.size) (by decide) hS.inv rfl ?_; clear hF a; intro v' b' w' a ho' hm hI' hb' hF
                      replace hf := hf.mb hm
                      replace hW := hW.mbo hm hO (by decide)
                      replace hKs := Nat.le_trans hKs hm.size
                      replace hC := hC.mb hm (hC.ne_type hO (by decide))
                      replace hS := hS.mb hm (fun k h => Nat.le_trans (Nat.le_refl _) (hO.lt k h).1)
                      replace hO := ho'
                      clear hm hI' ho'
                      clear hL
                      refine sv hF (v_assign rfl) rfl ?_; clear hF a; intro a hF
                      refine WL_nil (hK _ _ ?_)
                      clear hK K
                      replace hF := hF.sub _ (c_ 8 rfl (c_ 59 rfl (c_ 58 rfl (c_ 57 rfl (c_ 56 rfl (c_ 0 rfl (c_ 1 rfl (c_ 9 rfl (c_ 10 rfl (c_ 40 rfl (c_ 41 rfl (c_ 44 rfl (c_ 45 rfl (n_))))))))))))))
                      refine W_reg rfl (fun K hK => ?_)
                      refine sv hF (v_addI rfl rfl (by omega)) rfl ?_; clear hF a; intro a hF
                      refine sv hF (v_move rfl) rfl ?_; clear hF a; intro a hF
                      refine WL_nil (hK _ _ ?_)
                      clear hK K
                      exact ⟨q - 1, by omega, i + 1, _, _, _, _, hF.sub _ (c_ 0 rfl (c_ 1 rfl (c_ 8 rfl (c_ 40 rfl (c_ 41 rfl (n_)))))), hS, hf, hO.cast vls_snoc.symm, hW.snoc (hC.le hNK) ((hC.lt _ rfl).1), by omega, by omega⟩
                · skip
                  try simp only [decide_eq_true_eq, decide_eq_false_iff_not, Bool.not_eq_true', Bool.not_eq_false', Bool.not_true, Bool.not_false] at hc7
                  refine W_exit rfl ?_
                  obtain rfl : i = kn + mn - 1 := by omega
                  refine W_sr rfl (fun K hK => ?_)
                  refine sv hF (v_move rfl) rfl ?_; clear hF a; intro a hF
                  have hKs0 := hKs
                  refine s_mk (D := FDx) (B := B) (m := kn) hF sl37 rfl rfl (by simp) (by omega) (by simp only [maxLen]; omega) (by decide) hS.inv rfl ?_; clear hF a; intro w' a hm hI' hC hF
                  replace hf := hf.mb hm
                  replace hO := hO.mb hm (fun _ _ => by simp)
                  replace hW := hW.mb0 hm
                  replace hKs := Nat.le_trans hKs hm.size
                  replace hS := hS.mb0 hm
                  clear hm hI'
                  replace hC := hC.le hKs0
                  clear hKs0
                  refine sv hF (v_assign rfl) rfl ?_; clear hF a; intro a hF
                  refine WL_nil (hK _ _ ?_)
                  clear hK K
                  replace hF := hF.sub _ (c_ 12 rfl (c_ 62 rfl (c_ 61 rfl (c_ 0 rfl (c_ 1 rfl (c_ 8 rfl (c_ 40 rfl (c_ 41 rfl (n_)))))))))
                  refine W_sr rfl (fun K hK => ?_)
                  refine sv hF (v_move rfl) rfl ?_; clear hF a; intro a hF
                  refine sv hF (v_move rfl) rfl ?_; clear hF a; intro a hF
                  refine sv hF ((v_subI rfl rfl (by omega)).as (show Value.int .i64 ((kn : Int) - 1) = .int .i64 ((kn - 1 : Nat) : Int) by congr 1; omega)) rfl ?_; clear hF a; intro a hF
                  refine sv hF (v_ixS sl37 rfl rfl (by omega) (by omega)) rfl ?_; clear hF a; intro a hF
                  refine s_set (D := FDx) (B := B) hF on3 rfl (by rw [toNat_c]; simp; omega) rfl rfl hC (by decide) hS.inv ?_; intro w' hm hI' ho'
                  replace hf := hf.mb hm
                  replace hO := hO.mb hm (hO.ne_type hC (by decide))
                  replace hW := hW.mbx hm (fun k e => (hC.lt k e).1)
                  replace hKs := Nat.le_trans hKs hm.size
                  replace hS := hS.mb hm (fun k h => Nat.le_trans (hNK) (hC.lt k h).1)
                  replace hC := ho'
                  clear hm hI' ho'
                  rw [toNat_c, Nat.zero_add, ext_last (o := o) (m := mn) (by omega)] at hC
                  refine WL_nil (hK _ _ ?_)
                  clear hK K
                  refine W_sr rfl (fun K hK => ?_)
                  refine sv hF (v_move rfl) rfl ?_; clear hF a; intro a hF
                  refine sv hF (v_move rfl) rfl ?_; clear hF a; intro a hF
                  refine s_bs (D := FDx) (B := B) hF sl28 rfl rfl (by decide) (by simp [Value.cells]) (by decide) hS.inv rfl ?_; clear hF a; intro w' a hm hI' hL hF
                  replace hf := hf.mb hm
                  replace hO := hO.mb hm (fun _ _ => by simp)
                  replace hW := hW.mb0 hm
                  replace hKs := Nat.le_trans hKs hm.size
                  replace hC := hC.mb hm (fun _ _ => by simp)
                  replace hS := hS.mb0 hm
                  clear hm hI'
                  refine s_app (D := FDx) (B := B) hF rfl sl28 rfl rfl hO (hL.row (by decide)) (by simp [Value.oneCell']) (by rw [vls_length]; simp; omega) (by rw [vls_length]; simp [maxLen]; omega) (hS.ext.size) (by decide) hS.inv rfl ?_; clear hF a; intro v' b' w' a ho' hm hI' hb' hF
                  replace hf := hf.mb hm
                  replace hW := hW.mbo hm hO (by decide)
                  replace hKs := Nat.le_trans hKs hm.size
                  replace hC := hC.mb hm (hC.ne_type hO (by decide))
                  replace hS := hS.mb hm (fun k h => Nat.le_trans (Nat.le_refl _) (hO.lt k h).1)
                  replace hO := ho'
                  clear hm hI' ho'
                  clear hL
                  refine sv hF (v_assign rfl) rfl ?_; clear hF a; intro a hF
                  refine sv hF (v_assign rfl) rfl ?_; clear hF a; intro a hF
                  refine WL_nil (hK _ _ ?_)
                  clear hK K
                  refine W_ret ?_
                  refine ⟨_, _, _, hF, rfl, rfl, ?_⟩
                  have hO2 := hO.cast vls_snoc.symm
                  have hW2 := hW.snoc (hC.le hNK) ((hC.lt _ rfl).1)
                  rw [show kn + mn - 1 + 1 = kn + mn by omega] at hO2 hW2
                  obtain ⟨g, cap, rfl, rfl⟩ := hO2.ptr (by simp; omega)
                  rw [vls_length] at hO2
                  rw [vls_length, show ((kn : Int) + (mn : Int)).toNat = kn + mn by omega]
                  simp only [Int.toNat_natCast]
                  exact ⟨.inr ⟨hb, g, cap, _, _, rfl, hO2, hW2⟩, hS⟩

end Go.Proofs.Ytaeljbdpjiciaaa
