/- The statement InvertRank, walked: it returns true. -/
import Derived.Test.YtcnlooajjnghaaaFAw05
set_option linter.unusedVariables false
set_option linter.unusedSimpArgs false
namespace Go.Proofs.Ytcnlooajjnghaaa
open Go Go.Gam


namespace FxFInvertRank
theorem en13 : Ent Try.prog 13 := ent Try.func13 (by kernel_rfl) (by kernel_rfl)
theorem en14 : Ent Try.prog 14 := ent Try.func14 (by kernel_rfl) (by kernel_rfl)
theorem en18 : Ent Try.prog 18 := ent Try.func18 (by kernel_rfl) (by kernel_rfl)
theorem en19 : Ent Try.prog 19 := ent Try.func19 (by kernel_rfl) (by kernel_rfl)
theorem en20 : Ent Try.prog 20 := ent Try.func20 (by kernel_rfl) (by kernel_rfl)
theorem en21 : Ent Try.prog 21 := ent Try.func21 (by kernel_rfl) (by kernel_rfl)
theorem sc28 : Scalar Try.prog 28 := ⟨_, Try.underlying28, by simp, by simp⟩
theorem sl28 : Sl Try.prog 28 3 (.int .i64 0) 8 := sl_of Try.underlying28 rfl (by kernel_rfl)
theorem sl29 : Sl Try.prog 29 28 (.slice none 0 0) 24 := sl_of Try.underlying29 rfl (by kernel_rfl)
end FxFInvertRank
open FxFInvertRank

set_option maxRecDepth 100000 in
set_option maxHeartbeats 1000000 in
theorem InvertRank_ok (B M : Nat) (lg : Bool) (pma : Option Addr) (cma : Nat) (ma : Mtx) (w : World) (hI : Inv FDx B w) (hM : M ≤ w.heap.size) (hAma : Mat FDx B M w pma cma ma) (hlma : ma.length ≤ maxLen) (hbma : ∀ r ∈ ma, r.length ≤ maxLen) : Ret Try.prog 4 [.bool lg, .slice pma ma.length cma] w fun v w' => v = .bool true ∧ St FDx B w w' := by
  refine enter 117 [(0, .bool lg), (1, .slice pma ma.length cma)] 4 Try.func4 rfl rfl rfl rfl rfl ?_; intro a hF
  have hS := St.refl hI
  replace hAma := hAma.mono hM
  refine W_sr rfl (fun K hK => ?_)
  refine sv hF (v_assign rfl) rfl ?_; clear hF a; intro a hF
  refine WL_nil (hK _ _ ?_)
  clear hK K
  refine W_sr rfl (fun K hK => ?_)
  refine sc hF rfl rfl rfl en13 rfl (aw05_ok B _ hS.inv) ?_; clear hF a; intro v w' a hv hF
  obtain ⟨rfl, hS'⟩ := hv
  replace hAma := (hAma.st hS').mono hS'.ext.size
  replace hS := hS.trans hS'
  clear hS'
  refine sv hF (v_assign rfl) rfl ?_; clear hF a; intro a hF
  refine WL_nil (hK _ _ ?_)
  clear hK K
  replace hF := hF.sub _ (c_ 5 rfl (c_ 4 rfl (c_ 0 rfl (c_ 1 rfl (n_)))))
  refine W_seq ?_
  refine W_sr rfl (fun K hK => ?_)
  refine sv hF (v_move rfl) rfl ?_; clear hF a; intro a hF
  refine sc hF rfl rfl rfl en18 rfl (Few04_ok B _ _ _ ma _ hAma hlma hbma) ?_; clear hF a; intro v w' a hv hF
  obtain ⟨rfl, hw⟩ := hv
  obtain rfl := hw.symm
  have hS' := St.refl hS.inv
  replace hAma := (hAma.st hS').mono hS'.ext.size
  replace hS := hS.trans hS'
  clear hS'
  refine sv hF (v_not rfl) rfl ?_; clear hF a; intro a hF
  refine WL_nil (hK _ _ ?_)
  clear hK K
  replace hF := hF.sub _ (c_ 21 rfl (c_ 5 rfl (c_ 4 rfl (c_ 0 rfl (c_ 1 rfl (n_))))))
  refine W_if hF rfl (fun hc1 => ?_) (fun hc1 => ?_)
  · skip
    try simp only [decide_eq_true_eq, decide_eq_false_iff_not, Bool.not_eq_true', Bool.not_eq_false', Bool.not_true, Bool.not_false] at hc1
    refine W_sr rfl (fun K hK => ?_)
    refine sv hF (v_move rfl) rfl ?_; clear hF a; intro a hF
    refine sv hF (v_assign rfl) rfl ?_; clear hF a; intro a hF
    refine WL_nil (hK _ _ ?_)
    clear hK K
    replace hF := hF.sub _ (c_ 4 rfl (c_ 5 rfl (c_ 0 rfl (c_ 1 rfl (n_)))))
    refine W_ret ?_
    refine ⟨_, _, hF, rfl, ?_⟩
    exact ⟨rfl, hS⟩
  · skip
    try simp only [decide_eq_true_eq, decide_eq_false_iff_not, Bool.not_eq_true', Bool.not_eq_false', Bool.not_true, Bool.not_false] at hc1
    refine W_skip ?_
    have hfma : fewM ma = true := by simpa using hc1
    have hfl := (fewM_iff.1 hfma).1
    refine W_sr rfl (fun K hK => ?_)
    refine sv hF (v_move rfl) rfl ?_; clear hF a; intro a hF
    refine sc hF rfl rfl rfl en14 rfl (field5_ok B lg _ hS.inv) ?_; clear hF a; intro v w' a hv hF
    obtain ⟨fv, rfl, hf, hS'⟩ := hv
    obtain ⟨⟨wb, p⟩, hq⟩ : ∃ q, fq lg = q := ⟨_, rfl⟩
    have hq1 : (fq lg).1 = wb := by rw [hq]
    have hq2 : (fq lg).2 = p := by rw [hq]
    rw [hq] at hf
    rw [hq1, hq2] at hF
    clear hq1 hq2
    have hp : Prm wb p := hf.1
    replace hAma := (hAma.st hS').mono hS'.ext.size
    replace hS := hS.trans hS'
    clear hS'
    refine sv hF (v_move rfl) rfl ?_; clear hF a; intro a hF
    refine sv hF (v_ext rfl rfl) rfl ?_; clear hF a; intro a hF
    refine sv hF (v_ext rfl rfl) rfl ?_; clear hF a; intro a hF
    refine sv hF (v_ext rfl rfl) rfl ?_; clear hF a; intro a hF
    refine sv hF (v_assign rfl) rfl ?_; clear hF a; intro a hF
    refine sv hF (v_assign rfl) rfl ?_; clear hF a; intro a hF
    refine sv hF (v_assign rfl) rfl ?_; clear hF a; intro a hF
    refine WL_nil (hK _ _ ?_)
    clear hK K
    replace hF := hF.sub _ (c_ 7 rfl (c_ 6 rfl (c_ 5 rfl (c_ 4 rfl (c_ 1 rfl (n_))))))
    refine W_seq ?_
    refine W_sr rfl (fun K hK => ?_)
    refine sv hF (v_move rfl) rfl ?_; clear hF a; intro a hF
    refine sv hF (v_move rfl) rfl ?_; clear hF a; intro a hF
    refine sc hF rfl rfl rfl en19 rfl (rMay_ok B _ wb p hp _ _ ma _ hS.inv hAma hlma hbma) ?_; clear hF a; intro v w' a hv hF
    obtain ⟨rfl, hS'⟩ := hv
    replace hAma := (hAma.st hS').mono hS'.ext.size
    replace hf := hf.st hS'
    replace hS := hS.trans hS'
    clear hS'
    refine sv hF (v_not rfl) rfl ?_; clear hF a; intro a hF
    refine WL_nil (hK _ _ ?_)
    clear hK K
    replace hF := hF.sub _ (c_ 32 rfl (c_ 6 rfl (c_ 5 rfl (c_ 4 rfl (c_ 1 rfl (n_))))))
    refine W_if hF rfl (fun hc2 => ?_) (fun hc2 => ?_)
    · skip
      try simp only [decide_eq_true_eq, decide_eq_false_iff_not, Bool.not_eq_true', Bool.not_eq_false', Bool.not_true, Bool.not_false] at hc2
      refine W_sr rfl (fun K hK => ?_)
      refine sv hF (v_move rfl) rfl ?_; clear hF a; intro a hF
      refine sv hF (v_assign rfl) rfl ?_; clear hF a; intro a hF
      refine WL_nil (hK _ _ ?_)
      clear hK K
      replace hF := hF.sub _ (c_ 4 rfl (c_ 6 rfl (c_ 5 rfl (c_ 1 rfl (n_)))))
      refine W_ret ?_
      refine ⟨_, _, hF, rfl, ?_⟩
      exact ⟨rfl, hS⟩
    · skip
      try simp only [decide_eq_true_eq, decide_eq_false_iff_not, Bool.not_eq_true', Bool.not_eq_false', Bool.not_true, Bool.not_false] at hc2
      refine W_skip ?_
      have hmayma : mayM (some (wb, p)) ma = true := by have h := hc2; simpa using h
      have hmpma := mayM_pos hmayma
      obtain ⟨r0ma, h0ma⟩ : ∃ r, ma[0]? = some r := ⟨_, List.getElem?_eq_getElem (by omega)⟩
      obtain ⟨g0ma, o0ma, p0ma, c0ma, hg0ma, hk0ma, hrow0ma, -⟩ := hAma.row h0ma
      have hw0ma := wid_at h0ma
      subst hg0ma
      clear hk0ma hrow0ma
      obtain ⟨r_, hrk, hrn, hrw⟩ := rank_bd hp hmayma
      obtain ⟨hjn, htw⟩ := rank_twice hp hmayma hfl
      rw [hrk] at htw
      have hjl := len20 (joinM_lens (some (wb, p)) ma ma)
      rw [hjn] at hjl
      refine W_sr rfl (fun K hK => ?_)
      refine sv hF (v_move rfl) rfl ?_; clear hF a; intro a hF
      refine sv hF (v_move rfl) rfl ?_; clear hF a; intro a hF
      refine sc hF rfl rfl rfl en20 rfl (Rank_ok B _ wb p hp fv _ _ ma _ hS.inv (Nat.le_refl _) hf hAma (And.intro hlma hbma).1 (And.intro hlma hbma).2) ?_; clear hF a; intro v w' a hv hF
      obtain ⟨rfl, hS'⟩ := hv
      rw [hrk] at hF
      dsimp only at hF
      replace hAma := (hAma.st hS').mono hS'.ext.size
      replace hf := hf.st hS'
      replace hS := hS.trans hS'
      clear hS'
      refine sv hF (v_move rfl) rfl ?_; clear hF a; intro a hF
      refine sv hF (v_ext rfl rfl) rfl ?_; clear hF a; intro a hF
      refine sv hF (v_ext rfl rfl) rfl ?_; clear hF a; intro a hF
      refine sv hF (v_assign rfl) rfl ?_; clear hF a; intro a hF
      refine sv hF (v_assign rfl) rfl ?_; clear hF a; intro a hF
      refine WL_nil (hK _ _ ?_)
      clear hK K
      replace hF := hF.sub _ (c_ 10 rfl (c_ 9 rfl (c_ 6 rfl (c_ 5 rfl (c_ 4 rfl (c_ 1 rfl (n_)))))))
      refine W_sr rfl (fun K hK => ?_)
      refine sv hF (v_move rfl) rfl ?_; clear hF a; intro a hF
      refine sv hF (v_move rfl) rfl ?_; clear hF a; intro a hF
      refine sv hF (v_move rfl) rfl ?_; clear hF a; intro a hF
      refine sc hF rfl rfl rfl en21 rfl (Join_ok B _ (some (wb, p)) fv _ _ ma _ _ ma _ hS.inv (Nat.le_refl _) hf hAma hlma hbma hAma hlma hbma) ?_; clear hF a; intro v w' a hv hF
      obtain ⟨obD, uD, rfl, hoD, hS'⟩ := hv
      rw [hjn] at hoD hF
      try simp only [Option.getD_some, Option.getD_none] at hoD
      obtain ⟨sD, cD, rfl, hD⟩ := hoD.mat (by decide) (Nat.zero_le _)
      clear hoD
      replace hAma := (hAma.st hS').mono hS'.ext.size
      replace hf := hf.st hS'
      replace hS := hS.trans hS'
      clear hS'
      refine sv hF (v_move rfl) rfl ?_; clear hF a; intro a hF
      refine sv hF (v_ext rfl rfl) rfl ?_; clear hF a; intro a hF
      refine sv hF (v_ext rfl rfl) rfl ?_; clear hF a; intro a hF
      refine sv hF (v_assign rfl) rfl ?_; clear hF a; intro a hF
      refine sv hF (v_assign rfl) rfl ?_; clear hF a; intro a hF
      refine WL_nil (hK _ _ ?_)
      clear hK K
      replace hF := hF.sub _ (c_ 12 rfl (c_ 11 rfl (c_ 10 rfl (c_ 9 rfl (c_ 6 rfl (c_ 5 rfl (c_ 4 rfl (c_ 1 rfl (n_)))))))))
      refine W_sr rfl (fun K hK => ?_)
      refine sv hF (v_move rfl) rfl ?_; clear hF a; intro a hF
      refine sv hF (v_move rfl) rfl ?_; clear hF a; intro a hF
      refine sc hF rfl rfl rfl en20 rfl (Rank_ok B _ wb p hp fv _ _ (ma ++ ma) _ hS.inv (Nat.le_refl _) hf hD (hjl).1 (hjl).2) ?_; clear hF a; intro v w' a hv hF
      obtain ⟨rfl, hS'⟩ := hv
      rw [htw] at hF
      dsimp only at hF
      replace hAma := (hAma.st hS').mono hS'.ext.size
      replace hf := hf.st hS'
      replace hD := (hD.st hS').mono hS'.ext.size
      replace hS := hS.trans hS'
      clear hS'
      refine sv hF (v_move rfl) rfl ?_; clear hF a; intro a hF
      refine sv hF (v_ext rfl rfl) rfl ?_; clear hF a; intro a hF
      refine sv hF (v_ext rfl rfl) rfl ?_; clear hF a; intro a hF
      refine sv hF (v_assign rfl) rfl ?_; clear hF a; intro a hF
      refine sv hF (v_assign rfl) rfl ?_; clear hF a; intro a hF
      refine WL_nil (hK _ _ ?_)
      clear hK K
      replace hF := hF.sub _ (c_ 14 rfl (c_ 13 rfl (c_ 12 rfl (c_ 10 rfl (c_ 9 rfl (c_ 6 rfl (c_ 5 rfl (c_ 4 rfl (c_ 1 rfl (n_))))))))))
      refine W_sr rfl (fun K hK => ?_)
      refine sv hF (v_assign rfl) rfl ?_; clear hF a; intro a hF
      refine WL_nil (hK _ _ ?_)
      clear hK K
      refine W_seq ?_
      refine W_sr rfl (fun K hK => ?_)
      refine sv hF (v_move rfl) rfl ?_; clear hF a; intro a hF
      refine sv hF (v_lenS rfl sl29 rfl) rfl ?_; clear hF a; intro a hF
      refine sv hF (v_gtr rfl rfl) rfl ?_; clear hF a; intro a hF
      refine WL_nil (hK _ _ ?_)
      clear hK K
      replace hF := hF.sub _ (c_ 55 rfl (c_ 15 rfl (c_ 14 rfl (c_ 13 rfl (c_ 12 rfl (c_ 10 rfl (c_ 9 rfl (c_ 6 rfl (c_ 5 rfl (c_ 4 rfl (c_ 1 rfl (n_))))))))))))
      refine W_if hF rfl (fun hc3 => ?_) (fun hc3 => ?_)
      · skip
        try simp only [decide_eq_true_eq, decide_eq_false_iff_not, Bool.not_eq_true', Bool.not_eq_false', Bool.not_true, Bool.not_false] at hc3
        obtain ⟨r2, l, hr2, hl2, hlr, hrl⟩ := rank_less hp hmayma (by omega)
        obtain rfl : r2 = r_ := by rw [hrk] at hr2; injection hr2 with h; omega
        have htl : (ma.take (ma.length - 1)).length = ma.length - 1 := by simp
        have hcap := hAma.capd
        have hAt := hAma.to (b := ma.take (ma.length - 1)) (hi := ma.length - 1) (by omega) rfl
        have hAl : (ma.take (ma.length - 1)).length ≤ maxLen ∧ ∀ r ∈ ma.take (ma.length - 1), r.length ≤ maxLen := ⟨by rw [htl]; exact Nat.le_trans (Nat.sub_le _ _) hlma, fun r hr => hbma r (List.mem_of_mem_take hr)⟩
        refine W_sr rfl (fun K hK => ?_)
        refine sv hF (v_move rfl) rfl ?_; clear hF a; intro a hF
        refine sv hF (v_move rfl) rfl ?_; clear hF a; intro a hF
        refine sv hF (v_move rfl) rfl ?_; clear hF a; intro a hF
        refine sv hF (v_lenS rfl sl29 rfl) rfl ?_; clear hF a; intro a hF
        refine sv hF (v_subI rfl rfl (by omega)) rfl ?_; clear hF a; intro a hF
        rw [show (ma.length : Int) - 1 = ((ma.length - 1 : Nat) : Int) by omega] at hF
        refine sv hF (v_slHi sl29 rfl rfl (by omega) (by omega)) rfl ?_; clear hF a; intro a hF
        rw [← htl] at hF
        refine sc hF rfl rfl rfl en20 rfl (Rank_ok B _ wb p hp fv _ _ (ma.take (ma.length - 1)) _ hS.inv (Nat.le_refl _) hf hAt (hAl).1 (hAl).2) ?_; clear hF a; intro v w' a hv hF
        obtain ⟨rfl, hS'⟩ := hv
        rw [hl2] at hF
        dsimp only at hF
        clear hAt
        replace hAma := (hAma.st hS').mono hS'.ext.size
        replace hf := hf.st hS'
        replace hD := (hD.st hS').mono hS'.ext.size
        replace hS := hS.trans hS'
        clear hS'
        refine sv hF (v_move rfl) rfl ?_; clear hF a; intro a hF
        refine sv hF (v_ext rfl rfl) rfl ?_; clear hF a; intro a hF
        refine sv hF (v_ext rfl rfl) rfl ?_; clear hF a; intro a hF
        refine sv hF (v_assign rfl) rfl ?_; clear hF a; intro a hF
        refine sv hF (v_assign rfl) rfl ?_; clear hF a; intro a hF
        refine WL_nil (hK _ _ ?_)
        clear hK K
        replace hF := hF.sub _ (c_ 17 rfl (c_ 16 rfl (c_ 15 rfl (c_ 14 rfl (c_ 13 rfl (c_ 12 rfl (c_ 10 rfl (c_ 9 rfl (c_ 5 rfl (c_ 4 rfl (c_ 1 rfl (n_))))))))))))
        refine W_seq ?_
        refine W_sr rfl (fun K hK => ?_)
        refine sv hF (v_move rfl) rfl ?_; clear hF a; intro a hF
        refine sv hF ((v_neq rfl rfl).as (congrArg Value.bool (decide_eq_false (by decide)))) rfl ?_; clear hF a; intro a hF
        refine sv hF (v_move rfl) rfl ?_; clear hF a; intro a hF
        refine svg hF rfl ?_
        refine sv hF (v_move rfl) rfl ?_; clear hF a; intro a hF
        refine svg hF rfl ?_
        refine sv hF (v_move rfl) rfl ?_; clear hF a; intro a hF
        refine svg hF rfl ?_
        refine sv hF ((v_gtr rfl rfl).as (congrArg Value.bool (decide_eq_false (by omega)))) rfl ?_; clear hF a; intro a hF
        refine sv hF (v_pickF rfl rfl) rfl ?_; clear hF a; intro a hF
        refine sv hF (v_move rfl) rfl ?_; clear hF a; intro a hF
        refine svg hF rfl ?_
        refine sv hF (v_move rfl) rfl ?_; clear hF a; intro a hF
        refine svg hF rfl ?_
        refine sv hF (v_move rfl) rfl ?_; clear hF a; intro a hF
        refine svg hF rfl ?_
        refine sv hF (v_subI rfl rfl (by omega)) rfl ?_; clear hF a; intro a hF
        refine svg hF rfl ?_
        refine sv hF ((v_lss rfl rfl).as (congrArg Value.bool (decide_eq_false (by omega)))) rfl ?_; clear hF a; intro a hF
        refine sv hF (v_pickF rfl rfl) rfl ?_; clear hF a; intro a hF
        refine WL_nil (hK _ _ ?_)
        clear hK K
        replace hF := hF.sub _ (c_ 78 rfl (c_ 16 rfl (c_ 15 rfl (c_ 14 rfl (c_ 13 rfl (c_ 12 rfl (c_ 10 rfl (c_ 9 rfl (c_ 5 rfl (c_ 4 rfl (c_ 1 rfl (n_))))))))))))
        refine W_ifF hF rfl ?_
        refine W_skip ?_
        refine W_reg rfl (fun K hK => ?_)
        refine sv hF (v_move rfl) rfl ?_; clear hF a; intro a hF
        refine sv hF (v_assign rfl) rfl ?_; clear hF a; intro a hF
        refine WL_nil (hK _ _ ?_)
        clear hK K
        replace hF := hF.sub _ (c_ 15 rfl (c_ 14 rfl (c_ 13 rfl (c_ 12 rfl (c_ 10 rfl (c_ 9 rfl (c_ 5 rfl (c_ 4 rfl (c_ 1 rfl (n_))))))))))
        refine W_sr rfl (fun K hK => ?_)
        refine sv hF (v_move rfl) rfl ?_; clear hF a; intro a hF
        refine sv hF (v_move rfl) rfl ?_; clear hF a; intro a hF
        refine svg hF rfl ?_
        refine sv hF (v_move rfl) rfl ?_; clear hF a; intro a hF
        refine svg hF rfl ?_
        refine sv hF ((v_eql rfl rfl).as (congrArg Value.bool (decide_eq_true (rfl)))) rfl ?_; clear hF a; intro a hF
        refine sv hF (v_pickT rfl rfl) rfl ?_; clear hF a; intro a hF
        refine sv hF (v_move rfl) rfl ?_; clear hF a; intro a hF
        refine svg hF rfl ?_
        refine sv hF (v_move rfl) rfl ?_; clear hF a; intro a hF
        refine svg hF rfl ?_
        refine sv hF ((v_eql rfl rfl).as (congrArg Value.bool (decide_eq_true (rfl)))) rfl ?_; clear hF a; intro a hF
        refine sv hF (v_pickT rfl rfl) rfl ?_; clear hF a; intro a hF
        refine sv hF (v_move rfl) rfl ?_; clear hF a; intro a hF
        refine svg hF rfl ?_
        refine sv hF (v_move rfl) rfl ?_; clear hF a; intro a hF
        refine svg hF rfl ?_
        refine sv hF ((v_eql rfl rfl).as (congrArg Value.bool (decide_eq_true (rfl)))) rfl ?_; clear hF a; intro a hF
        refine sv hF (v_pickT rfl rfl) rfl ?_; clear hF a; intro a hF
        refine sv hF (v_move rfl) rfl ?_; clear hF a; intro a hF
        refine svg hF rfl ?_
        refine sv hF (v_move rfl) rfl ?_; clear hF a; intro a hF
        refine svg hF rfl ?_
        refine sv hF (v_move rfl) rfl ?_; clear hF a; intro a hF
        refine svg hF rfl ?_
        refine sv hF (v_lenS rfl sl29 rfl) rfl ?_; clear hF a; intro a hF
        refine svg hF rfl ?_
        refine sv hF ((v_leq rfl rfl).as (congrArg Value.bool (decide_eq_true (by omega)))) rfl ?_; clear hF a; intro a hF
        refine sv hF (v_pickT rfl rfl) rfl ?_; clear hF a; intro a hF
        refine sv hF (v_move rfl) rfl ?_; clear hF a; intro a hF
        refine svg hF rfl ?_
        obtain ⟨r1, h1⟩ : ∃ r, ma[0]? = some r := ⟨_, List.getElem?_eq_getElem (by omega)⟩
        obtain ⟨p1, c1, hk1, -⟩ := hAma.row2 h1
        have hw1 := wid_at h1
        refine sv hF (v_move rfl) rfl ?_; clear hF a; intro a hF
        refine svg hF rfl ?_
        refine sv hF (v_move rfl) rfl ?_; clear hF a; intro a hF
        refine svg hF rfl ?_
        refine sv hF (v_ixS sl29 rfl rfl (by decide) (by omega)) rfl ?_; clear hF a; intro a hF
        refine svg hF rfl ?_
        refine sv hF (v_load sc28 rfl hk1.c) rfl ?_; clear hF a; intro a hF
        refine svg hF rfl ?_
        refine sv hF (v_lenS rfl sl28 rfl) rfl ?_; clear hF a; intro a hF
        refine svg hF rfl ?_
        refine sv hF ((v_leq rfl rfl).as (congrArg Value.bool (decide_eq_true (by omega)))) rfl ?_; clear hF a; intro a hF
        refine sv hF (v_pickT rfl rfl) rfl ?_; clear hF a; intro a hF
        refine sv hF (v_move rfl) rfl ?_; clear hF a; intro a hF
        refine svg hF rfl ?_
        refine sv hF (v_move rfl) rfl ?_; clear hF a; intro a hF
        refine svg hF rfl ?_
        refine sv hF (v_move rfl) rfl ?_; clear hF a; intro a hF
        refine svg hF rfl ?_
        refine sv hF ((v_eql rfl rfl).as (congrArg Value.bool (decide_eq_true (rfl)))) rfl ?_; clear hF a; intro a hF
        refine sv hF (v_pickT rfl rfl) rfl ?_; clear hF a; intro a hF
        refine sv hF (v_move rfl) rfl ?_; clear hF a; intro a hF
        refine svg hF rfl ?_
        refine sv hF (v_move rfl) rfl ?_; clear hF a; intro a hF
        refine svg hF rfl ?_
        refine sv hF (v_move rfl) rfl ?_; clear hF a; intro a hF
        refine svg hF rfl ?_
        refine sv hF ((v_leq rfl rfl).as (congrArg Value.bool (decide_eq_true (by omega)))) rfl ?_; clear hF a; intro a hF
        refine sv hF (v_pickT rfl rfl) rfl ?_; clear hF a; intro a hF
        refine sv hF (v_assign rfl) rfl ?_; clear hF a; intro a hF
        refine WL_nil (hK _ _ ?_)
        clear hK K
        replace hF := hF.sub _ (c_ 4 rfl (n_))
        refine W_ret ?_
        refine ⟨_, _, hF, rfl, ?_⟩
        exact ⟨rfl, hS⟩
      · skip
        try simp only [decide_eq_true_eq, decide_eq_false_iff_not, Bool.not_eq_true', Bool.not_eq_false', Bool.not_true, Bool.not_false] at hc3
        refine W_skip ?_
        refine W_sr rfl (fun K hK => ?_)
        refine sv hF (v_move rfl) rfl ?_; clear hF a; intro a hF
        refine sv hF (v_move rfl) rfl ?_; clear hF a; intro a hF
        refine svg hF rfl ?_
        refine sv hF (v_move rfl) rfl ?_; clear hF a; intro a hF
        refine svg hF rfl ?_
        refine sv hF ((v_eql rfl rfl).as (congrArg Value.bool (decide_eq_true (rfl)))) rfl ?_; clear hF a; intro a hF
        refine sv hF (v_pickT rfl rfl) rfl ?_; clear hF a; intro a hF
        refine sv hF (v_move rfl) rfl ?_; clear hF a; intro a hF
        refine svg hF rfl ?_
        refine sv hF (v_move rfl) rfl ?_; clear hF a; intro a hF
        refine svg hF rfl ?_
        refine sv hF ((v_eql rfl rfl).as (congrArg Value.bool (decide_eq_true (rfl)))) rfl ?_; clear hF a; intro a hF
        refine sv hF (v_pickT rfl rfl) rfl ?_; clear hF a; intro a hF
        refine sv hF (v_move rfl) rfl ?_; clear hF a; intro a hF
        refine svg hF rfl ?_
        refine sv hF (v_move rfl) rfl ?_; clear hF a; intro a hF
        refine svg hF rfl ?_
        refine sv hF ((v_eql rfl rfl).as (congrArg Value.bool (decide_eq_true (rfl)))) rfl ?_; clear hF a; intro a hF
        refine sv hF (v_pickT rfl rfl) rfl ?_; clear hF a; intro a hF
        refine sv hF (v_move rfl) rfl ?_; clear hF a; intro a hF
        refine svg hF rfl ?_
        refine sv hF (v_move rfl) rfl ?_; clear hF a; intro a hF
        refine svg hF rfl ?_
        refine sv hF (v_move rfl) rfl ?_; clear hF a; intro a hF
        refine svg hF rfl ?_
        refine sv hF (v_lenS rfl sl29 rfl) rfl ?_; clear hF a; intro a hF
        refine svg hF rfl ?_
        refine sv hF ((v_leq rfl rfl).as (congrArg Value.bool (decide_eq_true (by omega)))) rfl ?_; clear hF a; intro a hF
        refine sv hF (v_pickT rfl rfl) rfl ?_; clear hF a; intro a hF
        refine sv hF (v_move rfl) rfl ?_; clear hF a; intro a hF
        refine svg hF rfl ?_
        obtain ⟨r1, h1⟩ : ∃ r, ma[0]? = some r := ⟨_, List.getElem?_eq_getElem (by omega)⟩
        obtain ⟨p1, c1, hk1, -⟩ := hAma.row2 h1
        have hw1 := wid_at h1
        refine sv hF (v_move rfl) rfl ?_; clear hF a; intro a hF
        refine svg hF rfl ?_
        refine sv hF (v_move rfl) rfl ?_; clear hF a; intro a hF
        refine svg hF rfl ?_
        refine sv hF (v_ixS sl29 rfl rfl (by decide) (by omega)) rfl ?_; clear hF a; intro a hF
        refine svg hF rfl ?_
        refine sv hF (v_load sc28 rfl hk1.c) rfl ?_; clear hF a; intro a hF
        refine svg hF rfl ?_
        refine sv hF (v_lenS rfl sl28 rfl) rfl ?_; clear hF a; intro a hF
        refine svg hF rfl ?_
        refine sv hF ((v_leq rfl rfl).as (congrArg Value.bool (decide_eq_true (by omega)))) rfl ?_; clear hF a; intro a hF
        refine sv hF (v_pickT rfl rfl) rfl ?_; clear hF a; intro a hF
        refine sv hF (v_move rfl) rfl ?_; clear hF a; intro a hF
        refine svg hF rfl ?_
        refine sv hF (v_move rfl) rfl ?_; clear hF a; intro a hF
        refine svg hF rfl ?_
        refine sv hF (v_move rfl) rfl ?_; clear hF a; intro a hF
        refine svg hF rfl ?_
        refine sv hF ((v_eql rfl rfl).as (congrArg Value.bool (decide_eq_true (rfl)))) rfl ?_; clear hF a; intro a hF
        refine sv hF (v_pickT rfl rfl) rfl ?_; clear hF a; intro a hF
        refine sv hF (v_move rfl) rfl ?_; clear hF a; intro a hF
        refine svg hF rfl ?_
        refine sv hF (v_move rfl) rfl ?_; clear hF a; intro a hF
        refine svg hF rfl ?_
        refine sv hF (v_move rfl) rfl ?_; clear hF a; intro a hF
        refine svg hF rfl ?_
        refine sv hF ((v_leq rfl rfl).as (congrArg Value.bool (decide_eq_true (by omega)))) rfl ?_; clear hF a; intro a hF
        refine sv hF (v_pickT rfl rfl) rfl ?_; clear hF a; intro a hF
        refine sv hF (v_assign rfl) rfl ?_; clear hF a; intro a hF
        refine WL_nil (hK _ _ ?_)
        clear hK K
        replace hF := hF.sub _ (c_ 4 rfl (n_))
        refine W_ret ?_
        refine ⟨_, _, hF, rfl, ?_⟩
        exact ⟨rfl, hS⟩

end Go.Proofs.Ytcnlooajjnghaaa
