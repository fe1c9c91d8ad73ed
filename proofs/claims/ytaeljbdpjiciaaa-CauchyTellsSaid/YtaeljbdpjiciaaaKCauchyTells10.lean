/- Texts of the claim CauchyTells (part 10), put together in the order of their imports. -/
import Derived.Test.YtaeljbdpjiciaaaKCauchyTells9
/- The statement CauchyTells, walked: it returns true. -/
set_option linter.unusedVariables false
set_option linter.unusedSimpArgs false
namespace Go.Proofs.Ytaeljbdpjiciaaa
open Go Go.Gam


namespace FxFCauchyTells
theorem en21 : Ent Try.prog 21 := ent Try.func21 (by kernel_rfl) (by kernel_rfl)
theorem en22 : Ent Try.prog 22 := ent Try.func22 (by kernel_rfl) (by kernel_rfl)
theorem en23 : Ent Try.prog 23 := ent Try.func23 (by kernel_rfl) (by kernel_rfl)
theorem en24 : Ent Try.prog 24 := ent Try.func24 (by kernel_rfl) (by kernel_rfl)
theorem en25 : Ent Try.prog 25 := ent Try.func25 (by kernel_rfl) (by kernel_rfl)
theorem en33 : Ent Try.prog 33 := ent Try.func33 (by kernel_rfl) (by kernel_rfl)
theorem en34 : Ent Try.prog 34 := ent Try.func34 (by kernel_rfl) (by kernel_rfl)
theorem en35 : Ent Try.prog 35 := ent Try.func35 (by kernel_rfl) (by kernel_rfl)
theorem en36 : Ent Try.prog 36 := ent Try.func36 (by kernel_rfl) (by kernel_rfl)
theorem en37 : Ent Try.prog 37 := ent Try.func37 (by kernel_rfl) (by kernel_rfl)
theorem ar59 : ArrOf Try.prog 59 2 := ar_of Try.underlying59 (by kernel_rfl)
theorem ar60 : ArrOf Try.prog 60 2 := ar_of Try.underlying60 (by kernel_rfl)
theorem sc3 : Scalar Try.prog 3 := ⟨_, Try.underlying3, by simp, by simp⟩
theorem sc37 : Scalar Try.prog 37 := ⟨_, Try.underlying37, by simp, by simp⟩
theorem sl37 : Sl Try.prog 37 3 (.int .i64 0) 8 := sl_of Try.underlying37 rfl (by kernel_rfl)
end FxFCauchyTells
open FxFCauchyTells

set_option maxRecDepth 100000 in
set_option maxHeartbeats 1000000 in
theorem was8_some (w : World) : Ret Try.prog 37 [.int .i64 0, .bool true] w fun v w' => v = .bool true ∧ w' = w := by
 refine enter 18 [(0, .int .i64 0), (1, .bool true)] 4 Try.func37 rfl rfl rfl rfl rfl ?_; intro a hF
 refine W_sr rfl (fun K hK => ?_)
 refine sv hF (v_assign rfl) rfl ?_; clear hF a; intro a hF
 refine WL_nil (hK _ _ ?_)
 clear hK K
 refine W_sr rfl (fun K hK => ?_)
 refine sv hF (v_move rfl) rfl ?_; clear hF a; intro a hF
 refine sv hF ((v_eql rfl rfl).as (congrArg Value.bool (decide_eq_true (rfl)))) rfl ?_; clear hF a; intro a hF
 refine sv hF (v_move rfl) rfl ?_; clear hF a; intro a hF
 refine svg hF rfl ?_
 refine sv3 hF (v_move rfl) (v_pickT rfl rfl) (v_move rfl) rfl rfl rfl ?_; clear hF a; intro a hF
 refine svn hF rfl rfl rfl ?_; clear hF a; intro a hF
 refine svn hF rfl rfl rfl ?_; clear hF a; intro a hF
 refine svn hF rfl rfl rfl ?_; clear hF a; intro a hF
 refine svu hF rfl rfl ?_; clear hF a; intro a hF
 refine svu hF rfl rfl ?_; clear hF a; intro a hF
 refine svn hF rfl rfl rfl ?_; clear hF a; intro a hF
 refine sv2 hF (v_pickT rfl rfl) (v_assign rfl) rfl rfl ?_; clear hF a; intro a hF
 refine WL_nil (hK _ _ ?_)
 clear hK K
 replace hF := hF.sub _ (c_ 4 rfl (n_))
 refine W_ret ?_
 refine ⟨_, _, hF, rfl, ?_⟩
 exact ⟨rfl, rfl⟩

set_option maxRecDepth 100000 in
set_option maxHeartbeats 1000000 in
theorem was8_none (w : World) : Ret Try.prog 37 [.int .i64 1, .bool false] w fun v w' => v = .bool true ∧ w' = w := by
 refine enter 18 [(0, .int .i64 1), (1, .bool false)] 4 Try.func37 rfl rfl rfl rfl rfl ?_; intro a hF
 refine W_sr rfl (fun K hK => ?_)
 refine sv hF (v_assign rfl) rfl ?_; clear hF a; intro a hF
 refine WL_nil (hK _ _ ?_)
 clear hK K
 refine W_sr rfl (fun K hK => ?_)
 refine sv hF (v_move rfl) rfl ?_; clear hF a; intro a hF
 refine sv hF ((v_eql rfl rfl).as (congrArg Value.bool (decide_eq_false (by decide)))) rfl ?_; clear hF a; intro a hF
 refine sv hF (v_move rfl) rfl ?_; clear hF a; intro a hF
 refine svn hF rfl rfl rfl ?_; clear hF a; intro a hF
 refine sv2 hF (v_pickF rfl rfl) (v_move rfl) rfl rfl ?_; clear hF a; intro a hF
 refine svg hF rfl ?_
 refine sv hF (v_move rfl) rfl ?_; clear hF a; intro a hF
 refine svg hF rfl ?_
 refine sv hF ((v_eql rfl rfl).as (congrArg Value.bool (decide_eq_true (rfl)))) rfl ?_; clear hF a; intro a hF
 refine svg hF rfl ?_
 refine sv hF (v_move rfl) rfl ?_; clear hF a; intro a hF
 refine svg hF rfl ?_
 refine sv hF (v_move rfl) rfl ?_; clear hF a; intro a hF
 refine svg hF rfl ?_
 refine sv hF (v_not rfl) rfl ?_; clear hF a; intro a hF
 refine svg hF rfl ?_
 refine sv3 hF (v_pickT rfl rfl) (v_pickF rfl rfl) (v_assign rfl) rfl rfl rfl ?_; clear hF a; intro a hF
 refine WL_nil (hK _ _ ?_)
 clear hK K
 replace hF := hF.sub _ (c_ 4 rfl (n_))
 refine W_ret ?_
 refine ⟨_, _, hF, rfl, ?_⟩
 exact ⟨rfl, rfl⟩

theorem was8_ok {α : Type} (s : Option α) (b : Bool) (w : World) (h : b = s.isSome) : Ret Try.prog 37 [.int .i64 (errV s), .bool b] w fun v w' => v = .bool true ∧ w' = w := by
 subst h
 cases s with
 | none => exact was8_none w
 | some x => exact was8_some w

set_option maxRecDepth 100000 in
set_option maxHeartbeats 1000000 in
theorem CauchyTells_ok (B M : Nat) (lg : Bool) (p0 : Option Addr) (c0 : Nat) (l0 : List Int) (p1 : Option Addr) (c1 : Nat) (l1 : List Int) (n0 n1 : Int) (w : World) (hI : Inv FDx B w) (hM : M ≤ w.heap.size) (hr0 : Row FDx B M w (.slice p0 l0.length c0) (zints l0)) (hb0 : ∀ z ∈ l0, (Lit.int .i64 z).wf = true) (hl0 : l0.length ≤ maxLen) (hr1 : Row FDx B M w (.slice p1 l1.length c1) (zints l1)) (hb1 : ∀ z ∈ l1, (Lit.int .i64 z).wf = true) (hl1 : l1.length ≤ maxLen) (hn0 : -9223372036854775808 ≤ n0 ∧ n0 < 9223372036854775808) (hn1 : -9223372036854775808 ≤ n1 ∧ n1 < 9223372036854775808) : Ret Try.prog 10 [.bool lg, .agg #[.slice p0 l0.length c0, .slice p1 l1.length c1], .agg #[.int .i64 n0, .int .i64 n1]] w fun v w' => v = .bool true ∧ St FDx B w w' := by
 refine enter 129 [(0, .bool lg), (1, .agg #[.slice p0 l0.length c0, .slice p1 l1.length c1]), (2, .agg #[.int .i64 n0, .int .i64 n1])] 6 Try.func10 rfl rfl rfl rfl rfl ?_; intro a hF
 have hS := St.refl hI
 replace hr0 := hr0.mono hM
 replace hr1 := hr1.mono hM
 have hl2 := hl0
 have hl3 := hl1
 simp only [maxLen] at hl2 hl3
 refine W_sr rfl (fun K hK => ?_)
 refine s_box (D := FDx) (B := B) hF rfl (by decide) hS.inv rfl ?_; clear hF a; intro w' a hm hbx hsz hF
 replace hr0 := (hr0.mb hm (fun _ h => by cases h)).mono hm.size
 replace hr1 := (hr1.mb hm (fun _ h => by cases h)).mono hm.size
 replace hS := hS.mb0 hm
 clear hm
 refine s_box (D := FDx) (B := B) hF rfl (by decide) hS.inv rfl ?_; clear hF a; intro w' a hm hby hsz hF
 replace hr0 := (hr0.mb hm (fun _ h => by cases h)).mono hm.size
 replace hr1 := (hr1.mb hm (fun _ h => by cases h)).mono hm.size
 replace hbx := hbx.mb hm (by simp)
 replace hS := hS.mb0 hm
 clear hm
 refine sv hF (v_assign rfl) rfl ?_; clear hF a; intro a hF
 refine WL_nil (hK _ _ ?_)
 clear hK K
 replace hF := hF.sub _ (c_ 6 rfl (c_ 5 rfl (c_ 4 rfl (c_ 0 rfl (n_)))))
 refine W_sr rfl (fun K hK => ?_)
 refine sc hF rfl rfl rfl en22 rfl (aw08_ok B _ hS.inv) ?_; clear hF a; intro v w' a hv hF
 obtain ⟨rfl, hS'⟩ := hv
 replace hr0 := (hr0.st hS').mono hS'.ext.size
 replace hr1 := (hr1.st hS').mono hS'.ext.size
 replace hbx := hbx.st (by decide) hS'
 replace hby := hby.st (by decide) hS'
 replace hS := hS.trans hS'
 clear hS'
 refine sv hF (v_assign rfl) rfl ?_; clear hF a; intro a hF
 refine WL_nil (hK _ _ ?_)
 clear hK K
 replace hF := hF.sub _ (c_ 7 rfl (c_ 6 rfl (c_ 5 rfl (c_ 4 rfl (c_ 0 rfl (n_))))))
 refine W_seq ?_
 refine W_sr rfl (fun K hK => ?_)
 refine sv hF (v_ixA ar59 rfl rfl (by omega) (by omega)) rfl ?_; clear hF a; intro a hF
 refine sv hF (v_load sc37 rfl (hbx.at 0 rfl)) rfl ?_; clear hF a; intro a hF
 refine sv hF (v_lenS rfl sl37 rfl) rfl ?_; clear hF a; intro a hF
 refine sb hF (v_gtr rfl rfl) rfl ?_ ?_
 ·
  clear hF a; intro hc1 a hF
  try simp only [dcl] at hc1
  refine sv hF (v_move rfl) rfl ?_; clear hF a; intro a hF
  refine svn hF rfl rfl rfl ?_; clear hF a; intro a hF
  refine svn hF rfl rfl rfl ?_; clear hF a; intro a hF
  refine svn hF rfl rfl rfl ?_; clear hF a; intro a hF
  refine svn hF rfl rfl rfl ?_; clear hF a; intro a hF
  refine sv hF (v_pickT rfl rfl) rfl ?_; clear hF a; intro a hF
  refine WL_nil (hK _ _ ?_)
  clear hK K
  replace hF := hF.sub _ (c_ 33 rfl (c_ 7 rfl (c_ 6 rfl (c_ 5 rfl (c_ 4 rfl (c_ 0 rfl (n_)))))))
  refine W_ifT hF rfl ?_
  refine W_sr rfl (fun K hK => ?_)
  refine sv2 hF (v_move rfl) (v_assign rfl) rfl rfl ?_; clear hF a; intro a hF
  refine WL_nil (hK _ _ ?_)
  clear hK K
  replace hF := hF.sub _ (c_ 6 rfl (c_ 7 rfl (c_ 5 rfl (c_ 4 rfl (c_ 0 rfl (n_))))))
  refine W_ret ?_
  refine ⟨_, _, hF, rfl, ?_⟩
  exact ⟨rfl, hS⟩
 ·
  clear hF a; intro hc1 a hF
  try simp only [dcl] at hc1
  refine sv hF (v_move rfl) rfl ?_; clear hF a; intro a hF
  refine svg hF rfl ?_
  refine sv hF (v_ixA ar59 rfl rfl (by omega) (by omega)) rfl ?_; clear hF a; intro a hF
  refine svg hF rfl ?_
  refine sv hF (v_load sc37 rfl (hbx.at 1 rfl)) rfl ?_; clear hF a; intro a hF
  refine svg hF rfl ?_
  refine sv hF (v_lenS rfl sl37 rfl) rfl ?_; clear hF a; intro a hF
  refine svg hF rfl ?_
  refine sv hF (v_gtr rfl rfl) rfl ?_; clear hF a; intro a hF
  refine sv hF (v_pickF rfl rfl) rfl ?_; clear hF a; intro a hF
  refine WL_nil (hK _ _ ?_)
  clear hK K
  replace hF := hF.sub _ (c_ 33 rfl (c_ 7 rfl (c_ 6 rfl (c_ 5 rfl (c_ 4 rfl (c_ 0 rfl (n_)))))))
  refine W_if hF rfl (fun hc2 => ?_) (fun hc2 => ?_)
  ·
   skip
   try simp only [dcl] at hc2
   refine W_sr rfl (fun K hK => ?_)
   refine sv2 hF (v_move rfl) (v_assign rfl) rfl rfl ?_; clear hF a; intro a hF
   refine WL_nil (hK _ _ ?_)
   clear hK K
   replace hF := hF.sub _ (c_ 6 rfl (c_ 7 rfl (c_ 5 rfl (c_ 4 rfl (c_ 0 rfl (n_))))))
   refine W_ret ?_
   refine ⟨_, _, hF, rfl, ?_⟩
   exact ⟨rfl, hS⟩
  ·
   skip
   try simp only [dcl] at hc2
   refine W_skip ?_
   refine W_sr rfl (fun K hK => ?_)
   refine sv hF (v_move rfl) rfl ?_; clear hF a; intro a hF
   refine sc hF rfl rfl rfl en23 rfl (field8_ok B lg _ hS.inv) ?_; clear hF a; intro v w' a hv hF
   obtain ⟨fv, rfl, hf, hS'⟩ := hv
   obtain ⟨⟨wb, p⟩, hq⟩ : ∃ q, fq lg = q := ⟨_, rfl⟩
   have hq1 : (fq lg).1 = wb := by rw [hq]
   have hq2 : (fq lg).2 = p := by rw [hq]
   rw [hq] at hf
   rw [hq1, hq2] at hF
   clear hq1 hq2
   have hp : Prm wb p := hf.1
   replace hr0 := (hr0.st hS').mono hS'.ext.size
   replace hr1 := (hr1.st hS').mono hS'.ext.size
   replace hbx := hbx.st (by decide) hS'
   replace hby := hby.st (by decide) hS'
   replace hS := hS.trans hS'
   clear hS'
   refine sv6 hF (v_move rfl) (v_ext rfl rfl) (v_ext rfl rfl) (v_ext rfl rfl) (v_assign rfl) (v_assign rfl) rfl rfl rfl rfl rfl rfl ?_; clear hF a; intro a hF
   refine sv hF (v_assign rfl) rfl ?_; clear hF a; intro a hF
   refine WL_nil (hK _ _ ?_)
   clear hK K
   replace hF := hF.sub _ (c_ 10 rfl (c_ 9 rfl (c_ 8 rfl (c_ 7 rfl (c_ 6 rfl (c_ 5 rfl (c_ 4 rfl (n_))))))))
   refine W_sr rfl (fun K hK => ?_)
   refine sv hF (v_move rfl) rfl ?_; clear hF a; intro a hF
   refine sv hF (v_ixA ar59 rfl rfl (by omega) (by omega)) rfl ?_; clear hF a; intro a hF
   refine sv hF (v_load sc37 rfl (hbx.at 0 rfl)) rfl ?_; clear hF a; intro a hF
   refine sv hF (v_ixA ar59 rfl rfl (by omega) (by omega)) rfl ?_; clear hF a; intro a hF
   refine sv hF (v_load sc37 rfl (hbx.at 1 rfl)) rfl ?_; clear hF a; intro a hF
   refine sc hF rfl rfl rfl en24 rfl (Of_ok B _ wb p hp fv _ _ _ _ l0 l1 _ hS.inv (Nat.le_refl _) hf hr0 hr1 ⟨hl0, hl1⟩) ?_; clear hF a; intro v w' a hv hF
   obtain ⟨obX, uX, rfl, hoX, hS'⟩ := hv
   obtain ⟨sX, cX, rfl, hX⟩ := hoX.mat (by decide) (Nat.zero_le _)
   clear hoX
   replace hr0 := (hr0.st hS').mono hS'.ext.size
   replace hr1 := (hr1.st hS').mono hS'.ext.size
   replace hbx := hbx.st (by decide) hS'
   replace hby := hby.st (by decide) hS'
   replace hf := hf.st hS'
   replace hS := hS.trans hS'
   clear hS'
   refine sv5 hF (v_move rfl) (v_ext rfl rfl) (v_ext rfl rfl) (v_assign rfl) (v_assign rfl) rfl rfl rfl rfl rfl ?_; clear hF a; intro a hF
   refine WL_nil (hK _ _ ?_)
   clear hK K
   replace hF := hF.sub _ (c_ 12 rfl (c_ 11 rfl (c_ 10 rfl (c_ 9 rfl (c_ 8 rfl (c_ 7 rfl (c_ 6 rfl (c_ 5 rfl (c_ 4 rfl (n_))))))))))
   refine W_sr rfl (fun K hK => ?_)
   refine sv2 hF (v_move rfl) (v_move rfl) rfl rfl ?_; clear hF a; intro a hF
   refine sv hF (v_ixA ar59 rfl rfl (by omega) (by omega)) rfl ?_; clear hF a; intro a hF
   refine sv hF (v_load sc37 rfl (hbx.at 0 rfl)) rfl ?_; clear hF a; intro a hF
   refine sv hF (v_ixA ar59 rfl rfl (by omega) (by omega)) rfl ?_; clear hF a; intro a hF
   refine sv hF (v_load sc37 rfl (hbx.at 1 rfl)) rfl ?_; clear hF a; intro a hF
   refine sc hF rfl rfl rfl en25 rfl (rOf_ok B _ wb p hp _ _ _ _ l0 l1 _ hS.inv (Nat.le_refl _) hr0 hr1 ⟨hl0, hl1⟩) ?_; clear hF a; intro v w' a hv hF
   obtain ⟨obY, uY, rfl, hoY, hS'⟩ := hv
   obtain ⟨sY, cY, rfl, hY⟩ := hoY.mat (by decide) (Nat.zero_le _)
   clear hoY
   replace hf := hf.st hS'
   replace hby := hby.st (by decide) hS'
   replace hX := (hX.st hS').mono hS'.ext.size
   replace hS := hS.trans hS'
   clear hS'
   refine sv5 hF (v_move rfl) (v_ext rfl rfl) (v_ext rfl rfl) (v_assign rfl) (v_assign rfl) rfl rfl rfl rfl rfl ?_; clear hF a; intro a hF
   refine WL_nil (hK _ _ ?_)
   clear hK K
   replace hF := hF.sub _ (c_ 14 rfl (c_ 13 rfl (c_ 12 rfl (c_ 11 rfl (c_ 10 rfl (c_ 9 rfl (c_ 8 rfl (c_ 7 rfl (c_ 6 rfl (c_ 5 rfl (n_)))))))))))
   refine W_sr rfl (fun K hK => ?_)
   refine sv hF (v_move rfl) rfl ?_; clear hF a; intro a hF
   refine sv hF (v_ixA ar60 rfl rfl (by omega) (by omega)) rfl ?_; clear hF a; intro a hF
   refine sv hF (v_load sc3 rfl (hby.at 0 rfl)) rfl ?_; clear hF a; intro a hF
   refine sv hF (v_ixA ar60 rfl rfl (by omega) (by omega)) rfl ?_; clear hF a; intro a hF
   refine sv hF (v_load sc3 rfl (hby.at 1 rfl)) rfl ?_; clear hF a; intro a hF
   refine sc hF rfl rfl rfl en33 rfl (Orig_ok B wb p hp fv n0 n1 _ hS.inv hf) ?_; clear hF a; intro v w' a hv hF
   obtain ⟨obC, uC, rfl, hoC, hS'⟩ := hv
   obtain ⟨sC, cC, rfl, hC⟩ := hoC.mat (by decide) (Nat.zero_le _)
   clear hoC
   replace hf := hf.st hS'
   replace hby := hby.st (by decide) hS'
   replace hX := (hX.st hS').mono hS'.ext.size
   replace hY := (hY.st hS').mono hS'.ext.size
   replace hS := hS.trans hS'
   clear hS'
   refine sv5 hF (v_move rfl) (v_ext rfl rfl) (v_ext rfl rfl) (v_assign rfl) (v_assign rfl) rfl rfl rfl rfl rfl ?_; clear hF a; intro a hF
   refine WL_nil (hK _ _ ?_)
   clear hK K
   replace hF := hF.sub _ (c_ 16 rfl (c_ 15 rfl (c_ 14 rfl (c_ 13 rfl (c_ 12 rfl (c_ 11 rfl (c_ 10 rfl (c_ 9 rfl (c_ 8 rfl (c_ 7 rfl (c_ 6 rfl (c_ 5 rfl (n_)))))))))))))
   refine W_sr rfl (fun K hK => ?_)
   refine sv2 hF (v_move rfl) (v_move rfl) rfl rfl ?_; clear hF a; intro a hF
   refine sv hF (v_ixA ar60 rfl rfl (by omega) (by omega)) rfl ?_; clear hF a; intro a hF
   refine sv hF (v_load sc3 rfl (hby.at 0 rfl)) rfl ?_; clear hF a; intro a hF
   refine sv hF (v_ixA ar60 rfl rfl (by omega) (by omega)) rfl ?_; clear hF a; intro a hF
   refine sv hF (v_load sc3 rfl (hby.at 1 rfl)) rfl ?_; clear hF a; intro a hF
   refine sc hF rfl rfl rfl en34 rfl (rOrig_ok B wb p hp n0 n1 _ hS.inv) ?_; clear hF a; intro v w' a hv hF
   obtain ⟨obD, uD, rfl, hoD, hS'⟩ := hv
   obtain ⟨sD, cD, rfl, hD⟩ := hoD.mat (by decide) (Nat.zero_le _)
   clear hoD
   replace hf := hf.st hS'
   replace hby := hby.st (by decide) hS'
   replace hX := (hX.st hS').mono hS'.ext.size
   replace hY := (hY.st hS').mono hS'.ext.size
   replace hC := (hC.st hS').mono hS'.ext.size
   replace hS := hS.trans hS'
   clear hS'
   refine sv5 hF (v_move rfl) (v_ext rfl rfl) (v_ext rfl rfl) (v_assign rfl) (v_assign rfl) rfl rfl rfl rfl rfl ?_; clear hF a; intro a hF
   refine WL_nil (hK _ _ ?_)
   clear hK K
   replace hF := hF.sub _ (c_ 18 rfl (c_ 17 rfl (c_ 16 rfl (c_ 15 rfl (c_ 14 rfl (c_ 13 rfl (c_ 12 rfl (c_ 11 rfl (c_ 10 rfl (c_ 9 rfl (c_ 8 rfl (c_ 7 rfl (c_ 6 rfl (c_ 5 rfl (n_)))))))))))))))
   refine W_sr rfl (fun K hK => ?_)
   refine sv hF (v_move rfl) rfl ?_; clear hF a; intro a hF
   refine sv hF (v_ixA ar60 rfl rfl (by omega) (by omega)) rfl ?_; clear hF a; intro a hF
   refine sv hF (v_load sc3 rfl (hby.at 0 rfl)) rfl ?_; clear hF a; intro a hF
   refine sv hF (v_ixA ar60 rfl rfl (by omega) (by omega)) rfl ?_; clear hF a; intro a hF
   refine sv hF (v_load sc3 rfl (hby.at 1 rfl)) rfl ?_; clear hF a; intro a hF
   refine sc hF rfl rfl rfl en35 rfl (CIsal_ok B wb p hp fv n0 n1 _ hS.inv hf) ?_; clear hF a; intro v w' a hv hF
   obtain ⟨obE, uE, rfl, hoE, hS'⟩ := hv
   obtain ⟨sE, cE, rfl, hE⟩ := hoE.mat (by decide) (Nat.zero_le _)
   clear hoE
   replace hf := hf.st hS'
   replace hby := hby.st (by decide) hS'
   replace hX := (hX.st hS').mono hS'.ext.size
   replace hY := (hY.st hS').mono hS'.ext.size
   replace hC := (hC.st hS').mono hS'.ext.size
   replace hD := (hD.st hS').mono hS'.ext.size
   replace hS := hS.trans hS'
   clear hS'
   refine sv5 hF (v_move rfl) (v_ext rfl rfl) (v_ext rfl rfl) (v_assign rfl) (v_assign rfl) rfl rfl rfl rfl rfl ?_; clear hF a; intro a hF
   refine WL_nil (hK _ _ ?_)
   clear hK K
   replace hF := hF.sub _ (c_ 20 rfl (c_ 19 rfl (c_ 18 rfl (c_ 17 rfl (c_ 16 rfl (c_ 15 rfl (c_ 14 rfl (c_ 13 rfl (c_ 12 rfl (c_ 11 rfl (c_ 10 rfl (c_ 9 rfl (c_ 7 rfl (c_ 6 rfl (c_ 5 rfl (n_))))))))))))))))
   refine W_sr rfl (fun K hK => ?_)
   refine sv2 hF (v_move rfl) (v_move rfl) rfl rfl ?_; clear hF a; intro a hF
   refine sv hF (v_ixA ar60 rfl rfl (by omega) (by omega)) rfl ?_; clear hF a; intro a hF
   refine sv hF (v_load sc3 rfl (hby.at 0 rfl)) rfl ?_; clear hF a; intro a hF
   refine sv hF (v_ixA ar60 rfl rfl (by omega) (by omega)) rfl ?_; clear hF a; intro a hF
   refine sv hF (v_load sc3 rfl (hby.at 1 rfl)) rfl ?_; clear hF a; intro a hF
   refine sc hF rfl rfl rfl en36 rfl (rCIsal_ok B wb p hp n0 n1 _ hS.inv) ?_; clear hF a; intro v w' a hv hF
   obtain ⟨obG, uG, rfl, hoG, hS'⟩ := hv
   obtain ⟨sG, cG, rfl, hG⟩ := hoG.mat (by decide) (Nat.zero_le _)
   clear hoG
   replace hf := hf.st hS'
   replace hby := hby.st (by decide) hS'
   replace hX := (hX.st hS').mono hS'.ext.size
   replace hY := (hY.st hS').mono hS'.ext.size
   replace hC := (hC.st hS').mono hS'.ext.size
   replace hD := (hD.st hS').mono hS'.ext.size
   replace hE := (hE.st hS').mono hS'.ext.size
   replace hS := hS.trans hS'
   clear hS'
   refine sv5 hF (v_move rfl) (v_ext rfl rfl) (v_ext rfl rfl) (v_assign rfl) (v_assign rfl) rfl rfl rfl rfl rfl ?_; clear hF a; intro a hF
   refine WL_nil (hK _ _ ?_)
   clear hK K
   replace hF := hF.sub _ (c_ 22 rfl (c_ 21 rfl (c_ 20 rfl (c_ 19 rfl (c_ 18 rfl (c_ 17 rfl (c_ 16 rfl (c_ 15 rfl (c_ 14 rfl (c_ 13 rfl (c_ 12 rfl (c_ 11 rfl (c_ 7 rfl (c_ 6 rfl (n_)))))))))))))))
   refine W_sr rfl (fun K hK => ?_)
   refine sv2 hF (v_move rfl) (v_move rfl) rfl rfl ?_; clear hF a; intro a hF
   refine svg hF rfl ?_
   refine sv hF (v_move rfl) rfl ?_; clear hF a; intro a hF
   refine svg hF rfl ?_
   refine sv hF (v_move rfl) rfl ?_; clear hF a; intro a hF
   refine svg hF rfl ?_
   refine sc hF rfl rfl rfl en37 rfl (was8_ok (ofM hp l0 l1) (ofM hp l0 l1).isSome _ rfl) ?_; clear hF a; intro v w' a hv hF
   obtain ⟨rfl, hw⟩ := hv
   obtain rfl := hw.symm
   have hS' := St.refl hS.inv
   replace hf := hf.st hS'
   replace hby := hby.st (by decide) hS'
   replace hX := (hX.st hS').mono hS'.ext.size
   replace hY := (hY.st hS').mono hS'.ext.size
   replace hC := (hC.st hS').mono hS'.ext.size
   replace hD := (hD.st hS').mono hS'.ext.size
   replace hE := (hE.st hS').mono hS'.ext.size
   replace hG := (hG.st hS').mono hS'.ext.size
   replace hS := hS.trans hS'
   clear hS'
   refine sv2 hF (v_pickT rfl rfl) (v_move rfl) rfl rfl ?_; clear hF a; intro a hF
   refine svg hF rfl ?_
   refine sv hF (v_move rfl) rfl ?_; clear hF a; intro a hF
   refine svg hF rfl ?_
   refine sv hF (v_move rfl) rfl ?_; clear hF a; intro a hF
   refine svg hF rfl ?_
   refine sc hF rfl rfl rfl en21 rfl (Same4_t B _ _ _ _ _ _ _ _ hS.inv hX hY (len1k (ofM_lens hp l0 l1)).1 (len1k (ofM_lens hp l0 l1)).2 rfl) ?_; clear hF a; intro v w' a hv hF
   obtain ⟨rfl, hS'⟩ := hv
   replace hf := hf.st hS'
   replace hby := hby.st (by decide) hS'
   replace hX := (hX.st hS').mono hS'.ext.size
   replace hY := (hY.st hS').mono hS'.ext.size
   replace hC := (hC.st hS').mono hS'.ext.size
   replace hD := (hD.st hS').mono hS'.ext.size
   replace hE := (hE.st hS').mono hS'.ext.size
   replace hG := (hG.st hS').mono hS'.ext.size
   replace hS := hS.trans hS'
   clear hS'
   refine sv2 hF (v_pickT rfl rfl) (v_move rfl) rfl rfl ?_; clear hF a; intro a hF
   refine svg hF rfl ?_
   refine sv hF (v_move rfl) rfl ?_; clear hF a; intro a hF
   refine svg hF rfl ?_
   refine sv hF (v_move rfl) rfl ?_; clear hF a; intro a hF
   refine svg hF rfl ?_
   refine sc hF rfl rfl rfl en37 rfl (was8_ok (origM hp n0 n1) (origM hp n0 n1).isSome _ rfl) ?_; clear hF a; intro v w' a hv hF
   obtain ⟨rfl, hw⟩ := hv
   obtain rfl := hw.symm
   have hS' := St.refl hS.inv
   replace hf := hf.st hS'
   replace hby := hby.st (by decide) hS'
   replace hX := (hX.st hS').mono hS'.ext.size
   replace hY := (hY.st hS').mono hS'.ext.size
   replace hC := (hC.st hS').mono hS'.ext.size
   replace hD := (hD.st hS').mono hS'.ext.size
   replace hE := (hE.st hS').mono hS'.ext.size
   replace hG := (hG.st hS').mono hS'.ext.size
   replace hS := hS.trans hS'
   clear hS'
   refine sv2 hF (v_pickT rfl rfl) (v_move rfl) rfl rfl ?_; clear hF a; intro a hF
   refine svg hF rfl ?_
   refine sv hF (v_move rfl) rfl ?_; clear hF a; intro a hF
   refine svg hF rfl ?_
   refine sv hF (v_move rfl) rfl ?_; clear hF a; intro a hF
   refine svg hF rfl ?_
   refine sc hF rfl rfl rfl en21 rfl (Same4_t B _ _ _ _ _ _ _ _ hS.inv hC hD (len1k (origM_lens hp n0 n1)).1 (len1k (origM_lens hp n0 n1)).2 rfl) ?_; clear hF a; intro v w' a hv hF
   obtain ⟨rfl, hS'⟩ := hv
   replace hf := hf.st hS'
   replace hby := hby.st (by decide) hS'
   replace hX := (hX.st hS').mono hS'.ext.size
   replace hY := (hY.st hS').mono hS'.ext.size
   replace hC := (hC.st hS').mono hS'.ext.size
   replace hD := (hD.st hS').mono hS'.ext.size
   replace hE := (hE.st hS').mono hS'.ext.size
   replace hG := (hG.st hS').mono hS'.ext.size
   replace hS := hS.trans hS'
   clear hS'
   refine sv2 hF (v_pickT rfl rfl) (v_move rfl) rfl rfl ?_; clear hF a; intro a hF
   refine svg hF rfl ?_
   refine sv hF (v_move rfl) rfl ?_; clear hF a; intro a hF
   refine svg hF rfl ?_
   refine sv hF (v_move rfl) rfl ?_; clear hF a; intro a hF
   refine svg hF rfl ?_
   refine sc hF rfl rfl rfl en37 rfl (was8_ok (cisaM hp n0 n1) (cisaM hp n0 n1).isSome _ rfl) ?_; clear hF a; intro v w' a hv hF
   obtain ⟨rfl, hw⟩ := hv
   obtain rfl := hw.symm
   have hS' := St.refl hS.inv
   replace hf := hf.st hS'
   replace hby := hby.st (by decide) hS'
   replace hX := (hX.st hS').mono hS'.ext.size
   replace hY := (hY.st hS').mono hS'.ext.size
   replace hC := (hC.st hS').mono hS'.ext.size
   replace hD := (hD.st hS').mono hS'.ext.size
   replace hE := (hE.st hS').mono hS'.ext.size
   replace hG := (hG.st hS').mono hS'.ext.size
   replace hS := hS.trans hS'
   clear hS'
   refine sv2 hF (v_pickT rfl rfl) (v_move rfl) rfl rfl ?_; clear hF a; intro a hF
   refine svg hF rfl ?_
   refine sv hF (v_move rfl) rfl ?_; clear hF a; intro a hF
   refine svg hF rfl ?_
   refine sv hF (v_move rfl) rfl ?_; clear hF a; intro a hF
   refine svg hF rfl ?_
   refine sc hF rfl rfl rfl en21 rfl (Same4_t B _ _ _ _ _ _ _ _ hS.inv hE hG (len1k (cisaM_lens hp n0 n1)).1 (len1k (cisaM_lens hp n0 n1)).2 rfl) ?_; clear hF a; intro v w' a hv hF
   obtain ⟨rfl, hS'⟩ := hv
   replace hf := hf.st hS'
   replace hby := hby.st (by decide) hS'
   replace hX := (hX.st hS').mono hS'.ext.size
   replace hY := (hY.st hS').mono hS'.ext.size
   replace hC := (hC.st hS').mono hS'.ext.size
   replace hD := (hD.st hS').mono hS'.ext.size
   replace hE := (hE.st hS').mono hS'.ext.size
   replace hG := (hG.st hS').mono hS'.ext.size
   replace hS := hS.trans hS'
   clear hS'
   refine sv2 hF (v_pickT rfl rfl) (v_assign rfl) rfl rfl ?_; clear hF a; intro a hF
   refine WL_nil (hK _ _ ?_)
   clear hK K
   replace hF := hF.sub _ (c_ 6 rfl (n_))
   refine W_ret ?_
   refine ⟨_, _, hF, rfl, ?_⟩
   exact ⟨rfl, hS⟩

end Go.Proofs.Ytaeljbdpjiciaaa
