/- Texts of the claim CauchyTells (part 9), put together in the order of their imports. -/
import Derived.Test.YtaeljbdpjiciaaaKCauchyTells8
/- The walks of gambrelref02: what the document asks of a field. -/
set_option linter.unusedVariables false
set_option linter.unusedSimpArgs false
namespace Go.Proofs.Ytaeljbdpjiciaaa
open Go Go.Gam


namespace FxFRef02
theorem en54 : Ent Try.prog 54 := ent Try.func54 (by kernel_rfl) (by kernel_rfl)
theorem en78 : Ent Try.prog 78 := ent Try.func78 (by kernel_rfl) (by kernel_rfl)
theorem en85 : Ent Try.prog 85 := ent Try.func85 (by kernel_rfl) (by kernel_rfl)
theorem en105 : Ent Try.prog 105 := ent Try.func105 (by kernel_rfl) (by kernel_rfl)
end FxFRef02
open FxFRef02

set_option maxRecDepth 100000 in
set_option maxHeartbeats 1000000 in
theorem rsize_ok (wb : Nat) (w : World) (hwb : wb ≤ 16) : Ret Try.prog 85 [.int .i64 (wb : Int)] w fun v w' => v = .int .i64 ((2 ^ wb : Nat) : Int) ∧ w' = w := by
 refine enter 13 [(0, .int .i64 (wb : Int))] 2 Try.func85 rfl rfl rfl rfl rfl ?_; intro a hF
 refine W_sr rfl (fun K hK => ?_)
 refine sv hF (v_assign rfl) rfl ?_; clear hF a; intro a hF
 refine WL_nil (hK _ _ ?_)
 clear hK K
 refine W_sr rfl (fun K hK => ?_)
 refine sv hF (v_assign rfl) rfl ?_; clear hF a; intro a hF
 refine WL_nil (hK _ _ ?_)
 clear hK K
 refine W_seq ?_
 refine W_sr rfl (fun K hK => ?_)
 refine sv hF (v_assign rfl) rfl ?_; clear hF a; intro a hF
 refine WL_nil (hK _ _ ?_)
 clear hK K
 refine W_block ?_
 refine W_loop (fun m a w1 => ∃ i : Nat, Fr 13 [(0, .int .i64 (wb : Int)), (3, .int .i64 ((2 ^ i : Nat) : Int)), (4, .int .i64 (i : Int))] a ∧ w = w1 ∧ i ≤ wb ∧ m + i = wb) (wb) ?_ ?_
 ·
  skip
  exact ⟨0, hF.sub _ (c_ 0 rfl (c_ 3 rfl (c_ 4 rfl n_))), rfl, by omega, by omega⟩
 ·
  skip
  clear hF
  rintro m a _ ⟨i, hF, rfl, hi, hm⟩
  refine W_seq ?_
  refine W_sr rfl (fun K hK => ?_)
  refine sv2 hF (v_move rfl) (v_move rfl) rfl rfl ?_; clear hF a; intro a hF
  refine sv hF (v_lss rfl rfl) rfl ?_; clear hF a; intro a hF
  refine WL_nil (hK _ _ ?_)
  clear hK K
  replace hF := hF.sub _ (c_ 7 rfl (c_ 0 rfl (c_ 3 rfl (c_ 4 rfl (n_)))))
  refine W_if hF rfl (fun hc1 => ?_) (fun hc1 => ?_)
  ·
   skip
   try simp only [dcl] at hc1
   refine W_skip ?_
   refine W_seq ?_
   refine W_block ?_
   have h16 := two_pow16 (d := i) (by omega)
   have hs : 2 ^ (i + 1) = 2 * 2 ^ i := by rw [Nat.pow_succ, Nat.mul_comm]
   refine W_reg rfl (fun K hK => ?_)
   refine sv hF (v_move rfl) rfl ?_; clear hF a; intro a hF
   refine sv hF ((v_mulI rfl rfl (by omega)).as (congrArg _ (show (2 : Int) * ((2 ^ i : Nat) : Int) = ((2 ^ (i + 1) : Nat) : Int) by omega))) rfl ?_; clear hF a; intro a hF
   refine sv hF (v_assign rfl) rfl ?_; clear hF a; intro a hF
   refine WL_nil (hK _ _ ?_)
   clear hK K
   replace hF := hF.sub _ (c_ 3 rfl (c_ 0 rfl (c_ 4 rfl (n_))))
   refine W_reg rfl (fun K hK => ?_)
   refine sv hF (v_move rfl) rfl ?_; clear hF a; intro a hF
   refine sv hF (v_addI rfl rfl (by omega)) rfl ?_; clear hF a; intro a hF
   refine sv hF (v_assign rfl) rfl ?_; clear hF a; intro a hF
   refine WL_nil (hK _ _ ?_)
   clear hK K
   exact ⟨m - 1, by omega, i + 1, hF.sub _ (c_ 0 rfl (c_ 3 rfl (c_ 4 rfl n_))), rfl, by omega, by omega⟩
  ·
   skip
   try simp only [dcl] at hc1
   refine W_exit rfl ?_
   refine W_sr rfl (fun K hK => ?_)
   refine sv2 hF (v_move rfl) (v_assign rfl) rfl rfl ?_; clear hF a; intro a hF
   refine WL_nil (hK _ _ ?_)
   clear hK K
   replace hF := hF.sub _ (c_ 2 rfl (c_ 12 rfl (c_ 0 rfl (c_ 3 rfl (c_ 4 rfl (n_))))))
   refine W_ret ?_
   refine ⟨_, _, hF, rfl, ?_⟩
   obtain rfl : i = wb := by omega
   exact ⟨rfl, rfl⟩

set_option maxRecDepth 100000 in
set_option maxHeartbeats 1000000 in
theorem rIn_ok (B wb p : Nat) (ia : Int) (w : World) (hI : Inv FDx B w) (hwb : wb ≤ 16) : Ret Try.prog 54 [.int .i64 (wb : Int), .int .i64 ia] w fun v w' => v = .bool (inF (some (wb, p)) ia) ∧ w' = w := by
 refine enter 13 [(0, .int .i64 (wb : Int)), (1, .int .i64 ia)] 4 Try.func54 rfl rfl rfl rfl rfl ?_; intro a hF
 refine W_sr rfl (fun K hK => ?_)
 refine sv hF (v_assign rfl) rfl ?_; clear hF a; intro a hF
 refine WL_nil (hK _ _ ?_)
 clear hK K
 refine W_sr rfl (fun K hK => ?_)
 refine sv hF (v_move rfl) rfl ?_; clear hF a; intro a hF
 refine sb hF (v_geq rfl rfl) rfl ?_ ?_
 ·
  clear hF a; intro hc1 a hF
  try simp only [dcl] at hc1
  refine sv hF (v_move rfl) rfl ?_; clear hF a; intro a hF
  refine svg hF rfl ?_
  refine sv hF (v_move rfl) rfl ?_; clear hF a; intro a hF
  refine svg hF rfl ?_
  refine sv hF (v_move rfl) rfl ?_; clear hF a; intro a hF
  refine svg hF rfl ?_
  refine sc hF rfl rfl rfl en85 rfl (rsize_ok wb _ (by omega)) ?_; clear hF a; intro v w' a hv hF
  obtain ⟨rfl, rfl⟩ := hv
  skip
  refine svg hF rfl ?_
  refine sv hF (v_lss rfl rfl) rfl ?_; clear hF a; intro a hF
  refine sv2 hF (v_pickT rfl rfl) (v_assign rfl) rfl rfl ?_; clear hF a; intro a hF
  refine WL_nil (hK _ _ ?_)
  clear hK K
  replace hF := hF.sub _ (c_ 4 rfl (n_))
  refine W_ret ?_
  refine ⟨_, _, hF, rfl, ?_⟩
  refine ⟨congrArg _ ?_, rfl⟩
  rw [Bool.eq_iff_iff, inF_some, decide_eq_true_iff]; omega
 ·
  clear hF a; intro hc1 a hF
  try simp only [dcl] at hc1
  refine sv hF (v_move rfl) rfl ?_; clear hF a; intro a hF
  refine svn hF rfl rfl rfl ?_; clear hF a; intro a hF
  refine svn hF rfl rfl rfl ?_; clear hF a; intro a hF
  refine svn hF rfl rfl rfl ?_; clear hF a; intro a hF
  refine svn hF rfl rfl rfl ?_; clear hF a; intro a hF
  refine sv2 hF (v_pickF rfl rfl) (v_assign rfl) rfl rfl ?_; clear hF a; intro a hF
  refine WL_nil (hK _ _ ?_)
  clear hK K
  replace hF := hF.sub _ (c_ 4 rfl (n_))
  refine W_ret ?_
  refine ⟨_, _, hF, rfl, ?_⟩
  refine ⟨congrArg _ (Eq.symm ?_), rfl⟩
  rw [Bool.eq_false_iff, Ne, inF_some]; omega

set_option maxRecDepth 100000 in
set_option maxHeartbeats 1000000 in
theorem rPow_gf (B wb p : Nat) (ia n : Int) (w : World) (hI : Inv FDx B w) (hp : Prm wb p) (hn : -9223372036854775808 ≤ n ∧ n < 9223372036854775808) : Ret Try.prog 78 [.int .i64 (wb : Int), .int .u32 (p : Int), .int .i64 ia, .int .i64 n] w fun v w' => v = .int .i64 (gpow (some (wb, p)) ia n) ∧ St FDx B w w' := by
 refine enter 24 [(0, .int .i64 (wb : Int)), (1, .int .u32 (p : Int)), (2, .int .i64 ia), (3, .int .i64 n)] 8 Try.func78 rfl rfl rfl rfl rfl ?_; intro a hF
 have hS := St.refl hI
 have hsz := hp.size
 have hwb : wb ≤ 16 := by have := hp.w; omega
 have hplt := hp.lt
 refine W_sr rfl (fun K hK => ?_)
 refine sv hF (v_assign rfl) rfl ?_; clear hF a; intro a hF
 refine WL_nil (hK _ _ ?_)
 clear hK K
 refine W_seq ?_
 refine W_sr rfl (fun K hK => ?_)
 refine sv2 hF (v_move rfl) (v_move rfl) rfl rfl ?_; clear hF a; intro a hF
 refine sc hF rfl rfl rfl en54 rfl (rIn_ok B wb p ia _ hS.inv (by omega)) ?_; clear hF a; intro v w' a hv hF
 obtain ⟨rfl, hw⟩ := hv
 obtain rfl := hw.symm
 have hS' := St.refl hS.inv
 replace hS := hS.trans hS'
 clear hS'
 refine sb hF (v_not rfl) rfl ?_ ?_
 ·
  clear hF a; intro hc1 a hF
  try simp only [dcl] at hc1
  refine sv hF (v_move rfl) rfl ?_; clear hF a; intro a hF
  refine svn hF rfl rfl rfl ?_; clear hF a; intro a hF
  refine svn hF rfl rfl rfl ?_; clear hF a; intro a hF
  refine sv hF (v_pickT rfl rfl) rfl ?_; clear hF a; intro a hF
  refine WL_nil (hK _ _ ?_)
  clear hK K
  replace hF := hF.sub _ (c_ 16 rfl (c_ 8 rfl (c_ 1 rfl (c_ 2 rfl (c_ 3 rfl (n_))))))
  refine W_ifT hF rfl ?_
  refine W_sr rfl (fun K hK => ?_)
  refine sv hF (v_assign rfl) rfl ?_; clear hF a; intro a hF
  refine WL_nil (hK _ _ ?_)
  clear hK K
  replace hF := hF.sub _ (c_ 8 rfl (c_ 1 rfl (c_ 2 rfl (c_ 3 rfl (n_)))))
  refine W_ret ?_
  refine ⟨_, _, hF, rfl, ?_⟩
  exact ⟨by rw [gpow_out (.inl hc1)], hS⟩
 ·
  clear hF a; intro hc1 a hF
  try simp only [dcl] at hc1
  refine sv hF (v_move rfl) rfl ?_; clear hF a; intro a hF
  refine svg hF rfl ?_
  refine sv hF (v_move rfl) rfl ?_; clear hF a; intro a hF
  refine svg hF rfl ?_
  refine sv hF (v_lss rfl rfl) rfl ?_; clear hF a; intro a hF
  refine sv hF (v_pickF rfl rfl) rfl ?_; clear hF a; intro a hF
  refine WL_nil (hK _ _ ?_)
  clear hK K
  replace hF := hF.sub _ (c_ 16 rfl (c_ 8 rfl (c_ 1 rfl (c_ 2 rfl (c_ 3 rfl (n_))))))
  refine W_if hF rfl (fun hc2 => ?_) (fun hc2 => ?_)
  ·
   skip
   try simp only [dcl] at hc2
   refine W_sr rfl (fun K hK => ?_)
   refine sv hF (v_assign rfl) rfl ?_; clear hF a; intro a hF
   refine WL_nil (hK _ _ ?_)
   clear hK K
   replace hF := hF.sub _ (c_ 8 rfl (c_ 1 rfl (c_ 2 rfl (c_ 3 rfl (n_)))))
   refine W_ret ?_
   refine ⟨_, _, hF, rfl, ?_⟩
   exact ⟨by rw [gpow_out (.inr (by omega))], hS⟩
  ·
   skip
   try simp only [dcl] at hc2
   refine W_skip ?_
   obtain ⟨x, rfl, hx⟩ := inF_nat hc1
   obtain ⟨m, rfl⟩ : ∃ m : Nat, n = (m : Int) := ⟨n.toNat, by omega⟩
   have hml := hp.pow_lt x m
   refine W_sr rfl (fun K hK => ?_)
   refine sv hF (v_move rfl) rfl ?_; clear hF a; intro a hF
   refine sv hF (v_cv Try.underlying3 Try.underlying24 rfl (wrap_u32 _ (by omega))) rfl ?_; clear hF a; intro a hF
   refine sv hF (v_move rfl) rfl ?_; clear hF a; intro a hF
   refine sv hF (v_cv Try.underlying3 Try.underlying115 rfl (wrap_u64 _ (by omega))) rfl ?_; clear hF a; intro a hF
   refine sv hF (v_move rfl) rfl ?_; clear hF a; intro a hF
   refine sc hF rfl rfl rfl en105 rfl (rPower_ok B x m p _ hS.inv (by omega) (by omega) (by omega)) ?_; clear hF a; intro v w' a hv hF
   obtain ⟨rfl, hS'⟩ := hv
   replace hS := hS.trans hS'
   clear hS'
   rw [powB_one] at hF
   refine sv hF (v_cv Try.underlying24 Try.underlying3 rfl (wrap_i64 _ (by omega))) rfl ?_; clear hF a; intro a hF
   refine sv hF (v_assign rfl) rfl ?_; clear hF a; intro a hF
   refine WL_nil (hK _ _ ?_)
   clear hK K
   replace hF := hF.sub _ (c_ 8 rfl (n_))
   refine W_ret ?_
   refine ⟨_, _, hF, rfl, ?_⟩
   exact ⟨by rw [gpow_in hx], hS⟩

set_option maxRecDepth 100000 in
set_option maxHeartbeats 1000000 in
theorem rInv_gf (B wb p : Nat) (ia : Int) (w : World) (hI : Inv FDx B w) (hp : Prm wb p) : Ret Try.prog 55 [.int .i64 (wb : Int), .int .u32 (p : Int), .int .i64 ia] w fun v w' => v = .tuple #[.int .i64 (ginv (some (wb, p)) ia), .bool (ginvb (some (wb, p)) ia)] ∧ St FDx B w w' := by
 refine enter2 23 [(0, .int .i64 (wb : Int)), (1, .int .u32 (p : Int)), (2, .int .i64 ia)] 6 7 Try.func55 rfl rfl rfl rfl rfl ?_; intro a hF
 have hS := St.refl hI
 have hsz := hp.size
 have hwb : wb ≤ 16 := by have := hp.w; omega
 have hplt := hp.lt
 refine W_sr rfl (fun K hK => ?_)
 refine sv2 hF (v_assign rfl) (v_assign rfl) rfl rfl ?_; clear hF a; intro a hF
 refine WL_nil (hK _ _ ?_)
 clear hK K
 refine W_seq ?_
 refine W_sr rfl (fun K hK => ?_)
 refine sv2 hF (v_move rfl) (v_move rfl) rfl rfl ?_; clear hF a; intro a hF
 refine sc hF rfl rfl rfl en54 rfl (rIn_ok B wb p ia _ hS.inv (by omega)) ?_; clear hF a; intro v w' a hv hF
 obtain ⟨rfl, hw⟩ := hv
 obtain rfl := hw.symm
 have hS' := St.refl hS.inv
 replace hS := hS.trans hS'
 clear hS'
 refine sb hF (v_not rfl) rfl ?_ ?_
 ·
  clear hF a; intro hc1 a hF
  try simp only [dcl] at hc1
  refine sv hF (v_move rfl) rfl ?_; clear hF a; intro a hF
  refine svn hF rfl rfl rfl ?_; clear hF a; intro a hF
  refine svn hF rfl rfl rfl ?_; clear hF a; intro a hF
  refine sv hF (v_pickT rfl rfl) rfl ?_; clear hF a; intro a hF
  refine WL_nil (hK _ _ ?_)
  clear hK K
  replace hF := hF.sub _ (c_ 15 rfl (c_ 7 rfl (c_ 6 rfl (c_ 0 rfl (c_ 1 rfl (c_ 2 rfl (n_)))))))
  refine W_ifT hF rfl ?_
  refine W_sr rfl (fun K hK => ?_)
  refine sv2 hF (v_assign rfl) (v_assign rfl) rfl rfl ?_; clear hF a; intro a hF
  refine WL_nil (hK _ _ ?_)
  clear hK K
  replace hF := hF.sub _ (c_ 7 rfl (c_ 6 rfl (c_ 0 rfl (c_ 1 rfl (c_ 2 rfl (n_))))))
  refine W_ret ?_
  refine ⟨_, _, _, hF, rfl, rfl, ?_⟩
  exact ⟨by rw [ginv_out (.inl hc1), ginvb_out (.inl hc1)], hS⟩
 ·
  clear hF a; intro hc1 a hF
  try simp only [dcl] at hc1
  refine sv hF (v_move rfl) rfl ?_; clear hF a; intro a hF
  refine svg hF rfl ?_
  refine sv hF (v_move rfl) rfl ?_; clear hF a; intro a hF
  refine svg hF rfl ?_
  refine sv hF (v_eql rfl rfl) rfl ?_; clear hF a; intro a hF
  refine sv hF (v_pickF rfl rfl) rfl ?_; clear hF a; intro a hF
  refine WL_nil (hK _ _ ?_)
  clear hK K
  replace hF := hF.sub _ (c_ 15 rfl (c_ 7 rfl (c_ 6 rfl (c_ 0 rfl (c_ 1 rfl (c_ 2 rfl (n_)))))))
  refine W_if hF rfl (fun hc2 => ?_) (fun hc2 => ?_)
  ·
   skip
   try simp only [dcl] at hc2
   refine W_sr rfl (fun K hK => ?_)
   refine sv2 hF (v_assign rfl) (v_assign rfl) rfl rfl ?_; clear hF a; intro a hF
   refine WL_nil (hK _ _ ?_)
   clear hK K
   replace hF := hF.sub _ (c_ 7 rfl (c_ 6 rfl (c_ 0 rfl (c_ 1 rfl (c_ 2 rfl (n_))))))
   refine W_ret ?_
   refine ⟨_, _, _, hF, rfl, rfl, ?_⟩
   exact ⟨by rw [ginv_out (.inr (by omega)), ginvb_out (.inr (by omega))], hS⟩
  ·
   skip
   try simp only [dcl] at hc2
   refine W_skip ?_
   refine W_sr rfl (fun K hK => ?_)
   refine sv4 hF (v_move rfl) (v_move rfl) (v_move rfl) (v_move rfl) rfl rfl rfl rfl ?_; clear hF a; intro a hF
   refine sc hF rfl rfl rfl en85 rfl (rsize_ok wb _ (by omega)) ?_; clear hF a; intro v w' a hv hF
   obtain ⟨rfl, hw⟩ := hv
   obtain rfl := hw.symm
   have hS' := St.refl hS.inv
   replace hS := hS.trans hS'
   clear hS'
   refine sv hF (v_subI rfl rfl (by omega)) rfl ?_; clear hF a; intro a hF
   refine sc hF rfl rfl rfl en78 rfl (rPow_gf B wb p ia _ _ hS.inv hp (by omega)) ?_; clear hF a; intro v w' a hv hF
   obtain ⟨rfl, hS'⟩ := hv
   replace hS := hS.trans hS'
   clear hS'
   refine sv2 hF (v_assign rfl) (v_assign rfl) rfl rfl ?_; clear hF a; intro a hF
   refine WL_nil (hK _ _ ?_)
   clear hK K
   replace hF := hF.sub _ (c_ 7 rfl (c_ 6 rfl (n_)))
   refine W_ret ?_
   refine ⟨_, _, _, hF, rfl, rfl, ?_⟩
   exact ⟨by rw [ginv_in hc1 (by omega), ginvb_in hc1 (by omega)]; rfl, hS⟩

end Go.Proofs.Ytaeljbdpjiciaaa

/- The walks of gambrelref04: what the document asks of matrices. -/
set_option linter.unusedVariables false
set_option linter.unusedSimpArgs false
namespace Go.Proofs.Ytaeljbdpjiciaaa
open Go Go.Gam


namespace FxFRef04
theorem en54 : Ent Try.prog 54 := ent Try.func54 (by kernel_rfl) (by kernel_rfl)
theorem hmix : Try.prog.follows .mixedOrders = true := by kernel_rfl
theorem sc3 : Scalar Try.prog 3 := ⟨_, Try.underlying3, by simp, by simp⟩
theorem sc37 : Scalar Try.prog 37 := ⟨_, Try.underlying37, by simp, by simp⟩
theorem sl27 : Sl Try.prog 27 37 (.slice none 0 0) 24 := sl_of Try.underlying27 rfl (by kernel_rfl)
theorem sl37 : Sl Try.prog 37 3 (.int .i64 0) 8 := sl_of Try.underlying37 rfl (by kernel_rfl)
end FxFRef04
open FxFRef04

set_option maxRecDepth 100000 in
set_option maxHeartbeats 1000000 in
theorem Same04_ok (B M : Nat) (pma : Option Addr) (cma : Nat) (ma : Mtx) (pmb : Option Addr) (cmb : Nat) (mb : Mtx) (w : World) (hI : Inv FDx B w) (hAma : Mat FDx B M w pma cma ma) (hAmb : Mat FDx B M w pmb cmb mb) (hlma : ma.length ≤ 1000) (hbma : ∀ r ∈ ma, r.length ≤ 1000) : Ret Try.prog 21 [.slice pma ma.length cma, .slice pmb mb.length cmb] w fun v w' => v = .bool (decide (ma = mb)) ∧ St FDx B w w' := by
 refine enter 53 [(0, .slice pma ma.length cma), (1, .slice pmb mb.length cmb)] 4 Try.func21 rfl rfl rfl rfl rfl ?_; intro a hF
 have hS := St.refl hI
 refine W_sr rfl (fun K hK => ?_)
 refine sv hF (v_assign rfl) rfl ?_; clear hF a; intro a hF
 refine WL_nil (hK _ _ ?_)
 clear hK K
 refine W_seq ?_
 refine W_sr rfl (fun K hK => ?_)
 refine sv hF (v_move rfl) rfl ?_; clear hF a; intro a hF
 refine sv hF (v_lenS rfl sl27 rfl) rfl ?_; clear hF a; intro a hF
 refine sv hF (v_move rfl) rfl ?_; clear hF a; intro a hF
 refine sv hF (v_lenS rfl sl27 rfl) rfl ?_; clear hF a; intro a hF
 refine sv hF (v_neq rfl rfl) rfl ?_; clear hF a; intro a hF
 refine WL_nil (hK _ _ ?_)
 clear hK K
 replace hF := hF.sub _ (c_ 11 rfl (c_ 4 rfl (c_ 0 rfl (c_ 1 rfl (n_)))))
 refine W_if hF rfl (fun hc1 => ?_) (fun hc1 => ?_)
 ·
  skip
  try simp only [dcl] at hc1
  refine W_sr rfl (fun K hK => ?_)
  refine sv hF (v_assign rfl) rfl ?_; clear hF a; intro a hF
  refine WL_nil (hK _ _ ?_)
  clear hK K
  replace hF := hF.sub _ (c_ 4 rfl (c_ 0 rfl (c_ 1 rfl (n_))))
  refine W_ret ?_
  refine ⟨_, _, hF, rfl, ?_⟩
  refine ⟨congrArg _ (Eq.symm (decide_eq_false ?_)), hS⟩
  rintro rfl
  omega
 ·
  skip
  try simp only [dcl] at hc1
  refine W_skip ?_
  refine W_seq ?_
  have hle : ma.length = mb.length := by omega
  refine W_sr rfl (fun K hK => ?_)
  refine sv hF (v_assign rfl) rfl ?_; clear hF a; intro a hF
  refine WL_nil (hK _ _ ?_)
  clear hK K
  replace hF := hF.sub _ (c_ 5 rfl (c_ 4 rfl (c_ 0 rfl (c_ 1 rfl (n_)))))
  refine W_block ?_
  refine W_loop (fun m a w1 => ∃ (i : Nat), Fr 53 [(0, .slice pma ma.length cma), (1, .slice pmb mb.length cmb), (5, .int .i64 (i : Int))] a ∧ (St FDx B w w1) ∧ (Mat FDx B M w1 pma cma ma) ∧ (Mat FDx B M w1 pmb cmb mb) ∧ (i ≤ ma.length) ∧ (ma.take i = mb.take i) ∧ (m + i = ma.length)) (ma.length) ?_ ?_
  ·
   skip
   exact ⟨0, hF.sub _ (c_ 0 rfl (c_ 1 rfl (c_ 5 rfl (n_)))), hS, hAma, hAmb, by omega, by simp, by omega⟩
  ·
   skip
   clear hF
   clear hS hAma hAmb
   rintro m a w1 ⟨i, hF, hS, hAma, hAmb, hi, hn, hm⟩
   refine W_seq ?_
   refine W_sr rfl (fun K hK => ?_)
   refine sv2 hF (v_move rfl) (v_move rfl) rfl rfl ?_; clear hF a; intro a hF
   refine sv hF (v_lenS rfl sl27 rfl) rfl ?_; clear hF a; intro a hF
   refine sv hF (v_lss rfl rfl) rfl ?_; clear hF a; intro a hF
   refine WL_nil (hK _ _ ?_)
   clear hK K
   replace hF := hF.sub _ (c_ 15 rfl (c_ 0 rfl (c_ 1 rfl (c_ 5 rfl (n_)))))
   refine W_if hF rfl (fun hc2 => ?_) (fun hc2 => ?_)
   ·
    skip
    try simp only [dcl] at hc2
    have hlt : i < ma.length := by omega
    obtain ⟨gma, oma, rfl⟩ := hAma.at1 (by omega)
    obtain ⟨gmb, omb, rfl⟩ := hAmb.at1 (by omega)
    obtain ⟨r, hr⟩ : ∃ z, ma[i]? = some z := ⟨_, List.getElem?_eq_getElem (by omega)⟩
    obtain ⟨pr, cr, hkr, hrowr, -⟩ := hAma.row2 hr
    obtain ⟨s, hs⟩ : ∃ z, mb[i]? = some z := ⟨_, List.getElem?_eq_getElem (by omega)⟩
    obtain ⟨ps, cs, hks, hrows, -⟩ := hAmb.row2 hs
    have hrl := hbma r (List.mem_of_getElem? hr)
    refine W_skip ?_
    refine W_seq ?_
    refine W_block ?_
    refine W_seq ?_
    refine W_sd (m := 11) rfl hmix hS.inv (fun K hK w1 hS' hh => ?_)
    replace hAma := hAma.st hS'
    replace hAmb := hAmb.st hS'
    replace hkr := hkr.st hS'
    replace hks := hks.st hS'
    replace hS := hS.trans hS'
    clear hS'
    clear hh
    refine a_v (i := 0) rfl (by kernel_rfl) hF (fun w2 hx => v_move rfl) rfl ?_; clear hF a; intro a hF
    refine a_v (i := 1) rfl (by kernel_rfl) hF (fun w2 hx => v_move rfl) rfl ?_; clear hF a; intro a hF
    refine a_v (i := 2) rfl (by kernel_rfl) hF (fun w2 hx => v_ixS sl27 rfl rfl (by omega) (by omega)) rfl ?_; clear hF a; intro a hF
    refine a_v (i := 3) rfl (by kernel_rfl) hF (fun w2 hx => v_load sc37 rfl (by rw [toNat_c]; exact hkr.ld hx)) rfl ?_; clear hF a; intro a hF
    refine a_v (i := 4) rfl (by kernel_rfl) hF (fun w2 hx => v_lenS rfl sl37 rfl) rfl ?_; clear hF a; intro a hF
    refine a_v (i := 5) rfl (by kernel_rfl) hF (fun w2 hx => v_move rfl) rfl ?_; clear hF a; intro a hF
    refine a_v (i := 6) rfl (by kernel_rfl) hF (fun w2 hx => v_move rfl) rfl ?_; clear hF a; intro a hF
    refine a_v (i := 7) rfl (by kernel_rfl) hF (fun w2 hx => v_ixS sl27 rfl rfl (by omega) (by omega)) rfl ?_; clear hF a; intro a hF
    refine a_v (i := 8) rfl (by kernel_rfl) hF (fun w2 hx => v_load sc37 rfl (by rw [toNat_c]; exact hks.ld hx)) rfl ?_; clear hF a; intro a hF
    refine a_v (i := 9) rfl (by kernel_rfl) hF (fun w2 hx => v_lenS rfl sl37 rfl) rfl ?_; clear hF a; intro a hF
    refine a_v (i := 10) rfl (by kernel_rfl) hF (fun w2 hx => v_neq rfl rfl) rfl ?_; clear hF a; intro a hF
    refine a_done (by kernel_rfl) (hK _ _ ?_)
    clear hK K
    replace hF := hF.sub _ (c_ 28 rfl (c_ 0 rfl (c_ 1 rfl (c_ 5 rfl (n_)))))
    refine W_if hF rfl (fun hc3 => ?_) (fun hc3 => ?_)
    ·
     skip
     try simp only [dcl] at hc3
     refine W_sr rfl (fun K hK => ?_)
     refine sv hF (v_assign rfl) rfl ?_; clear hF a; intro a hF
     refine WL_nil (hK _ _ ?_)
     clear hK K
     replace hF := hF.sub _ (c_ 4 rfl (c_ 0 rfl (c_ 1 rfl (c_ 5 rfl (n_)))))
     refine W_ret ?_
     refine ⟨_, _, hF, rfl, ?_⟩
     refine ⟨congrArg _ (Eq.symm (decide_eq_false ?_)), hS⟩
     rintro rfl
     rw [hr] at hs
     obtain rfl := Option.some.inj hs
     omega
    ·
     skip
     try simp only [dcl] at hc3
     refine W_skip ?_
     have hls : r.length = s.length := by omega
     refine W_sr rfl (fun K hK => ?_)
     refine sv hF (v_assign rfl) rfl ?_; clear hF a; intro a hF
     refine WL_nil (hK _ _ ?_)
     clear hK K
     replace hF := hF.sub _ (c_ 6 rfl (c_ 0 rfl (c_ 1 rfl (c_ 5 rfl (n_)))))
     refine W_block ?_
     refine W_loop (fun m2 a w2 => ∃ (j : Nat), Fr 53 [(0, .slice (some ⟨gma, oma, none⟩) ma.length cma), (1, .slice (some ⟨gmb, omb, none⟩) mb.length cmb), (5, .int .i64 (i : Int)), (6, .int .i64 (j : Int))] a ∧ (St FDx B w w2) ∧ (Mat FDx B M w2 (some ⟨gma, oma, none⟩) cma ma) ∧ (Mat FDx B M w2 (some ⟨gmb, omb, none⟩) cmb mb) ∧ (j ≤ r.length) ∧ (r.take j = s.take j) ∧ (m2 + j = r.length)) (r.length) ?_ ?_
     ·
      skip
      exact ⟨0, hF.sub _ (c_ 0 rfl (c_ 1 rfl (c_ 5 rfl (c_ 6 rfl (n_))))), hS, hAma, hAmb, by omega, by simp, by omega⟩
     ·
      skip
      clear hF
      clear hS hAma hAmb hkr hrowr hks hrows
      rintro m2 a w2 ⟨j, hF, hS, hAma, hAmb, hj, hn2, hm2⟩
      refine W_seq ?_
      obtain ⟨pr, cr, hkr, hrowr, -⟩ := hAma.row2 hr
      obtain ⟨ps, cs, hks, hrows, -⟩ := hAmb.row2 hs
      refine W_sr rfl (fun K hK => ?_)
      refine sv3 hF (v_move rfl) (v_move rfl) (v_move rfl) rfl rfl rfl ?_; clear hF a; intro a hF
      refine sv hF (v_ixS sl27 rfl rfl (by omega) (by omega)) rfl ?_; clear hF a; intro a hF
      refine sv hF (v_load sc37 rfl (by rw [toNat_c]; exact hkr.c)) rfl ?_; clear hF a; intro a hF
      refine sv hF (v_lenS rfl sl37 rfl) rfl ?_; clear hF a; intro a hF
      refine sv hF (v_lss rfl rfl) rfl ?_; clear hF a; intro a hF
      refine WL_nil (hK _ _ ?_)
      clear hK K
      replace hF := hF.sub _ (c_ 35 rfl (c_ 0 rfl (c_ 1 rfl (c_ 5 rfl (c_ 6 rfl (n_))))))
      refine W_if hF rfl (fun hc4 => ?_) (fun hc4 => ?_)
      ·
       skip
       try simp only [dcl] at hc4
       have hlt2 : j < r.length := by omega
       obtain ⟨x, hx⟩ : ∃ z, r[j]? = some z := ⟨_, List.getElem?_eq_getElem (by omega)⟩
       obtain ⟨gxx, oxx, hgxx, hkx, -⟩ := hrowr.kat (zints_at hx)
       subst hgxx
       obtain ⟨y, hy⟩ : ∃ z, s[j]? = some z := ⟨_, List.getElem?_eq_getElem (by omega)⟩
       obtain ⟨gxy, oxy, hgxy, hky, -⟩ := hrows.kat (zints_at hy)
       subst hgxy
       refine W_skip ?_
       refine W_seq ?_
       refine W_block ?_
       refine W_sd (m := 15) rfl hmix hS.inv (fun K hK w1 hS' hh => ?_)
       replace hAma := hAma.st hS'
       replace hAmb := hAmb.st hS'
       replace hkr := hkr.st hS'
       replace hks := hks.st hS'
       replace hkx := hkx.st hS'
       replace hky := hky.st hS'
       replace hS := hS.trans hS'
       clear hS'
       clear hh
       refine a_v (i := 0) rfl (by kernel_rfl) hF (fun w2 hx => v_move rfl) rfl ?_; clear hF a; intro a hF
       refine a_v (i := 1) rfl (by kernel_rfl) hF (fun w2 hx => v_move rfl) rfl ?_; clear hF a; intro a hF
       refine a_v (i := 2) rfl (by kernel_rfl) hF (fun w2 hx => v_ixS sl27 rfl rfl (by omega) (by omega)) rfl ?_; clear hF a; intro a hF
       refine a_v (i := 3) rfl (by kernel_rfl) hF (fun w2 hx => v_load sc37 rfl (by rw [toNat_c]; exact hkr.ld hx)) rfl ?_; clear hF a; intro a hF
       refine a_v (i := 4) rfl (by kernel_rfl) hF (fun w2 hx => v_move rfl) rfl ?_; clear hF a; intro a hF
       refine a_v (i := 5) rfl (by kernel_rfl) hF (fun w2 hx => v_ixS sl37 rfl rfl (by omega) (by omega)) rfl ?_; clear hF a; intro a hF
       refine a_v (i := 6) rfl (by kernel_rfl) hF (fun w2 hx => v_load sc3 rfl (by rw [toNat_c]; exact hkx.ld hx)) rfl ?_; clear hF a; intro a hF
       refine a_v (i := 7) rfl (by kernel_rfl) hF (fun w2 hx => v_move rfl) rfl ?_; clear hF a; intro a hF
       refine a_v (i := 8) rfl (by kernel_rfl) hF (fun w2 hx => v_move rfl) rfl ?_; clear hF a; intro a hF
       refine a_v (i := 9) rfl (by kernel_rfl) hF (fun w2 hx => v_ixS sl27 rfl rfl (by omega) (by omega)) rfl ?_; clear hF a; intro a hF
       refine a_v (i := 10) rfl (by kernel_rfl) hF (fun w2 hx => v_load sc37 rfl (by rw [toNat_c]; exact hks.ld hx)) rfl ?_; clear hF a; intro a hF
       refine a_v (i := 11) rfl (by kernel_rfl) hF (fun w2 hx => v_move rfl) rfl ?_; clear hF a; intro a hF
       refine a_v (i := 12) rfl (by kernel_rfl) hF (fun w2 hx => v_ixS sl37 rfl rfl (by omega) (by omega)) rfl ?_; clear hF a; intro a hF
       refine a_v (i := 13) rfl (by kernel_rfl) hF (fun w2 hx => v_load sc3 rfl (by rw [toNat_c]; exact hky.ld hx)) rfl ?_; clear hF a; intro a hF
       refine a_v (i := 14) rfl (by kernel_rfl) hF (fun w2 hx => v_neq rfl rfl) rfl ?_; clear hF a; intro a hF
       refine a_done (by kernel_rfl) (hK _ _ ?_)
       clear hK K
       replace hF := hF.sub _ (c_ 52 rfl (c_ 0 rfl (c_ 1 rfl (c_ 5 rfl (c_ 6 rfl (n_))))))
       refine W_if hF rfl (fun hc5 => ?_) (fun hc5 => ?_)
       ·
        skip
        try simp only [dcl] at hc5
        refine W_sr rfl (fun K hK => ?_)
        refine sv hF (v_assign rfl) rfl ?_; clear hF a; intro a hF
        refine WL_nil (hK _ _ ?_)
        clear hK K
        replace hF := hF.sub _ (c_ 4 rfl (c_ 0 rfl (c_ 1 rfl (c_ 5 rfl (c_ 6 rfl (n_))))))
        refine W_ret ?_
        refine ⟨_, _, hF, rfl, ?_⟩
        refine ⟨congrArg _ (Eq.symm (decide_eq_false ?_)), hS⟩
        rintro rfl
        rw [hr] at hs
        obtain rfl := Option.some.inj hs
        rw [hx] at hy
        obtain rfl := Option.some.inj hy
        omega
       ·
        skip
        try simp only [dcl] at hc5
        refine W_skip ?_
        refine W_reg rfl (fun K hK => ?_)
        refine sv hF (v_move rfl) rfl ?_; clear hF a; intro a hF
        refine sv hF (v_addI rfl rfl (by omega)) rfl ?_; clear hF a; intro a hF
        refine sv hF (v_assign rfl) rfl ?_; clear hF a; intro a hF
        refine WL_nil (hK _ _ ?_)
        clear hK K
        replace hF := hF.sub _ (c_ 6 rfl (c_ 37 rfl (c_ 36 rfl (c_ 0 rfl (c_ 1 rfl (c_ 5 rfl (n_)))))))
        exact ⟨m2 - 1, by omega, j + 1, hF.sub _ (c_ 0 rfl (c_ 1 rfl (c_ 5 rfl (c_ 6 rfl (n_))))), hS, hAma, hAmb, by omega, take_snoc_eq hn2 hx (by rw [hy]; congr 1; omega), by omega⟩
      ·
       skip
       try simp only [dcl] at hc4
       obtain rfl : j = r.length := by omega
       obtain rfl : r = s := by rw [List.take_length, List.take_of_length_le (by omega)] at hn2; exact hn2
       refine W_exit rfl ?_
       refine W_reg rfl (fun K hK => ?_)
       refine sv hF (v_move rfl) rfl ?_; clear hF a; intro a hF
       refine sv hF (v_addI rfl rfl (by omega)) rfl ?_; clear hF a; intro a hF
       refine sv hF (v_assign rfl) rfl ?_; clear hF a; intro a hF
       refine WL_nil (hK _ _ ?_)
       clear hK K
       replace hF := hF.sub _ (c_ 5 rfl (c_ 17 rfl (c_ 16 rfl (c_ 0 rfl (c_ 1 rfl (c_ 6 rfl (n_)))))))
       exact ⟨m - 1, by omega, i + 1, hF.sub _ (c_ 0 rfl (c_ 1 rfl (c_ 5 rfl (n_)))), hS, hAma, hAmb, by omega, take_snoc_eq hn hr hs, by omega⟩
   ·
    skip
    try simp only [dcl] at hc2
    refine W_exit rfl ?_
    refine W_sr rfl (fun K hK => ?_)
    refine sv hF (v_assign rfl) rfl ?_; clear hF a; intro a hF
    refine WL_nil (hK _ _ ?_)
    clear hK K
    replace hF := hF.sub _ (c_ 4 rfl (c_ 0 rfl (c_ 1 rfl (c_ 5 rfl (n_)))))
    refine W_ret ?_
    refine ⟨_, _, hF, rfl, ?_⟩
    refine ⟨congrArg _ (Eq.symm (decide_eq_true ?_)), hS⟩
    obtain rfl : i = ma.length := by omega
    rw [List.take_length, List.take_of_length_le (by omega)] at hn
    exact hn

end Go.Proofs.Ytaeljbdpjiciaaa

/- The walks of gambrelref04: identity, rows picked, joined, products. -/
set_option linter.unusedVariables false
set_option linter.unusedSimpArgs false
namespace Go.Proofs.Ytaeljbdpjiciaaa
open Go Go.Gam


namespace FxFRef04b
end FxFRef04b
open FxFRef04b

end Go.Proofs.Ytaeljbdpjiciaaa

/- The table of profiles. No program in sight. -/
set_option linter.unusedVariables false
set_option linter.unusedSimpArgs false
set_option linter.unusedSectionVars false
namespace Go.Gam

/-- A profile, cell by cell. -/
def prf (a b : UInt8) (bits poly : Int) (l : Int) (m : Int) : List Value := [.string ⟨#[a, b]⟩, .int .i64 bits, .int .u32 poly, .int .u8 l, .int .i64 m]
def prz : List Value := [.string ⟨#[]⟩, .int .i64 0, .int .u32 0, .int .u8 0, .int .i64 0]
def prN : Nat → List Value
  | 0 => prf 106 118 8 285 106 4
  | 1 => prf 106 99 16 69643 106 4
  | 2 => prf 105 114 8 285 105 3
  | 3 => prf 105 99 8 285 105 4
  | 4 => prf 98 98 8 285 98 4
  | _ => prf 107 112 8 285 112 4
def prAll : List Value := prN 0 ++ (prN 1 ++ (prN 2 ++ (prN 3 ++ (prN 4 ++ prN 5))))
def prOf (p : Int) : List Value := if 1 ≤ p ∧ p ≤ 6 then prN (p - 1).toNat else prz
def tagS : Nat → ByteArray
  | 0 => ⟨#[106, 118]⟩
  | 1 => ⟨#[106, 99]⟩
  | 2 => ⟨#[105, 114]⟩
  | 3 => ⟨#[105, 99]⟩
  | 4 => ⟨#[98, 98]⟩
  | _ => ⟨#[107, 112]⟩
/-- The first tag from i on that is s. -/
def tagR (s : ByteArray) : Nat → Nat → Int × Bool
  | _, 0 => (0, false)
  | i, d + 1 => if tagS i = s then (((i + 1 : Nat) : Int), true) else tagR s (i + 1) d
def maxM (p : Int) : Int := if p = 3 then 3 else 4
def mayP (p k m : Int) : Bool := decide (1 ≤ p ∧ p ≤ 6 ∧ 1 ≤ k ∧ k ≤ 8 ∧ 1 ≤ m ∧ m ≤ maxM p)
/-- A profile's field. -/
def pfl (p : Int) : Nat × Nat := if p = 2 then (16, 69643) else (8, 285)
section
variable {wb q : Nat} (hp : Prm wb q)
def behM (k m : Int) : Option Mtx := if fitB (some (wb, q)) k m = true then some (tab m.toNat k.toNat fun i j => sysT hp k.toNat (k.toNat + i) j) else none
end

/-! ### parity rows of a profile -/
theorem rnL_nodup (fr n : Nat) : (rnL fr n).Nodup := by
  unfold rnL
  rw [List.nodup_iff_pairwise_ne, List.pairwise_map]
  exact List.nodup_range.imp fun h e => h (by omega)
theorem rnL_mem {fr n : Nat} {z : Int} : z ∈ rnL fr n ↔ ∃ j, j < n ∧ z = ((fr + j : Nat) : Int) := by
  unfold rnL
  simp only [List.mem_map, List.mem_range]
  exact ⟨fun ⟨j, h, e⟩ => ⟨j, h, e.symm⟩, fun ⟨j, h, e⟩ => ⟨j, h, e.symm⟩⟩
theorem rn_ok {wb a n b m : Nat} (hw : wb = 8 ∨ wb = 16) (h1 : 1 ≤ n) (h2 : 1 ≤ m) (h3 : n + m ≤ 20) (hd : a + n = b ∧ a = 0 ∨ b + m = a ∧ b = 0) : ofB wb (rnL a n) (rnL b m) = true := by
  have hs : 2 ^ wb ≥ 256 := by rcases hw with h | h <;> rw [h] <;> decide
  refine ofB_ok (by rw [rnL_length, rnL_length]; omega) (List.nodup_append.2 ⟨rnL_nodup _ _, rnL_nodup _ _, fun x hx y hy e => ?_⟩) fun z hz => ?_
  · obtain ⟨i, hi, rfl⟩ := rnL_mem.1 hx
    obtain ⟨j, hj, rfl⟩ := rnL_mem.1 hy
    omega
  · rcases List.mem_append.1 hz with hz | hz <;> obtain ⟨i, hi, rfl⟩ := rnL_mem.1 hz <;> constructor <;> omega
section
variable {wb q : Nat} (hp : Prm wb q)
theorem cisaM_is {k m : Nat} (h1 : 1 ≤ k) (h2 : 1 ≤ m) (h3 : k + m ≤ 20) : cisaM hp (k : Int) (m : Int) = some (tab m k (ofT hp (rnL k m) (rnL 0 k))) := by
  unfold cisaM
  rw [if_pos (fitB_ok rfl h1 h2 h3), Int.toNat_natCast, Int.toNat_natCast, ofM_is hp (rn_ok hp.w (by omega) (by omega) (by omega) (by omega)), rnL_length, rnL_length]
end
def prT (p : Int) (k m : Nat) : Tb :=
  if p = 1 then parT prm_285 k m else if p = 2 then ofT prm_69643 (rnL 0 m) (rnL m k) else if p = 3 then isT (some (8, 285)) else if p = 4 then ofT prm_285 (rnL k m) (rnL 0 k) else fun i j => sysT prm_285 k (k + i) j
/-! ### plain laws of layer 9 -/
def fns (a b c d e f : FuncId) : List Value := [.func (.func a) #[] #[], .func (.func b) #[] #[], .func (.func c) #[] #[], .func (.func d) #[] #[], .func (.func e) #[] #[], .func (.func f) #[] #[]]
end Go.Gam

/- Plain laws of layer 8: which rows are safe. No program in sight. -/
set_option linter.unusedVariables false
set_option linter.unusedSimpArgs false
set_option linter.unusedSectionVars false
namespace Go.Gam
open Px

section
variable {wb p : Nat} (hp : Prm wb p)
theorem one_iv {f : Tb} (hb : hp.fld.Bd f) (h : f 0 0 ≠ 0) : ∃ g, hp.fld.iv 1 f = some g :=
  hp.fld.iv_ofR hb fun y hy h0 i hi => by
    obtain rfl : i = 0 := by omega
    have e := h0 0 (by omega)
    simp only [xsum, Nat.zero_xor] at e
    rcases hp.fld.nzd _ _ (hb 0 0) (hy 0) e with e | e
    · exact absurd e h
    · exact e
theorem ofB_is {x y : List Int} (h : ofB wb x y = true) : (1 ≤ x.length ∧ x.length ≤ 20 ∧ 1 ≤ y.length ∧ y.length ≤ 20) ∧ (x ++ y).Nodup ∧ ∀ z ∈ x ++ y, 0 ≤ z ∧ z < ((2 ^ wb : Nat) : Int) := by
  unfold ofB unl at h
  rw [Bool.and_eq_true, decide_eq_true_eq, decide_eq_true_eq] at h
  exact ⟨h.1, h.2⟩
end
theorem ofM_lens {wb p : Nat} (hp : Prm wb p) (x y : List Int) : ((ofM hp x y).getD []).length ≤ 20 ∧ ∀ r ∈ (ofM hp x y).getD [], r.length ≤ 20 := by
  cases e : ofB wb x y with
  | true => rw [ofM_is hp e]; have := (ofB_is e).1; exact tab_lens (by omega) (by omega)
  | false => rw [ofM_no hp e]; simp
theorem origM_lens {wb p : Nat} (hp : Prm wb p) (k m : Int) : ((origM hp k m).getD []).length ≤ 20 ∧ ∀ r ∈ (origM hp k m).getD [], r.length ≤ 20 := by
  unfold origM; split
  · exact ofM_lens hp _ _
  · simp
theorem cisaM_lens {wb p : Nat} (hp : Prm wb p) (k m : Int) : ((cisaM hp k m).getD []).length ≤ 20 ∧ ∀ r ∈ (cisaM hp k m).getD [], r.length ≤ 20 := by
  unfold cisaM; split
  · exact ofM_lens hp _ _
  · simp
/-! ### the smallest ones -/
theorem inv_1 : prm_285.fld.inv 1 = 1 := prm_285.fld.one_pow _
theorem inv_2 : prm_285.fld.inv 2 = 142 := by
  have lt : ∀ x, x < 256 → x < 2 ^ prm_285.fld.w := fun x h => by rw [prm_285.fld_w]; exact h
  refine prm_285.fld.cancel (c := 2) (prm_285.fld.inv_lt _) (lt _ (by decide)) (lt _ (by decide)) (by decide) ?_
  rw [prm_285.fld.inv_mul (lt _ (by decide)) (by decide)]
  show 1 = Px.mulMod 142 2 285
  decide +kernel
theorem aw8_isal : cisaM prm_285 1 1 = some [[1]] := by
  have h := cisaM_is prm_285 (k := 1) (m := 1) (by decide) (by decide) (by decide)
  refine h.trans ?_
  show some [[((prm_285.fld.inv 1 : Nat) : Int)]] = _
  rw [inv_1]; rfl
theorem aw8_of : ofM prm_285 [0] [1, 2] = some [[1, 142]] := by
  rw [ofM_is prm_285 (by decide)]
  show some [[((prm_285.fld.inv 1 : Nat) : Int), ((prm_285.fld.inv 2 : Nat) : Int)]] = _
  rw [inv_1, inv_2]; rfl
theorem aw8_may {a b c d : Int} (h : ∀ x ∈ [a, b, c, d], inF (some (8, 285)) x = true) : mayM (some (8, 285)) [[a, b], [c, d]] = true := (Bool.and_eq_true_iff.1 (by have := aw5_sq h; unfold sqM at this; exact this)).1
theorem aw8_no : safeM prm_285 [[1, 1], [1, 1]] = (false, 0) := by
  rw [safeM_is prm_285 (aw8_may (by decide)) (by decide) (by decide)]
  congr 1
  refine safeB_no prm_285 (s := 1) (R := [0, 1]) (C := [0, 1]) (by decide) (by decide) (by decide) fun h => ?_
  unfold okC at h
  have e : tab 2 2 (mnr (en [[1, 1], [1, 1]]) [0, 1] [0, 1]) = [[1, 1], [1, 1]] := by decide
  rw [e, aw5_no] at h
  exact absurd h (by decide)
theorem aw8_yes : safeM prm_285 [[1, 1], [1, 2]] = (true, 0) := by
  have hmay := aw8_may (a := 1) (b := 1) (c := 1) (d := 2) (by decide)
  have hx := (mayM_Mx hmay).1
  rw [safeM_is prm_285 hmay (by decide) (by decide)]
  congr 1
  refine (safeB_iff prm_285).2 fun s hs R hR C hC => ?_
  have hs2 : s = 0 ∨ s = 1 := by
    have : min ([[1, 1], [1, 2]] : Mtx).length (wid [[1, 1], [1, 2]]) = 2 := by decide
    omega
  have hbd := hx.bd prm_285
  rcases hs2 with rfl | rfl
  · have e : ch 2 1 0 = [[0], [1]] := by decide
    have hR2 : R ∈ ch 2 1 0 := hR
    have hC2 : C ∈ ch 2 1 0 := hC
    rw [e] at hR2 hC2
    simp only [List.mem_cons, List.mem_nil_iff, or_false] at hR2 hC2
    rcases hR2 with rfl | rfl <;> rcases hC2 with rfl | rfl <;> unfold okC
    · have e : tab 1 1 (mnr (en [[1, 1], [1, 2]]) [0] [0]) = tab 1 1 (fun _ _ => 1) := by decide
      rw [Nat.zero_add, e]; exact inv0 prm_285 (fun i j => by rw [prm_285.fld_w]; decide) (by decide) (by decide) (one_iv prm_285 (fun i j => by rw [prm_285.fld_w]; decide) (by decide))
    · have e : tab 1 1 (mnr (en [[1, 1], [1, 2]]) [0] [1]) = tab 1 1 (fun _ _ => 1) := by decide
      rw [Nat.zero_add, e]; exact inv0 prm_285 (fun i j => by rw [prm_285.fld_w]; decide) (by decide) (by decide) (one_iv prm_285 (fun i j => by rw [prm_285.fld_w]; decide) (by decide))
    · have e : tab 1 1 (mnr (en [[1, 1], [1, 2]]) [1] [0]) = tab 1 1 (fun _ _ => 1) := by decide
      rw [Nat.zero_add, e]; exact inv0 prm_285 (fun i j => by rw [prm_285.fld_w]; decide) (by decide) (by decide) (one_iv prm_285 (fun i j => by rw [prm_285.fld_w]; decide) (by decide))
    · have e : tab 1 1 (mnr (en [[1, 1], [1, 2]]) [1] [1]) = tab 1 1 (fun _ _ => 2) := by decide
      rw [Nat.zero_add, e]; exact inv0 prm_285 (fun i j => by rw [prm_285.fld_w]; decide) (by decide) (by decide) (one_iv prm_285 (fun i j => by rw [prm_285.fld_w]; decide) (by decide))
  · have e : ch 2 2 0 = [[0, 1]] := by decide
    have hR2 : R ∈ ch 2 2 0 := hR
    have hC2 : C ∈ ch 2 2 0 := hC
    rw [e] at hR2 hC2
    simp only [List.mem_cons, List.mem_nil_iff, or_false] at hR2 hC2
    subst hR2; subst hC2
    unfold okC
    have e : tab 2 2 (mnr (en [[1, 1], [1, 2]]) [0, 1] [0, 1]) = [[1, 1], [1, 2]] := by decide
    obtain ⟨x, hx, -⟩ := aw5_inv
    show (invR prm_285 (tab 2 2 (mnr (en [[1, 1], [1, 2]]) [0, 1] [0, 1]))).1 = 0
    rw [e, hx]
end Go.Gam

/- What the statements of layer 8 call first. -/
set_option linter.unusedVariables false
set_option linter.unusedSimpArgs false
namespace Go.Proofs.Ytaeljbdpjiciaaa
open Go Go.Gam


namespace FxFAw08
theorem en21 : Ent Try.prog 21 := ent Try.func21 (by kernel_rfl) (by kernel_rfl)
theorem en23 : Ent Try.prog 23 := ent Try.func23 (by kernel_rfl) (by kernel_rfl)
theorem en24 : Ent Try.prog 24 := ent Try.func24 (by kernel_rfl) (by kernel_rfl)
theorem en26 : Ent Try.prog 26 := ent Try.func26 (by kernel_rfl) (by kernel_rfl)
theorem en35 : Ent Try.prog 35 := ent Try.func35 (by kernel_rfl) (by kernel_rfl)
theorem en41 : Ent Try.prog 41 := ent Try.func41 (by kernel_rfl) (by kernel_rfl)
theorem sl27 : Sl Try.prog 27 37 (.slice none 0 0) 24 := sl_of Try.underlying27 rfl (by kernel_rfl)
theorem sl28 : Sl Try.prog 28 37 (.slice none 0 0) 24 := sl_of Try.underlying28 rfl (by kernel_rfl)
theorem sl37 : Sl Try.prog 37 3 (.int .i64 0) 8 := sl_of Try.underlying37 rfl (by kernel_rfl)
end FxFAw08
open FxFAw08

theorem Same4_t (B M : Nat) (pma : Option Addr) (cma : Nat) (ma : Mtx) (pmb : Option Addr) (cmb : Nat) (mb : Mtx) (w : World) (hI : Inv FDx B w) (hAma : Mat FDx B M w pma cma ma) (hAmb : Mat FDx B M w pmb cmb mb) (hlma : ma.length ≤ 1000) (hbma : ∀ r ∈ ma, r.length ≤ 1000) (e : ma = mb) :
  Ret Try.prog 21 [.slice pma ma.length cma, .slice pmb mb.length cmb] w fun v w' => v = .bool true ∧ St FDx B w w' :=
 (Same04_ok B M pma cma ma pmb cmb mb w hI hAma hAmb hlma hbma).mono fun v w' h => by rw [decide_eq_true e] at h; exact h

set_option maxRecDepth 100000 in
set_option maxHeartbeats 1000000 in
theorem field8_ok (B : Nat) (lg : Bool) (w : World) (hI : Inv FDx B w) : Ret Try.prog 23 [.bool lg] w fun v w' => ∃ fv, v = .tuple #[fv, .int .i64 ((fq lg).1 : Int), .int .u32 ((fq lg).2 : Int)] ∧ Fo FDx B w' fv (some (fq lg)) ∧ St FDx B w w' := by
 refine enter3 8 [(0, .bool lg)] 2 3 4 Try.func23 rfl rfl rfl rfl rfl ?_; intro a hF
 have hS := St.refl hI
 refine W_sr rfl (fun K hK => ?_)
 refine sv3 hF (v_assign rfl) (v_assign rfl) (v_assign rfl) rfl rfl rfl ?_; clear hF a; intro a hF
 refine WL_nil (hK _ _ ?_)
 clear hK K
 refine W_seq ?_
 refine W_sr rfl (fun K hK => ?_)
 refine sv hF (v_move rfl) rfl ?_; clear hF a; intro a hF
 refine WL_nil (hK _ _ ?_)
 clear hK K
 replace hF := hF.sub _ (c_ 5 rfl (c_ 4 rfl (c_ 3 rfl (c_ 2 rfl (n_)))))
 refine W_if hF rfl (fun hc1 => ?_) (fun hc1 => ?_)
 ·
  skip
  try simp only [dcl] at hc1
  obtain rfl : lg = true := by assumption
  refine W_sr rfl (fun K hK => ?_)
  refine sc hF rfl rfl rfl en41 rfl (New_ok B 16 69643 _ hS.inv (by decide) (by decide)) ?_; clear hF a; intro v w' a hv hF
  obtain ⟨hf, hS'⟩ := hv
  obtain ⟨fv, rfl⟩ : ∃ x, x = v := ⟨_, rfl⟩
  rw [show newF 16 69643 = some (16, 69643) from newF_p prm_69643] at hf
  replace hS := hS.trans hS'
  clear hS'
  refine sv3 hF (v_assign rfl) (v_assign rfl) (v_assign rfl) rfl rfl rfl ?_; clear hF a; intro a hF
  refine WL_nil (hK _ _ ?_)
  clear hK K
  replace hF := hF.sub _ (c_ 4 rfl (c_ 3 rfl (c_ 2 rfl (n_))))
  refine W_ret ?_
  refine ⟨_, _, _, _, hF, rfl, rfl, rfl, ?_⟩
  exact ⟨fv, rfl, hf, hS⟩
 ·
  skip
  try simp only [dcl] at hc1
  obtain rfl : lg = false := by assumption
  refine W_skip ?_
  refine W_sr rfl (fun K hK => ?_)
  refine sc hF rfl rfl rfl en41 rfl (New_ok B 8 285 _ hS.inv (by decide) (by decide)) ?_; clear hF a; intro v w' a hv hF
  obtain ⟨hf, hS'⟩ := hv
  obtain ⟨fv, rfl⟩ : ∃ x, x = v := ⟨_, rfl⟩
  rw [show newF 8 285 = some (8, 285) from newF_p prm_285] at hf
  replace hS := hS.trans hS'
  clear hS'
  refine sv3 hF (v_assign rfl) (v_assign rfl) (v_assign rfl) rfl rfl rfl ?_; clear hF a; intro a hF
  refine WL_nil (hK _ _ ?_)
  clear hK K
  replace hF := hF.sub _ (c_ 4 rfl (c_ 3 rfl (c_ 2 rfl (n_))))
  refine W_ret ?_
  refine ⟨_, _, _, _, hF, rfl, rfl, rfl, ?_⟩
  exact ⟨fv, rfl, hf, hS⟩

set_option maxRecDepth 100000 in
set_option maxHeartbeats 1000000 in
theorem aw08_ok (B : Nat) (w : World) (hI : Inv FDx B w) : Ret Try.prog 22 [] w fun v w' => v = .bool true ∧ St FDx B w w' := by
 refine enter 78 [] 0 Try.func22 rfl rfl rfl rfl rfl ?_; intro a hF
 have hS := St.refl hI
 refine W_sr rfl (fun K hK => ?_)
 refine sv hF (v_assign rfl) rfl ?_; clear hF a; intro a hF
 refine WL_nil (hK _ _ ?_)
 clear hK K
 refine W_sr rfl (fun K hK => ?_)
 refine sc hF rfl rfl rfl en23 rfl (field8_ok B false _ hS.inv) ?_; clear hF a; intro v w' a hv hF
 obtain ⟨fv, rfl, hf, hS'⟩ := hv
 rw [show fq false = (8, 285) from rfl] at hf
 replace hS := hS.trans hS'
 clear hS'
 refine sv6 hF (v_move rfl) (v_ext rfl rfl) (v_ext rfl rfl) (v_ext rfl rfl) (v_assign rfl) (v_assign rfl) rfl rfl rfl rfl rfl rfl ?_; clear hF a; intro a hF
 refine sv hF (v_assign rfl) rfl ?_; clear hF a; intro a hF
 refine WL_nil (hK _ _ ?_)
 clear hK K
 replace hF := hF.sub _ (c_ 1 rfl (c_ 0 rfl (n_)))
 refine W_sr rfl (fun K hK => ?_)
 refine sv hF (v_move rfl) rfl ?_; clear hF a; intro a hF
 refine sc hF rfl rfl rfl en35 rfl (CIsal_ok B 8 285 prm_285 fv 1 1 _ hS.inv hf) ?_; clear hF a; intro v w' a hv hF
 obtain ⟨obX, uX, rfl, hoX, hS'⟩ := hv
 rw [aw8_isal] at hoX hF
 try simp only [Option.getD_some, Option.getD_none] at hoX
 obtain ⟨sX, cX, rfl, hX⟩ := hoX.mat (by decide) (Nat.zero_le _)
 clear hoX
 replace hf := hf.st hS'
 replace hS := hS.trans hS'
 clear hS'
 refine sv5 hF (v_move rfl) (v_ext rfl rfl) (v_ext rfl rfl) (v_assign rfl) (v_assign rfl) rfl rfl rfl rfl rfl ?_; clear hF a; intro a hF
 refine WL_nil (hK _ _ ?_)
 clear hK K
 replace hF := hF.sub _ (c_ 5 rfl (c_ 4 rfl (c_ 1 rfl (c_ 0 rfl (n_)))))
 refine W_sr rfl (fun K hK => ?_)
 refine sv hF (v_move rfl) rfl ?_; clear hF a; intro a hF
 refine s_bs (D := FDx) (B := B) hF sl37 rfl rfl (by decide) (by simp [Value.cells]) (by decide) hS.inv rfl ?_; clear hF a; intro w' a hm hI' h1 hF
 replace hf := hf.mb hm
 replace hX := (hX.mb hm (fun _ h => by cases h)).mono hm.size
 replace hS := hS.mb0 hm
 clear hm hI'
 refine s_bs (D := FDx) (B := B) hF sl37 rfl rfl (by decide) (by simp [Value.cells]) (by decide) hS.inv rfl ?_; clear hF a; intro w' a hm hI' h2 hF
 replace hf := hf.mb hm
 replace hX := (hX.mb hm (fun _ h => by cases h)).mono hm.size
 replace h1 := h1.mb hm (fun _ _ => by simp)
 replace hS := hS.mb0 hm
 clear hm hI'
 refine sc hF rfl rfl rfl en24 rfl (Of_ok B _ 8 285 prm_285 fv _ _ 1 2 [0] [1, 2] _ hS.inv (Nat.le_refl _) hf ((h1.cast (ys := zints [0]) rfl).row (by decide)) ((h2.cast (ys := zints [1, 2]) rfl).row (by decide)) (by decide)) ?_; clear hF a; intro v w' a hv hF
 obtain ⟨obY, uY, rfl, hoY, hS'⟩ := hv
 rw [aw8_of] at hoY hF
 try simp only [Option.getD_some, Option.getD_none] at hoY
 obtain ⟨sY, cY, rfl, hY⟩ := hoY.mat (by decide) (Nat.zero_le _)
 clear hoY
 replace hf := hf.st hS'
 replace hX := (hX.st hS').mono hS'.ext.size
 replace hS := hS.trans hS'
 clear hS'
 refine sv5 hF (v_move rfl) (v_ext rfl rfl) (v_ext rfl rfl) (v_assign rfl) (v_assign rfl) rfl rfl rfl rfl rfl ?_; clear hF a; intro a hF
 refine WL_nil (hK _ _ ?_)
 clear hK K
 replace hF := hF.sub _ (c_ 7 rfl (c_ 6 rfl (c_ 5 rfl (c_ 4 rfl (c_ 1 rfl (c_ 0 rfl (n_)))))))
 refine W_sr rfl (fun K hK => ?_)
 refine sv hF (v_move rfl) rfl ?_; clear hF a; intro a hF
 refine s_bs (D := FDx) (B := B) hF sl37 rfl rfl (by decide) (by simp [Value.cells]) (by decide) hS.inv rfl ?_; clear hF a; intro w' a hm hI' h1 hF
 replace hf := hf.mb hm
 replace hX := (hX.mb hm (fun _ h => by cases h)).mono hm.size
 replace hY := (hY.mb hm (fun _ h => by cases h)).mono hm.size
 replace hS := hS.mb0 hm
 clear hm hI'
 refine s_bs (D := FDx) (B := B) hF sl37 rfl rfl (by decide) (by simp [Value.cells]) (by decide) hS.inv rfl ?_; clear hF a; intro w' a hm hI' h2 hF
 replace hf := hf.mb hm
 replace hX := (hX.mb hm (fun _ h => by cases h)).mono hm.size
 replace hY := (hY.mb hm (fun _ h => by cases h)).mono hm.size
 replace h1 := h1.mb hm (fun _ _ => by simp)
 replace hS := hS.mb0 hm
 clear hm hI'
 refine s_bs (D := FDx) (B := B) hF sl28 rfl rfl (by decide) (by simp [Value.cells]) (by decide) hS.inv rfl ?_; clear hF a; intro w' a hm hI' h3 hF
 replace hf := hf.mb hm
 replace hX := (hX.mb hm (fun _ h => by cases h)).mono hm.size
 replace hY := (hY.mb hm (fun _ h => by cases h)).mono hm.size
 replace h1 := h1.mb hm (fun _ _ => by simp)
 replace h2 := h2.mb hm (fun _ _ => by simp)
 replace hS := hS.mb0 hm
 clear hm hI'
 refine sc hF rfl rfl rfl en26 rfl (Safe_ok B _ 8 285 prm_285 fv _ _ [[1, 1], [1, 1]] _ hS.inv (Nat.le_refl _) hf (Mat.two h3 (by decide) ((h1.cast (ys := zints [1, 1]) rfl).row (by decide)) ((h2.cast (ys := zints [1, 1]) rfl).row (by decide))) (aw5_len _ _ _ _).1 (aw5_len _ _ _ _).2) ?_; clear hF a; intro v w' a hv hF
 obtain ⟨rfl, hS'⟩ := hv
 rw [aw8_no] at hF
 dsimp only at hF
 replace hf := hf.st hS'
 replace hX := (hX.st hS').mono hS'.ext.size
 replace hY := (hY.st hS').mono hS'.ext.size
 replace hS := hS.trans hS'
 clear hS'
 refine sv hF (v_move rfl) rfl ?_; clear hF a; intro a hF
 refine sv hF ((v_ext rfl rfl).as (congrArg Value.bool (rfl))) rfl ?_; clear hF a; intro a hF
 refine sv3 hF (v_ext rfl rfl) (v_assign rfl) (v_assign rfl) rfl rfl rfl ?_; clear hF a; intro a hF
 refine WL_nil (hK _ _ ?_)
 clear hK K
 replace hF := hF.sub _ (c_ 9 rfl (c_ 8 rfl (c_ 7 rfl (c_ 6 rfl (c_ 5 rfl (c_ 4 rfl (c_ 1 rfl (c_ 0 rfl (n_)))))))))
 refine W_sr rfl (fun K hK => ?_)
 refine sv hF (v_move rfl) rfl ?_; clear hF a; intro a hF
 refine s_bs (D := FDx) (B := B) hF sl37 rfl rfl (by decide) (by simp [Value.cells]) (by decide) hS.inv rfl ?_; clear hF a; intro w' a hm hI' h1 hF
 replace hf := hf.mb hm
 replace hX := (hX.mb hm (fun _ h => by cases h)).mono hm.size
 replace hY := (hY.mb hm (fun _ h => by cases h)).mono hm.size
 replace hS := hS.mb0 hm
 clear hm hI'
 refine s_bs (D := FDx) (B := B) hF sl37 rfl rfl (by decide) (by simp [Value.cells]) (by decide) hS.inv rfl ?_; clear hF a; intro w' a hm hI' h2 hF
 replace hf := hf.mb hm
 replace hX := (hX.mb hm (fun _ h => by cases h)).mono hm.size
 replace hY := (hY.mb hm (fun _ h => by cases h)).mono hm.size
 replace h1 := h1.mb hm (fun _ _ => by simp)
 replace hS := hS.mb0 hm
 clear hm hI'
 refine s_bs (D := FDx) (B := B) hF sl28 rfl rfl (by decide) (by simp [Value.cells]) (by decide) hS.inv rfl ?_; clear hF a; intro w' a hm hI' h3 hF
 replace hf := hf.mb hm
 replace hX := (hX.mb hm (fun _ h => by cases h)).mono hm.size
 replace hY := (hY.mb hm (fun _ h => by cases h)).mono hm.size
 replace h1 := h1.mb hm (fun _ _ => by simp)
 replace h2 := h2.mb hm (fun _ _ => by simp)
 replace hS := hS.mb0 hm
 clear hm hI'
 refine sc hF rfl rfl rfl en26 rfl (Safe_ok B _ 8 285 prm_285 fv _ _ [[1, 1], [1, 2]] _ hS.inv (Nat.le_refl _) hf (Mat.two h3 (by decide) ((h1.cast (ys := zints [1, 1]) rfl).row (by decide)) ((h2.cast (ys := zints [1, 2]) rfl).row (by decide))) (aw5_len _ _ _ _).1 (aw5_len _ _ _ _).2) ?_; clear hF a; intro v w' a hv hF
 obtain ⟨rfl, hS'⟩ := hv
 rw [aw8_yes] at hF
 dsimp only at hF
 replace hX := (hX.st hS').mono hS'.ext.size
 replace hY := (hY.st hS').mono hS'.ext.size
 replace hS := hS.trans hS'
 clear hS'
 refine sv hF (v_move rfl) rfl ?_; clear hF a; intro a hF
 refine sv hF ((v_ext rfl rfl).as (congrArg Value.bool (rfl))) rfl ?_; clear hF a; intro a hF
 refine sv3 hF (v_ext rfl rfl) (v_assign rfl) (v_assign rfl) rfl rfl rfl ?_; clear hF a; intro a hF
 refine WL_nil (hK _ _ ?_)
 clear hK K
 replace hF := hF.sub _ (c_ 11 rfl (c_ 10 rfl (c_ 9 rfl (c_ 8 rfl (c_ 7 rfl (c_ 6 rfl (c_ 5 rfl (c_ 4 rfl (c_ 0 rfl (n_))))))))))
 refine W_sr rfl (fun K hK => ?_)
 refine sv hF (v_move rfl) rfl ?_; clear hF a; intro a hF
 refine sv hF ((v_eql rfl rfl).as (congrArg Value.bool (decide_eq_true (rfl)))) rfl ?_; clear hF a; intro a hF
 refine sv hF (v_move rfl) rfl ?_; clear hF a; intro a hF
 refine svg hF rfl ?_
 refine sv hF (v_move rfl) rfl ?_; clear hF a; intro a hF
 refine svg hF rfl ?_
 refine sv hF ((v_eql rfl rfl).as (congrArg Value.bool (decide_eq_true (rfl)))) rfl ?_; clear hF a; intro a hF
 refine sv2 hF (v_pickT rfl rfl) (v_move rfl) rfl rfl ?_; clear hF a; intro a hF
 refine svg hF rfl ?_
 refine sv hF (v_move rfl) rfl ?_; clear hF a; intro a hF
 refine svg hF rfl ?_
 refine s_bs (D := FDx) (B := B) hF sl37 rfl rfl (by decide) (by simp [Value.cells]) (by decide) hS.inv rfl ?_; clear hF a; intro w' a hm hI' h1 hF
 replace hX := (hX.mb hm (fun _ h => by cases h)).mono hm.size
 replace hY := (hY.mb hm (fun _ h => by cases h)).mono hm.size
 replace hS := hS.mb0 hm
 clear hm hI'
 refine svg hF rfl ?_
 refine s_bs (D := FDx) (B := B) hF sl27 rfl rfl (by decide) (by simp [Value.cells]) (by decide) hS.inv rfl ?_; clear hF a; intro w' a hm hI' h2 hF
 replace hX := (hX.mb hm (fun _ h => by cases h)).mono hm.size
 replace hY := (hY.mb hm (fun _ h => by cases h)).mono hm.size
 replace h1 := h1.mb hm (fun _ _ => by simp)
 replace hS := hS.mb0 hm
 clear hm hI'
 refine svg hF rfl ?_
 refine sc hF rfl rfl rfl en21 rfl (Same4_t B _ _ _ [[1]] _ _ [[1]] _ hS.inv hX (Mat.one h2 (by decide) ((h1.cast (ys := zints [1]) rfl).row (by decide))) (by decide) (by intro r hr; simp at hr; subst hr; decide) rfl) ?_; clear hF a; intro v w' a hv hF
 obtain ⟨rfl, hS'⟩ := hv
 replace hY := (hY.st hS').mono hS'.ext.size
 replace hS := hS.trans hS'
 clear hS'
 refine sv2 hF (v_pickT rfl rfl) (v_move rfl) rfl rfl ?_; clear hF a; intro a hF
 refine svg hF rfl ?_
 refine sv hF (v_move rfl) rfl ?_; clear hF a; intro a hF
 refine svg hF rfl ?_
 refine s_bs (D := FDx) (B := B) hF sl37 rfl rfl (by decide) (by simp [Value.cells]) (by decide) hS.inv rfl ?_; clear hF a; intro w' a hm hI' h1 hF
 replace hY := (hY.mb hm (fun _ h => by cases h)).mono hm.size
 replace hS := hS.mb0 hm
 clear hm hI'
 refine svg hF rfl ?_
 refine s_bs (D := FDx) (B := B) hF sl27 rfl rfl (by decide) (by simp [Value.cells]) (by decide) hS.inv rfl ?_; clear hF a; intro w' a hm hI' h2 hF
 replace hY := (hY.mb hm (fun _ h => by cases h)).mono hm.size
 replace h1 := h1.mb hm (fun _ _ => by simp)
 replace hS := hS.mb0 hm
 clear hm hI'
 refine svg hF rfl ?_
 refine sc hF rfl rfl rfl en21 rfl (Same4_t B _ _ _ [[1, 142]] _ _ [[1, 142]] _ hS.inv hY (Mat.one h2 (by decide) ((h1.cast (ys := zints [1, 142]) rfl).row (by decide))) (by decide) (by intro r hr; simp at hr; subst hr; decide) rfl) ?_; clear hF a; intro v w' a hv hF
 obtain ⟨rfl, hS'⟩ := hv
 replace hS := hS.trans hS'
 clear hS'
 refine sv2 hF (v_pickT rfl rfl) (v_move rfl) rfl rfl ?_; clear hF a; intro a hF
 refine svg hF rfl ?_
 refine sv hF (v_move rfl) rfl ?_; clear hF a; intro a hF
 refine svg hF rfl ?_
 refine sv hF (v_not rfl) rfl ?_; clear hF a; intro a hF
 refine sv2 hF (v_pickT rfl rfl) (v_move rfl) rfl rfl ?_; clear hF a; intro a hF
 refine svg hF rfl ?_
 refine sv hF (v_move rfl) rfl ?_; clear hF a; intro a hF
 refine svg hF rfl ?_
 refine sv hF ((v_eql rfl rfl).as (congrArg Value.bool (decide_eq_true (rfl)))) rfl ?_; clear hF a; intro a hF
 refine sv2 hF (v_pickT rfl rfl) (v_move rfl) rfl rfl ?_; clear hF a; intro a hF
 refine svg hF rfl ?_
 refine sv3 hF (v_move rfl) (v_pickT rfl rfl) (v_move rfl) rfl rfl rfl ?_; clear hF a; intro a hF
 refine svg hF rfl ?_
 refine sv hF (v_move rfl) rfl ?_; clear hF a; intro a hF
 refine svg hF rfl ?_
 refine sv hF ((v_eql rfl rfl).as (congrArg Value.bool (decide_eq_true (rfl)))) rfl ?_; clear hF a; intro a hF
 refine sv2 hF (v_pickT rfl rfl) (v_assign rfl) rfl rfl ?_; clear hF a; intro a hF
 refine WL_nil (hK _ _ ?_)
 clear hK K
 replace hF := hF.sub _ (c_ 0 rfl (n_))
 refine W_ret ?_
 refine ⟨_, _, hF, rfl, ?_⟩
 exact ⟨rfl, hS⟩

end Go.Proofs.Ytaeljbdpjiciaaa

/- Rows that are gathered, one of them changed for another; what gambrelref05 reduces. No program in sight. -/
set_option linter.unusedVariables false
set_option linter.unusedSimpArgs false
set_option linter.unusedSectionVars false
namespace Go.Gam
open Px

section
variable {P : Program} {ops : Array Oper} {K' : Kont} {rest : List Oper} {n : NN} {F : Fs} {T : TypeId} {pp : String} {af : Array Edge} {v : Value} {d : Nat} {a : Act} {w : World} {x y : Operand} {D : FD} {B : Nat}
end
def pivI (f : Tb) (n c t : Nat) : Int := match Fld.piv f n c t (n - t) with | none => -1 | some k => (k : Int)
namespace Fld
variable (F : Fld)
end Fld
def xorZ (a b : List Int) : List Int := List.zipWith (fun x y => ((x.toNat ^^^ y.toNat : Nat) : Int)) a b
end Go.Gam

/- The walks of gambrelref05: rows times a number, two rows together, pivots, rows reduced. -/
set_option linter.unusedVariables false
set_option linter.unusedSimpArgs false
namespace Go.Proofs.Ytaeljbdpjiciaaa
open Go Go.Gam


namespace FxFRef05
end FxFRef05
open FxFRef05

end Go.Proofs.Ytaeljbdpjiciaaa

/- The walks of gambrelref04: products. -/
set_option linter.unusedVariables false
set_option linter.unusedSimpArgs false
namespace Go.Proofs.Ytaeljbdpjiciaaa
open Go Go.Gam


namespace FxFRef04c
end FxFRef04c
open FxFRef04c

end Go.Proofs.Ytaeljbdpjiciaaa

/- The walk of gambrelref04: Apply. -/
set_option linter.unusedVariables false
set_option linter.unusedSimpArgs false
namespace Go.Proofs.Ytaeljbdpjiciaaa
open Go Go.Gam


namespace FxFRef04d
end FxFRef04d
open FxFRef04d

end Go.Proofs.Ytaeljbdpjiciaaa

/- The walks of gambrelref05: inverses, ranks, what is solved. -/
set_option linter.unusedVariables false
set_option linter.unusedSimpArgs false
namespace Go.Proofs.Ytaeljbdpjiciaaa
open Go Go.Gam


namespace FxFRef05b
end FxFRef05b
open FxFRef05b

end Go.Proofs.Ytaeljbdpjiciaaa

/- The walks of gambrelref06: rows of powers. -/
set_option linter.unusedVariables false
set_option linter.unusedSimpArgs false
namespace Go.Proofs.Ytaeljbdpjiciaaa
open Go Go.Gam


namespace FxFRef06
end FxFRef06
open FxFRef06

set_option maxRecDepth 100000 in
set_option maxHeartbeats 1000000 in
theorem rFits_ok (wb p : Nat) (k m : Int) (w : World) : Ret Try.prog 43 [.int .i64 k, .int .i64 m] w fun v w' => v = .bool (fitB (some (wb, p)) k m) ∧ w' = w := by
 refine enter 25 [(0, .int .i64 k), (1, .int .i64 m)] 4 Try.func43 rfl rfl rfl rfl rfl ?_; intro a hF
 refine W_sr rfl (fun K hK => ?_)
 refine sv hF (v_assign rfl) rfl ?_; clear hF a; intro a hF
 refine WL_nil (hK _ _ ?_)
 clear hK K
 refine W_sr rfl (fun K hK => ?_)
 refine sv hF (v_move rfl) rfl ?_; clear hF a; intro a hF
 refine sb hF (v_geq rfl rfl) rfl ?_ ?_
 ·
  clear hF a; intro hc1 a hF
  try simp only [dcl] at hc1
  refine sv hF (v_move rfl) rfl ?_; clear hF a; intro a hF
  refine svg hF rfl ?_
  refine sv hF (v_move rfl) rfl ?_; clear hF a; intro a hF
  refine svg hF rfl ?_
  refine sb hF (v_leq rfl rfl) rfl ?_ ?_
  ·
   clear hF a; intro hc2 a hF
   try simp only [dcl] at hc2
   refine sv2 hF (v_pickT rfl rfl) (v_move rfl) rfl rfl ?_; clear hF a; intro a hF
   refine svg hF rfl ?_
   refine sv hF (v_move rfl) rfl ?_; clear hF a; intro a hF
   refine svg hF rfl ?_
   refine sb hF (v_geq rfl rfl) rfl ?_ ?_
   ·
    clear hF a; intro hc3 a hF
    try simp only [dcl] at hc3
    refine sv2 hF (v_pickT rfl rfl) (v_move rfl) rfl rfl ?_; clear hF a; intro a hF
    refine svg hF rfl ?_
    refine sv hF (v_move rfl) rfl ?_; clear hF a; intro a hF
    refine svg hF rfl ?_
    refine sb hF (v_leq rfl rfl) rfl ?_ ?_
    ·
     clear hF a; intro hc4 a hF
     try simp only [dcl] at hc4
     refine sv2 hF (v_pickT rfl rfl) (v_move rfl) rfl rfl ?_; clear hF a; intro a hF
     refine svg hF rfl ?_
     refine sv hF (v_move rfl) rfl ?_; clear hF a; intro a hF
     refine svg hF rfl ?_
     refine sv hF (v_move rfl) rfl ?_; clear hF a; intro a hF
     refine svg hF rfl ?_
     refine sv hF (v_addI rfl rfl (by omega)) rfl ?_; clear hF a; intro a hF
     refine svg hF rfl ?_
     refine sv hF (v_leq rfl rfl) rfl ?_; clear hF a; intro a hF
     refine sv2 hF (v_pickT rfl rfl) (v_assign rfl) rfl rfl ?_; clear hF a; intro a hF
     refine WL_nil (hK _ _ ?_)
     clear hK K
     replace hF := hF.sub _ (c_ 4 rfl (n_))
     refine W_ret ?_
     refine ⟨_, _, hF, rfl, ?_⟩
     refine ⟨congrArg Value.bool ?_, rfl⟩
     unfold fitB
     simp only [Option.isSome_some, Bool.true_and]
     first | (symm; rw [decide_eq_false_iff_not]; omega) | (rw [decide_eq_decide]; omega)
    ·
     clear hF a; intro hc4 a hF
     try simp only [dcl] at hc4
     refine sv2 hF (v_pickT rfl rfl) (v_move rfl) rfl rfl ?_; clear hF a; intro a hF
     refine svn hF rfl rfl rfl ?_; clear hF a; intro a hF
     refine svn hF rfl rfl rfl ?_; clear hF a; intro a hF
     refine svn hF rfl rfl rfl ?_; clear hF a; intro a hF
     refine svn hF rfl rfl rfl ?_; clear hF a; intro a hF
     refine sv2 hF (v_pickF rfl rfl) (v_assign rfl) rfl rfl ?_; clear hF a; intro a hF
     refine WL_nil (hK _ _ ?_)
     clear hK K
     replace hF := hF.sub _ (c_ 4 rfl (n_))
     refine W_ret ?_
     refine ⟨_, _, hF, rfl, ?_⟩
     refine ⟨congrArg Value.bool ?_, rfl⟩
     unfold fitB
     simp only [Option.isSome_some, Bool.true_and]
     first | (symm; rw [decide_eq_false_iff_not]; omega) | (rw [decide_eq_decide]; omega)
   ·
    clear hF a; intro hc3 a hF
    try simp only [dcl] at hc3
    refine sv2 hF (v_pickT rfl rfl) (v_move rfl) rfl rfl ?_; clear hF a; intro a hF
    refine svn hF rfl rfl rfl ?_; clear hF a; intro a hF
    refine svn hF rfl rfl rfl ?_; clear hF a; intro a hF
    refine sv2 hF (v_pickF rfl rfl) (v_move rfl) rfl rfl ?_; clear hF a; intro a hF
    refine svn hF rfl rfl rfl ?_; clear hF a; intro a hF
    refine svn hF rfl rfl rfl ?_; clear hF a; intro a hF
    refine svn hF rfl rfl rfl ?_; clear hF a; intro a hF
    refine svn hF rfl rfl rfl ?_; clear hF a; intro a hF
    refine sv2 hF (v_pickF rfl rfl) (v_assign rfl) rfl rfl ?_; clear hF a; intro a hF
    refine WL_nil (hK _ _ ?_)
    clear hK K
    replace hF := hF.sub _ (c_ 4 rfl (n_))
    refine W_ret ?_
    refine ⟨_, _, hF, rfl, ?_⟩
    refine ⟨congrArg Value.bool ?_, rfl⟩
    unfold fitB
    simp only [Option.isSome_some, Bool.true_and]
    first | (symm; rw [decide_eq_false_iff_not]; omega) | (rw [decide_eq_decide]; omega)
  ·
   clear hF a; intro hc2 a hF
   try simp only [dcl] at hc2
   refine sv2 hF (v_pickT rfl rfl) (v_move rfl) rfl rfl ?_; clear hF a; intro a hF
   refine svn hF rfl rfl rfl ?_; clear hF a; intro a hF
   refine svn hF rfl rfl rfl ?_; clear hF a; intro a hF
   refine sv2 hF (v_pickF rfl rfl) (v_move rfl) rfl rfl ?_; clear hF a; intro a hF
   refine svn hF rfl rfl rfl ?_; clear hF a; intro a hF
   refine svn hF rfl rfl rfl ?_; clear hF a; intro a hF
   refine sv2 hF (v_pickF rfl rfl) (v_move rfl) rfl rfl ?_; clear hF a; intro a hF
   refine svn hF rfl rfl rfl ?_; clear hF a; intro a hF
   refine svn hF rfl rfl rfl ?_; clear hF a; intro a hF
   refine svn hF rfl rfl rfl ?_; clear hF a; intro a hF
   refine svn hF rfl rfl rfl ?_; clear hF a; intro a hF
   refine sv2 hF (v_pickF rfl rfl) (v_assign rfl) rfl rfl ?_; clear hF a; intro a hF
   refine WL_nil (hK _ _ ?_)
   clear hK K
   replace hF := hF.sub _ (c_ 4 rfl (n_))
   refine W_ret ?_
   refine ⟨_, _, hF, rfl, ?_⟩
   refine ⟨congrArg Value.bool ?_, rfl⟩
   unfold fitB
   simp only [Option.isSome_some, Bool.true_and]
   first | (symm; rw [decide_eq_false_iff_not]; omega) | (rw [decide_eq_decide]; omega)
 ·
  clear hF a; intro hc1 a hF
  try simp only [dcl] at hc1
  refine sv hF (v_move rfl) rfl ?_; clear hF a; intro a hF
  refine svn hF rfl rfl rfl ?_; clear hF a; intro a hF
  refine svn hF rfl rfl rfl ?_; clear hF a; intro a hF
  refine sv2 hF (v_pickF rfl rfl) (v_move rfl) rfl rfl ?_; clear hF a; intro a hF
  refine svn hF rfl rfl rfl ?_; clear hF a; intro a hF
  refine svn hF rfl rfl rfl ?_; clear hF a; intro a hF
  refine sv2 hF (v_pickF rfl rfl) (v_move rfl) rfl rfl ?_; clear hF a; intro a hF
  refine svn hF rfl rfl rfl ?_; clear hF a; intro a hF
  refine svn hF rfl rfl rfl ?_; clear hF a; intro a hF
  refine sv2 hF (v_pickF rfl rfl) (v_move rfl) rfl rfl ?_; clear hF a; intro a hF
  refine svn hF rfl rfl rfl ?_; clear hF a; intro a hF
  refine svn hF rfl rfl rfl ?_; clear hF a; intro a hF
  refine svn hF rfl rfl rfl ?_; clear hF a; intro a hF
  refine svn hF rfl rfl rfl ?_; clear hF a; intro a hF
  refine sv2 hF (v_pickF rfl rfl) (v_assign rfl) rfl rfl ?_; clear hF a; intro a hF
  refine WL_nil (hK _ _ ?_)
  clear hK K
  replace hF := hF.sub _ (c_ 4 rfl (n_))
  refine W_ret ?_
  refine ⟨_, _, hF, rfl, ?_⟩
  refine ⟨congrArg Value.bool ?_, rfl⟩
  unfold fitB
  simp only [Option.isSome_some, Bool.true_and]
  first | (symm; rw [decide_eq_false_iff_not]; omega) | (rw [decide_eq_decide]; omega)

end Go.Proofs.Ytaeljbdpjiciaaa

/- The walks of gambrelref08: rows of inverses. -/
set_option linter.unusedVariables false
set_option linter.unusedSimpArgs false
namespace Go.Proofs.Ytaeljbdpjiciaaa
open Go Go.Gam


namespace FxFRef08
theorem en25 : Ent Try.prog 25 := ent Try.func25 (by kernel_rfl) (by kernel_rfl)
theorem en43 : Ent Try.prog 43 := ent Try.func43 (by kernel_rfl) (by kernel_rfl)
theorem en54 : Ent Try.prog 54 := ent Try.func54 (by kernel_rfl) (by kernel_rfl)
theorem en55 : Ent Try.prog 55 := ent Try.func55 (by kernel_rfl) (by kernel_rfl)
theorem en70 : Ent Try.prog 70 := ent Try.func70 (by kernel_rfl) (by kernel_rfl)
theorem hmix : Try.prog.follows .mixedOrders = true := by kernel_rfl
theorem sc3 : Scalar Try.prog 3 := ⟨_, Try.underlying3, by simp, by simp⟩
theorem sl27 : Sl Try.prog 27 37 (.slice none 0 0) 24 := sl_of Try.underlying27 rfl (by kernel_rfl)
theorem sl37 : Sl Try.prog 37 3 (.int .i64 0) 8 := sl_of Try.underlying37 rfl (by kernel_rfl)
end FxFRef08
open FxFRef08

set_option maxRecDepth 100000 in
set_option maxHeartbeats 1000000 in
theorem rfrom_ok (B fr many : Nat) (w : World) (hI : Inv FDx B w) (hm : fr ≤ 1000 ∧ many ≤ 1000) : Ret Try.prog 70 [.int .i64 (fr : Int), .int .i64 (many : Int)] w fun v w' => ∃ ob, Gam.Own FDx B w.heap.size w' FDx.E v ob (zints (rnL fr many)) ∧ St FDx B w w' := by
 refine enter 19 [(0, .int .i64 (fr : Int)), (1, .int .i64 (many : Int))] 4 Try.func70 rfl rfl rfl rfl rfl ?_; intro a hF
 have hS := St.refl hI
 refine W_sr rfl (fun K hK => ?_)
 refine sv hF (v_assign rfl) rfl ?_; clear hF a; intro a hF
 refine WL_nil (hK _ _ ?_)
 clear hK K
 refine W_sr rfl (fun K hK => ?_)
 refine sv hF (v_assign rfl) rfl ?_; clear hF a; intro a hF
 refine WL_nil (hK _ _ ?_)
 clear hK K
 refine W_seq ?_
 refine W_sr rfl (fun K hK => ?_)
 refine sv hF (v_assign rfl) rfl ?_; clear hF a; intro a hF
 refine WL_nil (hK _ _ ?_)
 clear hK K
 refine W_block ?_
 refine W_loop (fun q a w1 => ∃ (i : Nat) (v5 : Value) (b5 : Option Nat), Fr 19 [(0, .int .i64 (fr : Int)), (1, .int .i64 (many : Int)), (5, v5), (6, .int .i64 (i : Int))] a ∧ (St FDx B w w1) ∧ (Gam.Own FDx B w.heap.size w1 FDx.E v5 b5 (zints (rnL fr i))) ∧ (i ≤ many) ∧ (q + i = many)) (many) ?_ ?_
 ·
  skip
  exact ⟨0, _, none, hF.sub _ (c_ 0 rfl (c_ 1 rfl (c_ 5 rfl (c_ 6 rfl (n_))))), hS, Gam.Own.nil _ _ _ _ _, by omega, by omega⟩
 ·
  skip
  clear hF
  clear hS
  rintro q a w1 ⟨i, v5, b5, hF, hS, hO, hi, hq⟩
  refine W_seq ?_
  refine W_sr rfl (fun K hK => ?_)
  refine sv2 hF (v_move rfl) (v_move rfl) rfl rfl ?_; clear hF a; intro a hF
  refine sv hF (v_lss rfl rfl) rfl ?_; clear hF a; intro a hF
  refine WL_nil (hK _ _ ?_)
  clear hK K
  replace hF := hF.sub _ (c_ 9 rfl (c_ 0 rfl (c_ 1 rfl (c_ 5 rfl (c_ 6 rfl (n_))))))
  refine W_if hF rfl (fun hc1 => ?_) (fun hc1 => ?_)
  ·
   skip
   try simp only [dcl] at hc1
   have hlt : i < many := by omega
   have hrl : (zints (rnL fr i)).length = i := by rw [zints_length, rnL_length]
   refine W_skip ?_
   refine W_seq ?_
   refine W_block ?_
   refine W_reg rfl (fun K hK => ?_)
   refine sv3 hF (v_move rfl) (v_move rfl) (v_move rfl) rfl rfl rfl ?_; clear hF a; intro a hF
   refine sv hF ((v_addI rfl rfl (by omega)).as (show Value.int .i64 ((fr : Int) + (i : Int)) = .int .i64 ((fr + i : Nat) : Int) by simp)) rfl ?_; clear hF a; intro a hF
   refine s_bs (D := FDx) (B := B) hF sl37 rfl rfl (by decide) (by simp [Value.cells]) (by decide) hS.inv rfl ?_; clear hF a; intro w' a hm hI' hL hF
   replace hO := hO.mb hm (fun _ _ => by simp)
   replace hS := hS.mb0 hm
   clear hm hI'
   refine s_app (D := FDx) (B := B) hF rfl sl37 rfl rfl hO (hL.row (by decide)) (by simp [Value.oneCell']) (by rw [hrl]; simp; omega) (by rw [hrl]; simp [maxLen]; omega) (hS.ext.size) (by decide) hS.inv rfl ?_; clear hF a; intro v' b' w' a ho' hm hI' hb' hF
   replace hS := hS.mb hm (fun k h => Nat.le_trans (Nat.le_refl _) (hO.lt k h).1)
   replace hO := ho'
   clear hm hI' ho'
   refine sv hF (v_assign rfl) rfl ?_; clear hF a; intro a hF
   refine WL_nil (hK _ _ ?_)
   clear hK K
   replace hF := hF.sub _ (c_ 5 rfl (c_ 0 rfl (c_ 1 rfl (c_ 6 rfl (n_)))))
   refine W_reg rfl (fun K hK => ?_)
   refine sv hF (v_move rfl) rfl ?_; clear hF a; intro a hF
   refine sv hF (v_addI rfl rfl (by omega)) rfl ?_; clear hF a; intro a hF
   refine sv hF (v_assign rfl) rfl ?_; clear hF a; intro a hF
   refine WL_nil (hK _ _ ?_)
   clear hK K
   exact ⟨q - 1, by omega, i + 1, _, _, hF.sub _ (c_ 0 rfl (c_ 1 rfl (c_ 5 rfl (c_ 6 rfl (n_))))), hS, hO.cast (by unfold rnL; rw [List.range_succ, List.map_append]; simp [zints]), by omega, by omega⟩
  ·
   skip
   try simp only [dcl] at hc1
   refine W_exit rfl ?_
   refine W_sr rfl (fun K hK => ?_)
   refine sv2 hF (v_move rfl) (v_assign rfl) rfl rfl ?_; clear hF a; intro a hF
   refine WL_nil (hK _ _ ?_)
   clear hK K
   replace hF := hF.sub _ (c_ 4 rfl (c_ 18 rfl (c_ 0 rfl (c_ 1 rfl (c_ 5 rfl (c_ 6 rfl (n_)))))))
   refine W_ret ?_
   refine ⟨_, _, hF, rfl, ?_⟩
   obtain rfl : i = many := by omega
   exact ⟨_, hO, hS⟩

set_option maxRecDepth 100000 in
set_option maxHeartbeats 1000000 in
theorem rOf_ok (B M wb p : Nat) (hp : Prm wb p) (px py : Option Addr) (cx cy : Nat) (x y : List Int) (w : World) (hI : Inv FDx B w) (hM : M ≤ w.heap.size) (hx : Row FDx B M w (.slice px x.length cx) (zints x)) (hy : Row FDx B M w (.slice py y.length cy) (zints y)) (hl : x.length ≤ maxLen ∧ y.length ≤ maxLen) : Ret Try.prog 25 [.int .i64 (wb : Int), .int .u32 (p : Int), .slice px x.length cx, .slice py y.length cy] w fun v w' => ∃ ob u, v = .tuple #[u, .bool (ofM hp x y).isSome] ∧ MOwn FDx B w.heap.size 0 w'.heap.size w' 37 u ob ((ofM hp x y).getD []) ∧ St FDx B w w' := by
 refine enter2 106 [(0, .int .i64 (wb : Int)), (1, .int .u32 (p : Int)), (2, .slice px x.length cx), (3, .slice py y.length cy)] 8 9 Try.func25 rfl rfl rfl rfl rfl ?_; intro a hF
 have hS := St.refl hI
 have hl2 := hl
 simp only [maxLen] at hl2
 have h16 : 2 ^ wb ≤ 65536 := by rcases hp.w with h | h <;> rw [h] <;> decide
 have hwb : wb ≤ 16 := by rcases hp.w with h | h <;> omega
 refine W_sr rfl (fun K hK => ?_)
 refine sv2 hF (v_assign rfl) (v_assign rfl) rfl rfl ?_; clear hF a; intro a hF
 refine WL_nil (hK _ _ ?_)
 clear hK K
 refine W_seq ?_
 refine W_sr rfl (fun K hK => ?_)
 refine sv hF (v_move rfl) rfl ?_; clear hF a; intro a hF
 refine sv hF (v_lenS rfl sl37 rfl) rfl ?_; clear hF a; intro a hF
 refine sb hF (v_lss rfl rfl) rfl ?_ ?_
 ·
  clear hF a; intro hc1 a hF
  try simp only [dcl] at hc1
  refine sv hF (v_move rfl) rfl ?_; clear hF a; intro a hF
  refine svn hF rfl rfl rfl ?_; clear hF a; intro a hF
  refine svn hF rfl rfl rfl ?_; clear hF a; intro a hF
  refine svn hF rfl rfl rfl ?_; clear hF a; intro a hF
  refine sv2 hF (v_pickT rfl rfl) (v_move rfl) rfl rfl ?_; clear hF a; intro a hF
  refine svn hF rfl rfl rfl ?_; clear hF a; intro a hF
  refine svn hF rfl rfl rfl ?_; clear hF a; intro a hF
  refine svn hF rfl rfl rfl ?_; clear hF a; intro a hF
  refine sv2 hF (v_pickT rfl rfl) (v_move rfl) rfl rfl ?_; clear hF a; intro a hF
  refine svn hF rfl rfl rfl ?_; clear hF a; intro a hF
  refine svn hF rfl rfl rfl ?_; clear hF a; intro a hF
  refine svn hF rfl rfl rfl ?_; clear hF a; intro a hF
  refine sv hF (v_pickT rfl rfl) rfl ?_; clear hF a; intro a hF
  refine WL_nil (hK _ _ ?_)
  clear hK K
  replace hF := hF.sub _ (c_ 36 rfl (c_ 9 rfl (c_ 8 rfl (c_ 0 rfl (c_ 1 rfl (c_ 2 rfl (c_ 3 rfl (n_))))))))
  refine W_ifT hF rfl ?_
  refine W_sr rfl (fun K hK => ?_)
  refine sv2 hF (v_assign rfl) (v_assign rfl) rfl rfl ?_; clear hF a; intro a hF
  refine WL_nil (hK _ _ ?_)
  clear hK K
  replace hF := hF.sub _ (c_ 9 rfl (c_ 8 rfl (c_ 0 rfl (c_ 1 rfl (c_ 2 rfl (c_ 3 rfl (n_)))))))
  refine W_ret ?_
  refine ⟨_, _, _, hF, rfl, rfl, ?_⟩
  rw [ofM_no hp (ofB_len (by omega))]
  exact ⟨none, _, rfl, MOwn.nil _ _ _ _ _ _ _ (Nat.zero_le _), hS⟩
 ·
  clear hF a; intro hc1 a hF
  try simp only [dcl] at hc1
  refine sv hF (v_move rfl) rfl ?_; clear hF a; intro a hF
  refine svg hF rfl ?_
  refine sv hF (v_move rfl) rfl ?_; clear hF a; intro a hF
  refine svg hF rfl ?_
  refine sv hF (v_lenS rfl sl37 rfl) rfl ?_; clear hF a; intro a hF
  refine svg hF rfl ?_
  refine sb hF (v_gtr rfl rfl) rfl ?_ ?_
  ·
   clear hF a; intro hc2 a hF
   try simp only [dcl] at hc2
   refine sv2 hF (v_pickF rfl rfl) (v_move rfl) rfl rfl ?_; clear hF a; intro a hF
   refine svn hF rfl rfl rfl ?_; clear hF a; intro a hF
   refine svn hF rfl rfl rfl ?_; clear hF a; intro a hF
   refine svn hF rfl rfl rfl ?_; clear hF a; intro a hF
   refine sv2 hF (v_pickT rfl rfl) (v_move rfl) rfl rfl ?_; clear hF a; intro a hF
   refine svn hF rfl rfl rfl ?_; clear hF a; intro a hF
   refine svn hF rfl rfl rfl ?_; clear hF a; intro a hF
   refine svn hF rfl rfl rfl ?_; clear hF a; intro a hF
   refine sv hF (v_pickT rfl rfl) rfl ?_; clear hF a; intro a hF
   refine WL_nil (hK _ _ ?_)
   clear hK K
   replace hF := hF.sub _ (c_ 36 rfl (c_ 9 rfl (c_ 8 rfl (c_ 0 rfl (c_ 1 rfl (c_ 2 rfl (c_ 3 rfl (n_))))))))
   refine W_ifT hF rfl ?_
   refine W_sr rfl (fun K hK => ?_)
   refine sv2 hF (v_assign rfl) (v_assign rfl) rfl rfl ?_; clear hF a; intro a hF
   refine WL_nil (hK _ _ ?_)
   clear hK K
   replace hF := hF.sub _ (c_ 9 rfl (c_ 8 rfl (c_ 0 rfl (c_ 1 rfl (c_ 2 rfl (c_ 3 rfl (n_)))))))
   refine W_ret ?_
   refine ⟨_, _, _, hF, rfl, rfl, ?_⟩
   rw [ofM_no hp (ofB_len (by omega))]
   exact ⟨none, _, rfl, MOwn.nil _ _ _ _ _ _ _ (Nat.zero_le _), hS⟩
  ·
   clear hF a; intro hc2 a hF
   try simp only [dcl] at hc2
   refine sv2 hF (v_pickF rfl rfl) (v_move rfl) rfl rfl ?_; clear hF a; intro a hF
   refine svg hF rfl ?_
   refine sv hF (v_move rfl) rfl ?_; clear hF a; intro a hF
   refine svg hF rfl ?_
   refine sv hF (v_lenS rfl sl37 rfl) rfl ?_; clear hF a; intro a hF
   refine svg hF rfl ?_
   refine sb hF (v_lss rfl rfl) rfl ?_ ?_
   ·
    clear hF a; intro hc3 a hF
    try simp only [dcl] at hc3
    refine sv2 hF (v_pickF rfl rfl) (v_move rfl) rfl rfl ?_; clear hF a; intro a hF
    refine svn hF rfl rfl rfl ?_; clear hF a; intro a hF
    refine svn hF rfl rfl rfl ?_; clear hF a; intro a hF
    refine svn hF rfl rfl rfl ?_; clear hF a; intro a hF
    refine sv hF (v_pickT rfl rfl) rfl ?_; clear hF a; intro a hF
    refine WL_nil (hK _ _ ?_)
    clear hK K
    replace hF := hF.sub _ (c_ 36 rfl (c_ 9 rfl (c_ 8 rfl (c_ 0 rfl (c_ 1 rfl (c_ 2 rfl (c_ 3 rfl (n_))))))))
    refine W_ifT hF rfl ?_
    refine W_sr rfl (fun K hK => ?_)
    refine sv2 hF (v_assign rfl) (v_assign rfl) rfl rfl ?_; clear hF a; intro a hF
    refine WL_nil (hK _ _ ?_)
    clear hK K
    replace hF := hF.sub _ (c_ 9 rfl (c_ 8 rfl (c_ 0 rfl (c_ 1 rfl (c_ 2 rfl (c_ 3 rfl (n_)))))))
    refine W_ret ?_
    refine ⟨_, _, _, hF, rfl, rfl, ?_⟩
    rw [ofM_no hp (ofB_len (by omega))]
    exact ⟨none, _, rfl, MOwn.nil _ _ _ _ _ _ _ (Nat.zero_le _), hS⟩
   ·
    clear hF a; intro hc3 a hF
    try simp only [dcl] at hc3
    refine sv2 hF (v_pickF rfl rfl) (v_move rfl) rfl rfl ?_; clear hF a; intro a hF
    refine svg hF rfl ?_
    refine sv hF (v_move rfl) rfl ?_; clear hF a; intro a hF
    refine svg hF rfl ?_
    refine sv hF (v_lenS rfl sl37 rfl) rfl ?_; clear hF a; intro a hF
    refine svg hF rfl ?_
    refine sv hF (v_gtr rfl rfl) rfl ?_; clear hF a; intro a hF
    refine sv hF (v_pickF rfl rfl) rfl ?_; clear hF a; intro a hF
    refine WL_nil (hK _ _ ?_)
    clear hK K
    replace hF := hF.sub _ (c_ 36 rfl (c_ 9 rfl (c_ 8 rfl (c_ 0 rfl (c_ 1 rfl (c_ 2 rfl (c_ 3 rfl (n_))))))))
    refine W_if hF rfl (fun hc4 => ?_) (fun hc4 => ?_)
    ·
     skip
     try simp only [dcl] at hc4
     refine W_sr rfl (fun K hK => ?_)
     refine sv2 hF (v_assign rfl) (v_assign rfl) rfl rfl ?_; clear hF a; intro a hF
     refine WL_nil (hK _ _ ?_)
     clear hK K
     replace hF := hF.sub _ (c_ 9 rfl (c_ 8 rfl (c_ 0 rfl (c_ 1 rfl (c_ 2 rfl (c_ 3 rfl (n_)))))))
     refine W_ret ?_
     refine ⟨_, _, _, hF, rfl, rfl, ?_⟩
     rw [ofM_no hp (ofB_len (by omega))]
     exact ⟨none, _, rfl, MOwn.nil _ _ _ _ _ _ _ (Nat.zero_le _), hS⟩
    ·
     skip
     try simp only [dcl] at hc4
     refine W_skip ?_
     have hln : 1 ≤ x.length ∧ x.length ≤ 20 ∧ 1 ≤ y.length ∧ y.length ≤ 20 := by omega
     refine W_sr rfl (fun K hK => ?_)
     have hs0 := hS.ext.size
     refine s_bs (D := FDx) (B := B) hF sl37 rfl rfl (by decide) (by simp [Value.cells]) (by decide) hS.inv rfl ?_; clear hF a; intro w' a hm hI' hC hF
     replace hx := hx.mb hm (fun _ h => by cases h)
     replace hy := hy.mb hm (fun _ h => by cases h)
     replace hS := hS.mb0 hm
     clear hm hI'
     replace hC := hC.le hs0
     clear hs0
     refine sv hF (v_move rfl) rfl ?_; clear hF a; intro a hF
     refine s_app (D := FDx) (B := B) hF rfl sl37 rfl rfl hC (hx) (zints_one _) (by simp; omega) (by simp [maxLen]; omega) (hS.ext.size) (by decide) hS.inv rfl ?_; clear hF a; intro v' b' w' a ho' hm hI' hb' hF
     replace hx := hx.mb hm (fun k h => Nat.le_trans (hM) (hC.lt k h).1)
     replace hy := hy.mb hm (fun k h => Nat.le_trans (hM) (hC.lt k h).1)
     replace hS := hS.mb hm (fun k h => Nat.le_trans (Nat.le_refl _) (hC.lt k h).1)
     replace hC := ho'
     clear hm hI' ho'
     replace hC := hC.cast (ys := zints x) (by simp)
     refine sv hF (v_assign rfl) rfl ?_; clear hF a; intro a hF
     refine WL_nil (hK _ _ ?_)
     clear hK K
     replace hF := hF.sub _ (c_ 10 rfl (c_ 9 rfl (c_ 8 rfl (c_ 0 rfl (c_ 1 rfl (c_ 2 rfl (c_ 3 rfl (n_))))))))
     refine W_sr rfl (fun K hK => ?_)
     refine sv2 hF (v_move rfl) (v_move rfl) rfl rfl ?_; clear hF a; intro a hF
     refine s_app (D := FDx) (B := B) hF rfl sl37 rfl rfl hC (hy) (zints_one _) (by simp; omega) (by simp [maxLen]; omega) (hS.ext.size) (by decide) hS.inv rfl ?_; clear hF a; intro v' b' w' a ho' hm hI' hb' hF
     replace hx := hx.mb hm (fun k h => Nat.le_trans (hM) (hC.lt k h).1)
     replace hy := hy.mb hm (fun k h => Nat.le_trans (hM) (hC.lt k h).1)
     replace hS := hS.mb hm (fun k h => Nat.le_trans (Nat.le_refl _) (hC.lt k h).1)
     replace hC := ho'
     clear hm hI' ho'
     replace hC := hC.cast (ys := zints (x ++ y)) (by simp [zints])
     obtain ⟨gL, cL, rfl, rfl⟩ := hC.ptr (by simp; omega)
     rw [zints_length, List.length_append] at hC hF
     refine sv hF (v_assign rfl) rfl ?_; clear hF a; intro a hF
     refine WL_nil (hK _ _ ?_)
     clear hK K
     replace hF := hF.sub _ (c_ 10 rfl (c_ 9 rfl (c_ 8 rfl (c_ 0 rfl (c_ 1 rfl (c_ 2 rfl (c_ 3 rfl (n_))))))))
     refine W_seq ?_
     refine W_sr rfl (fun K hK => ?_)
     refine sv hF (v_assign rfl) rfl ?_; clear hF a; intro a hF
     refine WL_nil (hK _ _ ?_)
     clear hK K
     refine W_block ?_
     refine W_loop (fun q a w1 => ∃ (i : Nat), Fr 106 [(0, .int .i64 (wb : Int)), (1, .int .u32 (p : Int)), (2, .slice px x.length cx), (3, .slice py y.length cy), (10, .slice (some ⟨gL, 0, none⟩) (x.length + y.length) cL), (11, .int .i64 (i : Int))] a ∧ (St FDx B w w1) ∧ (Row FDx B M w1 (.slice px x.length cx) (zints x)) ∧ (Row FDx B M w1 (.slice py y.length cy) (zints y)) ∧ (Gam.Own FDx B w.heap.size w1 FDx.E (.slice (some ⟨gL, 0, none⟩) (x.length + y.length) cL) (some gL) (zints (x ++ y))) ∧ (((x ++ y).take i).Nodup) ∧ (∀ z ∈ (x ++ y).take i, 0 ≤ z ∧ z < ((2 ^ wb : Nat) : Int)) ∧ (i ≤ x.length + y.length) ∧ (q + i = x.length + y.length)) (x.length + y.length) ?_ ?_
     ·
      skip
      exact ⟨0, hF.sub _ (c_ 0 rfl (c_ 1 rfl (c_ 2 rfl (c_ 3 rfl (c_ 10 rfl (c_ 11 rfl (n_))))))), hS, hx, hy, hC, List.nodup_nil, (fun z hz => by simp at hz), by omega, by omega⟩
     ·
      skip
      clear hF
      clear hS hx hy hC
      rintro q a w1 ⟨i, hF, hS, hx, hy, hC, hnd, hbd, hi, hq⟩
      refine W_seq ?_
      refine W_sr rfl (fun K hK => ?_)
      refine sv2 hF (v_move rfl) (v_move rfl) rfl rfl ?_; clear hF a; intro a hF
      refine sv hF (v_lenS rfl sl37 rfl) rfl ?_; clear hF a; intro a hF
      refine sv hF (v_lss rfl rfl) rfl ?_; clear hF a; intro a hF
      refine WL_nil (hK _ _ ?_)
      clear hK K
      replace hF := hF.sub _ (c_ 46 rfl (c_ 0 rfl (c_ 1 rfl (c_ 2 rfl (c_ 3 rfl (c_ 10 rfl (c_ 11 rfl (n_))))))))
      refine W_if hF rfl (fun hc5 => ?_) (fun hc5 => ?_)
      ·
       skip
       try simp only [dcl] at hc5
       have hlt : i < (x ++ y).length := by rw [List.length_append]; omega
       obtain ⟨a_, ha⟩ : ∃ z, (x ++ y)[i]? = some z := ⟨_, List.getElem?_eq_getElem hlt⟩
       refine W_skip ?_
       refine W_seq ?_
       refine W_block ?_
       refine W_seq ?_
       refine W_sr rfl (fun K hK => ?_)
       refine sv3 hF (v_move rfl) (v_move rfl) (v_move rfl) rfl rfl rfl ?_; clear hF a; intro a hF
       refine sv hF (v_ixS sl37 rfl rfl (by omega) (by omega)) rfl ?_; clear hF a; intro a hF
       refine sv hF (v_load sc3 rfl (by rw [toNat_c]; exact (hC.kc (by decide) (zints_at ha)).c)) rfl ?_; clear hF a; intro a hF
       refine sc hF rfl rfl rfl en54 rfl (rIn_ok B wb p a_ _ hS.inv hwb) ?_; clear hF a; intro v w' a hv hF
       obtain ⟨rfl, hw⟩ := hv
       obtain rfl := hw.symm
       have hS' := St.refl hS.inv
       replace hx := hx.st hS'
       replace hy := hy.st hS'
       replace hC := hC.st (by decide) hS'
       replace hS := hS.trans hS'
       clear hS'
       refine sv hF (v_not rfl) rfl ?_; clear hF a; intro a hF
       refine WL_nil (hK _ _ ?_)
       clear hK K
       replace hF := hF.sub _ (c_ 55 rfl (c_ 0 rfl (c_ 1 rfl (c_ 2 rfl (c_ 3 rfl (c_ 10 rfl (c_ 11 rfl (n_))))))))
       refine W_if hF rfl (fun hc6 => ?_) (fun hc6 => ?_)
       ·
        skip
        try simp only [dcl] at hc6
        have hinb : inF (some (wb, p)) a_ = false := by assumption
        have hin : ¬ (0 ≤ a_ ∧ a_ < ((2 ^ wb : Nat) : Int)) := fun h => by rw [inF_some.2 h] at hinb; cases hinb
        refine W_sr rfl (fun K hK => ?_)
        refine sv2 hF (v_assign rfl) (v_assign rfl) rfl rfl ?_; clear hF a; intro a hF
        refine WL_nil (hK _ _ ?_)
        clear hK K
        replace hF := hF.sub _ (c_ 9 rfl (c_ 8 rfl (c_ 0 rfl (c_ 1 rfl (c_ 2 rfl (c_ 3 rfl (c_ 10 rfl (c_ 11 rfl (n_)))))))))
        refine W_ret ?_
        refine ⟨_, _, _, hF, rfl, rfl, ?_⟩
        rw [ofM_no hp (ofB_bad ha ((Int.lt_or_le a_ 0).elim .inl fun h0 => .inr (.inl (Int.not_lt.1 fun h => hin ⟨h0, h⟩))))]
        exact ⟨none, _, rfl, MOwn.nil _ _ _ _ _ _ _ (Nat.zero_le _), hS⟩
       ·
        skip
        try simp only [dcl] at hc6
        have hin : 0 ≤ a_ ∧ a_ < ((2 ^ wb : Nat) : Int) := inF_some.1 (show inF (some (wb, p)) a_ = true by assumption)
        refine W_skip ?_
        refine W_sr rfl (fun K hK => ?_)
        refine sv hF (v_assign rfl) rfl ?_; clear hF a; intro a hF
        refine WL_nil (hK _ _ ?_)
        clear hK K
        replace hF := hF.sub _ (c_ 12 rfl (c_ 0 rfl (c_ 1 rfl (c_ 2 rfl (c_ 3 rfl (c_ 10 rfl (c_ 11 rfl (n_))))))))
        refine W_block ?_
        refine W_loop (fun q2 a w2 => ∃ (k : Nat), Fr 106 [(0, .int .i64 (wb : Int)), (1, .int .u32 (p : Int)), (2, .slice px x.length cx), (3, .slice py y.length cy), (10, .slice (some ⟨gL, 0, none⟩) (x.length + y.length) cL), (11, .int .i64 (i : Int)), (12, .int .i64 (k : Int))] a ∧ (St FDx B w w2) ∧ (Row FDx B M w2 (.slice px x.length cx) (zints x)) ∧ (Row FDx B M w2 (.slice py y.length cy) (zints y)) ∧ (Gam.Own FDx B w.heap.size w2 FDx.E (.slice (some ⟨gL, 0, none⟩) (x.length + y.length) cL) (some gL) (zints (x ++ y))) ∧ (k ≤ i) ∧ (a_ ∉ (x ++ y).take k) ∧ (q2 + k = i)) (i) ?_ ?_
        ·
         skip
         exact ⟨0, hF.sub _ (c_ 0 rfl (c_ 1 rfl (c_ 2 rfl (c_ 3 rfl (c_ 10 rfl (c_ 11 rfl (c_ 12 rfl (n_)))))))), hS, hx, hy, hC, by omega, by simp, by omega⟩
        ·
         skip
         clear hF
         clear hS hx hy hC
         rintro q2 a w2 ⟨k, hF, hS, hx, hy, hC, hk, hno, hq2⟩
         refine W_seq ?_
         refine W_sr rfl (fun K hK => ?_)
         refine sv2 hF (v_move rfl) (v_move rfl) rfl rfl ?_; clear hF a; intro a hF
         refine sv hF (v_lss rfl rfl) rfl ?_; clear hF a; intro a hF
         refine WL_nil (hK _ _ ?_)
         clear hK K
         replace hF := hF.sub _ (c_ 58 rfl (c_ 0 rfl (c_ 1 rfl (c_ 2 rfl (c_ 3 rfl (c_ 10 rfl (c_ 11 rfl (c_ 12 rfl (n_)))))))))
         refine W_if hF rfl (fun hc7 => ?_) (fun hc7 => ?_)
         ·
          skip
          try simp only [dcl] at hc7
          have hklt : k < i := by omega
          obtain ⟨b_, hb⟩ : ∃ z, (x ++ y)[k]? = some z := ⟨_, List.getElem?_eq_getElem (by omega)⟩
          refine W_skip ?_
          refine W_seq ?_
          refine W_block ?_
          have hka := hC.kc (by decide) (zints_at ha)
          have hkb := hC.kc (by decide) (zints_at hb)
          refine W_sd (m := 9) rfl hmix hS.inv (fun K hK w1 hS' hh => ?_)
          replace hx := hx.st hS'
          replace hy := hy.st hS'
          replace hC := hC.st (by decide) hS'
          replace hka := hka.st hS'
          replace hkb := hkb.st hS'
          replace hS := hS.trans hS'
          clear hS'
          clear hh
          refine a_v (i := 0) rfl (by kernel_rfl) hF (fun w2 hx => v_move rfl) rfl ?_; clear hF a; intro a hF
          refine a_v (i := 1) rfl (by kernel_rfl) hF (fun w2 hx => v_move rfl) rfl ?_; clear hF a; intro a hF
          refine a_v (i := 2) rfl (by kernel_rfl) hF (fun w2 hx => v_ixS sl37 rfl rfl (by omega) (by omega)) rfl ?_; clear hF a; intro a hF
          refine a_v (i := 3) rfl (by kernel_rfl) hF (fun w2 hx => v_load sc3 rfl (by rw [toNat_c]; exact KC.ld hka (by assumption))) rfl ?_; clear hF a; intro a hF
          refine a_v (i := 4) rfl (by kernel_rfl) hF (fun w2 hx => v_move rfl) rfl ?_; clear hF a; intro a hF
          refine a_v (i := 5) rfl (by kernel_rfl) hF (fun w2 hx => v_move rfl) rfl ?_; clear hF a; intro a hF
          refine a_v (i := 6) rfl (by kernel_rfl) hF (fun w2 hx => v_ixS sl37 rfl rfl (by omega) (by omega)) rfl ?_; clear hF a; intro a hF
          refine a_v (i := 7) rfl (by kernel_rfl) hF (fun w2 hx => v_load sc3 rfl (by rw [toNat_c]; exact KC.ld hkb (by assumption))) rfl ?_; clear hF a; intro a hF
          refine a_v (i := 8) rfl (by kernel_rfl) hF (fun w2 hx => v_eql rfl rfl) rfl ?_; clear hF a; intro a hF
          refine a_done (by kernel_rfl) (hK _ _ ?_)
          clear hK K
          replace hF := hF.sub _ (c_ 69 rfl (c_ 0 rfl (c_ 1 rfl (c_ 2 rfl (c_ 3 rfl (c_ 10 rfl (c_ 11 rfl (c_ 12 rfl (n_)))))))))
          refine W_if hF rfl (fun hc8 => ?_) (fun hc8 => ?_)
          ·
           skip
           try simp only [dcl] at hc8
           have heq : a_ = b_ := by assumption
           have hmem : a_ ∈ (x ++ y).take i := List.mem_of_getElem? (show ((x ++ y).take i)[k]? = some a_ by rw [List.getElem?_take, if_pos hklt, hb, heq])
           refine W_sr rfl (fun K hK => ?_)
           refine sv2 hF (v_assign rfl) (v_assign rfl) rfl rfl ?_; clear hF a; intro a hF
           refine WL_nil (hK _ _ ?_)
           clear hK K
           replace hF := hF.sub _ (c_ 9 rfl (c_ 8 rfl (c_ 0 rfl (c_ 1 rfl (c_ 2 rfl (c_ 3 rfl (c_ 10 rfl (c_ 11 rfl (c_ 12 rfl (n_))))))))))
           refine W_ret ?_
           refine ⟨_, _, _, hF, rfl, rfl, ?_⟩
           rw [ofM_no hp (ofB_bad ha (.inr (.inr hmem)))]
           exact ⟨none, _, rfl, MOwn.nil _ _ _ _ _ _ _ (Nat.zero_le _), hS⟩
          ·
           skip
           try simp only [dcl] at hc8
           have hne : ¬ a_ = b_ := by assumption
           refine W_skip ?_
           refine W_reg rfl (fun K hK => ?_)
           refine sv hF (v_move rfl) rfl ?_; clear hF a; intro a hF
           refine sv hF (v_addI rfl rfl (by omega)) rfl ?_; clear hF a; intro a hF
           refine sv hF (v_assign rfl) rfl ?_; clear hF a; intro a hF
           refine WL_nil (hK _ _ ?_)
           clear hK K
           replace hF := hF.sub _ (c_ 12 rfl (c_ 60 rfl (c_ 59 rfl (c_ 0 rfl (c_ 1 rfl (c_ 2 rfl (c_ 3 rfl (c_ 10 rfl (c_ 11 rfl (n_))))))))))
           exact ⟨q2 - 1, by omega, k + 1, hF.sub _ (c_ 0 rfl (c_ 1 rfl (c_ 2 rfl (c_ 3 rfl (c_ 10 rfl (c_ 11 rfl (c_ 12 rfl (n_)))))))), hS, hx, hy, hC, by omega, (fun h => by rw [take_snoc hb, List.mem_append, List.mem_singleton] at h; rcases h with h | h; exact hno h; exact hne h), by omega⟩
         ·
          skip
          try simp only [dcl] at hc7
          have hke : k = i := by omega
          have hnin : a_ ∉ (x ++ y).take i := by rw [← hke]; exact hno
          refine W_exit rfl ?_
          refine W_reg rfl (fun K hK => ?_)
          refine sv hF (v_move rfl) rfl ?_; clear hF a; intro a hF
          refine sv hF (v_addI rfl rfl (by omega)) rfl ?_; clear hF a; intro a hF
          refine sv hF (v_assign rfl) rfl ?_; clear hF a; intro a hF
          refine WL_nil (hK _ _ ?_)
          clear hK K
          replace hF := hF.sub _ (c_ 11 rfl (c_ 48 rfl (c_ 47 rfl (c_ 0 rfl (c_ 1 rfl (c_ 2 rfl (c_ 3 rfl (c_ 10 rfl (c_ 12 rfl (n_))))))))))
          exact ⟨q - 1, by omega, i + 1, hF.sub _ (c_ 0 rfl (c_ 1 rfl (c_ 2 rfl (c_ 3 rfl (c_ 10 rfl (c_ 11 rfl (n_))))))), hS, hx, hy, hC, nodup_snoc hnd ha (fun z hz e => hnin (e ▸ hz)), (fun z hz => by rw [take_snoc ha, List.mem_append, List.mem_singleton] at hz; rcases hz with hz | rfl; exact hbd _ hz; omega), by omega, by omega⟩
      ·
       skip
       try simp only [dcl] at hc5
       have hie : i = (x ++ y).length := by rw [List.length_append]; omega
       rw [hie, List.take_length] at hnd hbd
       clear hC
       refine W_exit rfl ?_
       refine W_sr rfl (fun K hK => ?_)
       refine sv hF (v_assign rfl) rfl ?_; clear hF a; intro a hF
       refine WL_nil (hK _ _ ?_)
       clear hK K
       replace hF := hF.sub _ (c_ 13 rfl (c_ 0 rfl (c_ 1 rfl (c_ 2 rfl (c_ 3 rfl (c_ 10 rfl (c_ 11 rfl (n_))))))))
       refine W_seq ?_
       refine W_sr rfl (fun K hK => ?_)
       refine sv hF (v_assign rfl) rfl ?_; clear hF a; intro a hF
       refine WL_nil (hK _ _ ?_)
       clear hK K
       refine W_block ?_
       refine W_loop (fun q2 a w2 => ∃ (i : Nat) (v13 : Value) (b13 : Option Nat), Fr 106 [(0, .int .i64 (wb : Int)), (1, .int .u32 (p : Int)), (2, .slice px x.length cx), (3, .slice py y.length cy), (13, v13), (14, .int .i64 (i : Int))] a ∧ (St FDx B w w2) ∧ (Row FDx B M w2 (.slice px x.length cx) (zints x)) ∧ (Row FDx B M w2 (.slice py y.length cy) (zints y)) ∧ (MOwn FDx B w.heap.size 0 w2.heap.size w2 37 v13 b13 ((List.range i).map (trow y.length (ofT hp x y)))) ∧ (i ≤ x.length) ∧ (q2 + i = x.length)) (x.length) ?_ ?_
       ·
        skip
        exact ⟨0, _, none, hF.sub _ (c_ 0 rfl (c_ 1 rfl (c_ 2 rfl (c_ 3 rfl (c_ 13 rfl (c_ 14 rfl (n_))))))), hS, hx, hy, MOwn.nil _ _ _ _ _ _ _ (Nat.zero_le _), by omega, by omega⟩
       ·
        skip
        clear hF
        clear hS hx hy
        rintro q2 a w2 ⟨i, v13, b13, hF, hS, hx, hy, hMO, hi2, hq2⟩
        refine W_seq ?_
        obtain ⟨KM, hKe⟩ : ∃ K, K = w2.heap.size := ⟨_, rfl⟩
        rw [← hKe] at hMO
        have hKs : KM ≤ w2.heap.size := by omega
        have hNK : w.heap.size ≤ KM := by have := hS.ext.size; omega
        clear hKe
        refine W_sr rfl (fun K hK => ?_)
        refine sv2 hF (v_move rfl) (v_move rfl) rfl rfl ?_; clear hF a; intro a hF
        refine sv hF (v_lenS rfl sl37 rfl) rfl ?_; clear hF a; intro a hF
        refine sv hF (v_lss rfl rfl) rfl ?_; clear hF a; intro a hF
        refine WL_nil (hK _ _ ?_)
        clear hK K
        refine W_if hF rfl (fun hc9 => ?_) (fun hc9 => ?_)
        ·
         skip
         try simp only [dcl] at hc9
         have hlt : i < x.length := by omega
         refine W_skip ?_
         refine W_seq ?_
         refine W_block ?_
         refine W_sr rfl (fun K hK => ?_)
         refine sv hF (v_assign rfl) rfl ?_; clear hF a; intro a hF
         refine WL_nil (hK _ _ ?_)
         clear hK K
         refine W_seq ?_
         refine W_sr rfl (fun K hK => ?_)
         refine sv hF (v_assign rfl) rfl ?_; clear hF a; intro a hF
         refine WL_nil (hK _ _ ?_)
         clear hK K
         refine W_block ?_
         refine W_loop (fun q3 a w3 => ∃ (j : Nat) (v15 : Value) (b15 : Option Nat), Fr 106 [(0, .int .i64 (wb : Int)), (1, .int .u32 (p : Int)), (2, .slice px x.length cx), (3, .slice py y.length cy), (13, v13), (14, .int .i64 (i : Int)), (15, v15), (16, .int .i64 (j : Int))] a ∧ (St FDx B w w3) ∧ (Row FDx B M w3 (.slice px x.length cx) (zints x)) ∧ (Row FDx B M w3 (.slice py y.length cy) (zints y)) ∧ (MOwn FDx B w.heap.size 0 KM w3 37 v13 b13 ((List.range i).map (trow y.length (ofT hp x y)))) ∧ (KM ≤ w3.heap.size) ∧ (Gam.Own FDx B KM w3 FDx.E v15 b15 (zints ((List.range j).map fun j => (((ofT hp x y) i j : Nat) : Int)))) ∧ (j ≤ y.length) ∧ (q3 + j = y.length)) (y.length) ?_ ?_
         ·
          skip
          exact ⟨0, _, none, hF.sub _ (c_ 0 rfl (c_ 1 rfl (c_ 2 rfl (c_ 3 rfl (c_ 13 rfl (c_ 14 rfl (c_ 15 rfl (c_ 16 rfl (n_))))))))), hS, hx, hy, hMO, hKs, Gam.Own.nil _ _ _ _ _, by omega, by omega⟩
         ·
          skip
          clear hF
          clear hS hx hy hMO hKs
          rintro q3 a w3 ⟨j, v15, b15, hF, hS, hx, hy, hMO, hKs, hO, hj, hq3⟩
          refine W_seq ?_
          refine W_sr rfl (fun K hK => ?_)
          refine sv2 hF (v_move rfl) (v_move rfl) rfl rfl ?_; clear hF a; intro a hF
          refine sv hF (v_lenS rfl sl37 rfl) rfl ?_; clear hF a; intro a hF
          refine sv hF (v_lss rfl rfl) rfl ?_; clear hF a; intro a hF
          refine WL_nil (hK _ _ ?_)
          clear hK K
          refine W_if hF rfl (fun hc10 => ?_) (fun hc10 => ?_)
          ·
           skip
           try simp only [dcl] at hc10
           have hlt2 : j < y.length := by omega
           obtain ⟨an, bn, hxa, hyb, han, hbn, hxl, hx0⟩ := of_cell hnd hbd hlt hlt2
           obtain ⟨ga, oa, hga, hka, -⟩ := hx.kat (zints_at hxa)
           obtain ⟨gb, ob_, hgb, hkb, -⟩ := hy.kat (zints_at hyb)
           have hcell := ofT_at hp hxa hyb
           refine W_skip ?_
           refine W_seq ?_
           refine W_block ?_
           rw [hga, hgb] at hF
           refine W_sd (m := 17) rfl hmix hS.inv (fun K hK w1 hS' hh => ?_)
           replace hx := hx.st hS'
           replace hy := hy.st hS'
           replace hMO := hMO.st (by decide) hS'
           replace hKs := Nat.le_trans hKs hS'.ext.size
           replace hO := hO.st (by decide) hS'
           replace hka := hka.st hS'
           replace hkb := hkb.st hS'
           replace hS := hS.trans hS'
           clear hS'
           clear hh
           refine a_v (i := 0) rfl (by kernel_rfl) hF (fun w2 hx => v_move rfl) rfl ?_; clear hF a; intro a hF
           refine a_v (i := 1) rfl (by kernel_rfl) hF (fun w2 hx => v_move rfl) rfl ?_; clear hF a; intro a hF
           refine a_v (i := 2) rfl (by kernel_rfl) hF (fun w2 hx => v_move rfl) rfl ?_; clear hF a; intro a hF
           refine a_v (i := 3) rfl (by kernel_rfl) hF (fun w2 hx => v_move rfl) rfl ?_; clear hF a; intro a hF
           refine a_v (i := 4) rfl (by kernel_rfl) hF (fun w2 hx => v_ixS sl37 rfl rfl (by omega) (by omega)) rfl ?_; clear hF a; intro a hF
           refine a_v (i := 5) rfl (by kernel_rfl) hF (fun w2 hx => v_load sc3 rfl (by rw [toNat_c]; exact KC.ld hka (by assumption))) rfl ?_; clear hF a; intro a hF
           refine a_v (i := 6) rfl (by kernel_rfl) hF (fun w2 hx => v_move rfl) rfl ?_; clear hF a; intro a hF
           refine a_v (i := 7) rfl (by kernel_rfl) hF (fun w2 hx => v_move rfl) rfl ?_; clear hF a; intro a hF
           refine a_v (i := 8) rfl (by kernel_rfl) hF (fun w2 hx => v_ixS sl37 rfl rfl (by omega) (by omega)) rfl ?_; clear hF a; intro a hF
           refine a_v (i := 9) rfl (by kernel_rfl) hF (fun w2 hx => v_load sc3 rfl (by rw [toNat_c]; exact KC.ld hkb (by assumption))) rfl ?_; clear hF a; intro a hF
           refine a_v (i := 10) rfl (by kernel_rfl) hF (fun w2 hx => v_xorN rfl rfl (fits_i64 (by omega)) (fits_i64 (by omega))) rfl ?_; clear hF a; intro a hF
           refine a_e (i := 11) rfl (by kernel_rfl) ?_
           refine sc hF rfl rfl rfl en55 rfl (rInv_gf B wb p ((an ^^^ bn : Nat) : Int) _ hS.inv hp) ?_; clear hF a; intro v w' a hv hF
           obtain ⟨rfl, hS'⟩ := hv
           refine WL_nil ⟨hS'.ext, ?_⟩
           replace hx := hx.st hS'
           replace hy := hy.st hS'
           replace hMO := hMO.st (by decide) hS'
           replace hKs := Nat.le_trans hKs hS'.ext.size
           replace hO := hO.st (by decide) hS'
           replace hka := hka.st hS'
           replace hkb := hkb.st hS'
           replace hS := hS.trans hS'
           clear hS'
           refine a_v (i := 12) rfl (by kernel_rfl) hF (fun w2 hx => v_move rfl) rfl ?_; clear hF a; intro a hF
           refine a_v (i := 13) rfl (by kernel_rfl) hF (fun w2 hx => v_ext rfl rfl) rfl ?_; clear hF a; intro a hF
           refine a_v (i := 14) rfl (by kernel_rfl) hF (fun w2 hx => v_ext rfl rfl) rfl ?_; clear hF a; intro a hF
           refine a_v (i := 15) rfl (by kernel_rfl) hF (fun w2 hx => v_assign rfl) rfl ?_; clear hF a; intro a hF
           refine a_v (i := 16) rfl (by kernel_rfl) hF (fun w2 hx => v_assign rfl) rfl ?_; clear hF a; intro a hF
           refine a_done (by kernel_rfl) (hK _ _ ?_)
           clear hK K
           replace hF := hF.sub _ (c_ 17 rfl (c_ 96 rfl (c_ 95 rfl (c_ 82 rfl (c_ 94 rfl (c_ 93 rfl (c_ 92 rfl (c_ 91 rfl (c_ 90 rfl (c_ 89 rfl (c_ 88 rfl (c_ 87 rfl (c_ 86 rfl (c_ 85 rfl (c_ 84 rfl (c_ 83 rfl (c_ 79 rfl (c_ 78 rfl (c_ 77 rfl (c_ 76 rfl (c_ 0 rfl (c_ 1 rfl (c_ 2 rfl (c_ 3 rfl (c_ 13 rfl (c_ 14 rfl (c_ 15 rfl (c_ 16 rfl (n_)))))))))))))))))))))))))))))
           rw [ginv_fld hp hxl hx0, ← hcell, ← hga, ← hgb] at hF
           refine W_reg rfl (fun K hK => ?_)
           refine sv2 hF (v_move rfl) (v_move rfl) rfl rfl ?_; clear hF a; intro a hF
           refine s_bs (D := FDx) (B := B) hF sl37 rfl rfl (by decide) (by simp [Value.cells]) (by decide) hS.inv rfl ?_; clear hF a; intro w' a hm hI' hL hF
           replace hx := hx.mb hm (fun _ h => by cases h)
           replace hy := hy.mb hm (fun _ h => by cases h)
           replace hMO := hMO.mb0 hm
           replace hKs := Nat.le_trans hKs hm.size
           replace hO := hO.mb hm (fun _ _ => by simp)
           replace hS := hS.mb0 hm
           clear hm hI'
           refine s_app (D := FDx) (B := B) hF rfl sl37 rfl rfl hO (hL.row (by decide)) (by simp [Value.oneCell']) (by simp; omega) (by simp [maxLen]; omega) (hKs) (by decide) hS.inv rfl ?_; clear hF a; intro v' b' w' a ho' hm hI' hb' hF
           replace hx := hx.mb hm (fun k h => Nat.le_trans (Nat.le_trans hM hNK) (hO.lt k h).1)
           replace hy := hy.mb hm (fun k h => Nat.le_trans (Nat.le_trans hM hNK) (hO.lt k h).1)
           replace hMO := hMO.mbo hm hO (by decide) (Nat.le_refl _) (Nat.zero_le _)
           replace hKs := Nat.le_trans hKs hm.size
           replace hS := hS.mb hm (fun k h => Nat.le_trans (hNK) (hO.lt k h).1)
           replace hO := ho'
           clear hm hI' ho'
           refine sv hF (v_assign rfl) rfl ?_; clear hF a; intro a hF
           refine WL_nil (hK _ _ ?_)
           clear hK K
           refine W_reg rfl (fun K hK => ?_)
           refine sv hF (v_move rfl) rfl ?_; clear hF a; intro a hF
           refine sv hF (v_addI rfl rfl (by omega)) rfl ?_; clear hF a; intro a hF
           refine sv hF (v_assign rfl) rfl ?_; clear hF a; intro a hF
           refine WL_nil (hK _ _ ?_)
           clear hK K
           exact ⟨q3 - 1, by omega, j + 1, _, _, hF.sub _ (c_ 0 rfl (c_ 1 rfl (c_ 2 rfl (c_ 3 rfl (c_ 13 rfl (c_ 14 rfl (c_ 15 rfl (c_ 16 rfl (n_))))))))), hS, hx, hy, hMO, hKs, hO.cast (by rw [List.range_succ, List.map_append]; simp [zints]), by omega, by omega⟩
          ·
           skip
           try simp only [dcl] at hc10
           have hje : j = y.length := by omega
           rw [hje] at hO
           refine W_exit rfl ?_
           refine W_reg rfl (fun K hK => ?_)
           refine sv2 hF (v_move rfl) (v_move rfl) rfl rfl ?_; clear hF a; intro a hF
           obtain ⟨a_, c_r, rfl⟩ := hO.shape
           refine s_bs (D := FDx) (B := B) hF sl27 rfl rfl (by decide) (by simp [Value.cells]) (by decide) hS.inv rfl ?_; clear hF a; intro w' a hm hI' hL hF
           replace hx := hx.mb hm (fun _ h => by cases h)
           replace hy := hy.mb hm (fun _ h => by cases h)
           replace hMO := hMO.mb0 hm
           replace hKs := Nat.le_trans hKs hm.size
           replace hO := hO.mb hm (fun _ _ => by simp)
           replace hS := hS.mb0 hm
           clear hm hI'
           replace hMO := hMO.up hKs
           clear hKs
           refine s_appM (D := FDx) (B := B) hF rfl sl27 rfl rfl hMO hL (.of (r := trow y.length (ofT hp x y) i) hO (Nat.zero_le _)) rfl rfl (by simp; omega) (hS.ext.size) (by decide) (by decide) hS.inv rfl ?_; clear hF a; intro v' b' w' a ho' hm hI' hF
           replace hx := hx.mb hm (fun k h => Nat.le_trans (hM) (hMO.lt k h).1)
           replace hy := hy.mb hm (fun k h => Nat.le_trans (hM) (hMO.lt k h).1)
           replace hS := hS.mb hm (fun k h => (hMO.lt k h).1)
           have hKm := hm.size
           replace hMO := ho'
           clear hm hI' ho' hL
           refine sv hF (v_assign rfl) rfl ?_; clear hF a; intro a hF
           refine WL_nil (hK _ _ ?_)
           clear hK K
           refine W_reg rfl (fun K hK => ?_)
           refine sv hF (v_move rfl) rfl ?_; clear hF a; intro a hF
           refine sv hF (v_addI rfl rfl (by omega)) rfl ?_; clear hF a; intro a hF
           refine sv hF (v_assign rfl) rfl ?_; clear hF a; intro a hF
           refine WL_nil (hK _ _ ?_)
           clear hK K
           exact ⟨q2 - 1, by omega, i + 1, _, _, hF.sub _ (c_ 0 rfl (c_ 1 rfl (c_ 2 rfl (c_ 3 rfl (c_ 13 rfl (c_ 14 rfl (n_))))))), hS, hx, hy, (hMO.up hKm).cast (by rw [List.range_succ, List.map_append]; rfl), by omega, by omega⟩
        ·
         skip
         try simp only [dcl] at hc9
         refine W_exit rfl ?_
         refine W_sr rfl (fun K hK => ?_)
         refine sv3 hF (v_move rfl) (v_assign rfl) (v_assign rfl) rfl rfl rfl ?_; clear hF a; intro a hF
         refine WL_nil (hK _ _ ?_)
         clear hK K
         refine W_ret ?_
         refine ⟨_, _, _, hF, rfl, rfl, ?_⟩
         obtain rfl : i = x.length := by omega
         rw [ofM_is hp (ofB_ok hln hnd hbd)]
         exact ⟨_, _, rfl, (hMO.up hKs).cast rfl, hS⟩

set_option maxRecDepth 100000 in
set_option maxHeartbeats 1000000 in
theorem rOrig_ok (B wb p : Nat) (hp : Prm wb p) (k m : Int) (w : World) (hI : Inv FDx B w) : Ret Try.prog 34 [.int .i64 (wb : Int), .int .u32 (p : Int), .int .i64 k, .int .i64 m] w fun v w' => ∃ ob u, v = .tuple #[u, .bool (origM hp k m).isSome] ∧ MOwn FDx B w.heap.size 0 w'.heap.size w' 37 u ob ((origM hp k m).getD []) ∧ St FDx B w w' := by
 refine enter2 24 [(0, .int .i64 (wb : Int)), (1, .int .u32 (p : Int)), (2, .int .i64 k), (3, .int .i64 m)] 8 9 Try.func34 rfl rfl rfl rfl rfl ?_; intro a hF
 have hS := St.refl hI
 refine W_sr rfl (fun K hK => ?_)
 refine sv2 hF (v_assign rfl) (v_assign rfl) rfl rfl ?_; clear hF a; intro a hF
 refine WL_nil (hK _ _ ?_)
 clear hK K
 refine W_seq ?_
 refine W_sr rfl (fun K hK => ?_)
 refine sv2 hF (v_move rfl) (v_move rfl) rfl rfl ?_; clear hF a; intro a hF
 refine sc hF rfl rfl rfl en43 rfl (rFits_ok wb p k m _) ?_; clear hF a; intro v w' a hv hF
 obtain ⟨rfl, hw⟩ := hv
 obtain rfl := hw.symm
 have hS' := St.refl hS.inv
 replace hS := hS.trans hS'
 clear hS'
 refine sv hF (v_not rfl) rfl ?_; clear hF a; intro a hF
 refine WL_nil (hK _ _ ?_)
 clear hK K
 replace hF := hF.sub _ (c_ 13 rfl (c_ 9 rfl (c_ 8 rfl (c_ 0 rfl (c_ 1 rfl (c_ 2 rfl (c_ 3 rfl (n_))))))))
 refine W_if hF rfl (fun hc1 => ?_) (fun hc1 => ?_)
 ·
  skip
  try simp only [dcl] at hc1
  refine W_sr rfl (fun K hK => ?_)
  refine sv2 hF (v_assign rfl) (v_assign rfl) rfl rfl ?_; clear hF a; intro a hF
  refine WL_nil (hK _ _ ?_)
  clear hK K
  replace hF := hF.sub _ (c_ 9 rfl (c_ 8 rfl (c_ 0 rfl (c_ 1 rfl (c_ 2 rfl (c_ 3 rfl (n_)))))))
  refine W_ret ?_
  refine ⟨_, _, _, hF, rfl, rfl, ?_⟩
  rw [origM_no hp (show fitB (some (wb, p)) k m = false by simpa using hc1)]
  exact ⟨none, _, rfl, MOwn.nil _ _ _ _ _ _ _ (Nat.zero_le _), hS⟩
 ·
  skip
  try simp only [dcl] at hc1
  refine W_skip ?_
  have hb : fitB (some (wb, p)) k m = true := by simpa using hc1
  obtain ⟨-, hb2⟩ := fitB_iff.1 hb
  obtain ⟨kn, rfl⟩ : ∃ n : Nat, k = (n : Int) := ⟨k.toNat, by omega⟩
  obtain ⟨mn, rfl⟩ : ∃ n : Nat, m = (n : Int) := ⟨m.toNat, by omega⟩
  refine W_sr rfl (fun K hK => ?_)
  refine sv3 hF (v_move rfl) (v_move rfl) (v_move rfl) rfl rfl rfl ?_; clear hF a; intro a hF
  refine sc hF rfl rfl rfl en70 rfl (rfrom_ok B 0 mn _ hS.inv (by omega)) ?_; clear hF a; intro v w' a hv hF
  obtain ⟨obX, hOX, hS'⟩ := hv
  obtain ⟨gX, cX, rfl, rfl⟩ := hOX.ptr (by rw [zints_length, rnL_length]; omega)
  have hX : Row FDx B _ _ _ (zints (rnL 0 mn)) := hOX.row (by decide)
  rw [zints_length] at hX hF
  clear hOX
  replace hS := hS.trans hS'
  clear hS'
  refine sv2 hF (v_move rfl) (v_move rfl) rfl rfl ?_; clear hF a; intro a hF
  refine sc hF rfl rfl rfl en70 rfl (rfrom_ok B mn kn _ hS.inv (by omega)) ?_; clear hF a; intro v w' a hv hF
  obtain ⟨obY, hOY, hS'⟩ := hv
  obtain ⟨gY, cY, rfl, rfl⟩ := hOY.ptr (by rw [zints_length, rnL_length]; omega)
  have hY : Row FDx B _ _ _ (zints (rnL mn kn)) := hOY.row (by decide)
  rw [zints_length] at hY hF
  clear hOY
  replace hX := (hX.st hS').mono hS'.ext.size
  replace hS := hS.trans hS'
  clear hS'
  refine sc hF rfl rfl rfl en25 rfl (rOf_ok B _ wb p hp _ _ _ _ (rnL 0 mn) (rnL mn kn) _ hS.inv (Nat.le_refl _) hX hY ⟨by rw [rnL_length]; simp only [maxLen]; omega, by rw [rnL_length]; simp only [maxLen]; omega⟩) ?_; clear hF a; intro v w' a hv hF
  obtain ⟨ob, u, rfl, hMO, hS'⟩ := hv
  replace hMO := hMO.le hS.ext.size (Nat.zero_le _)
  replace hS := hS.trans hS'
  clear hS'
  refine sv4 hF (v_ext rfl rfl) (v_ext rfl rfl) (v_assign rfl) (v_assign rfl) rfl rfl rfl rfl ?_; clear hF a; intro a hF
  refine WL_nil (hK _ _ ?_)
  clear hK K
  replace hF := hF.sub _ (c_ 9 rfl (c_ 8 rfl (n_)))
  refine W_ret ?_
  refine ⟨_, _, _, hF, rfl, rfl, ?_⟩
  rw [show origM hp (kn : Int) (mn : Int) = ofM hp (rnL 0 mn) (rnL mn kn) by unfold origM; rw [if_pos hb]; rfl]
  exact ⟨_, _, rfl, hMO, hS⟩

set_option maxRecDepth 100000 in
set_option maxHeartbeats 1000000 in
theorem rCIsal_ok (B wb p : Nat) (hp : Prm wb p) (k m : Int) (w : World) (hI : Inv FDx B w) : Ret Try.prog 36 [.int .i64 (wb : Int), .int .u32 (p : Int), .int .i64 k, .int .i64 m] w fun v w' => ∃ ob u, v = .tuple #[u, .bool (cisaM hp k m).isSome] ∧ MOwn FDx B w.heap.size 0 w'.heap.size w' 37 u ob ((cisaM hp k m).getD []) ∧ St FDx B w w' := by
 refine enter2 24 [(0, .int .i64 (wb : Int)), (1, .int .u32 (p : Int)), (2, .int .i64 k), (3, .int .i64 m)] 8 9 Try.func36 rfl rfl rfl rfl rfl ?_; intro a hF
 have hS := St.refl hI
 refine W_sr rfl (fun K hK => ?_)
 refine sv2 hF (v_assign rfl) (v_assign rfl) rfl rfl ?_; clear hF a; intro a hF
 refine WL_nil (hK _ _ ?_)
 clear hK K
 refine W_seq ?_
 refine W_sr rfl (fun K hK => ?_)
 refine sv2 hF (v_move rfl) (v_move rfl) rfl rfl ?_; clear hF a; intro a hF
 refine sc hF rfl rfl rfl en43 rfl (rFits_ok wb p k m _) ?_; clear hF a; intro v w' a hv hF
 obtain ⟨rfl, hw⟩ := hv
 obtain rfl := hw.symm
 have hS' := St.refl hS.inv
 replace hS := hS.trans hS'
 clear hS'
 refine sv hF (v_not rfl) rfl ?_; clear hF a; intro a hF
 refine WL_nil (hK _ _ ?_)
 clear hK K
 replace hF := hF.sub _ (c_ 13 rfl (c_ 9 rfl (c_ 8 rfl (c_ 0 rfl (c_ 1 rfl (c_ 2 rfl (c_ 3 rfl (n_))))))))
 refine W_if hF rfl (fun hc1 => ?_) (fun hc1 => ?_)
 ·
  skip
  try simp only [dcl] at hc1
  refine W_sr rfl (fun K hK => ?_)
  refine sv2 hF (v_assign rfl) (v_assign rfl) rfl rfl ?_; clear hF a; intro a hF
  refine WL_nil (hK _ _ ?_)
  clear hK K
  replace hF := hF.sub _ (c_ 9 rfl (c_ 8 rfl (c_ 0 rfl (c_ 1 rfl (c_ 2 rfl (c_ 3 rfl (n_)))))))
  refine W_ret ?_
  refine ⟨_, _, _, hF, rfl, rfl, ?_⟩
  rw [cisaM_no hp (show fitB (some (wb, p)) k m = false by simpa using hc1)]
  exact ⟨none, _, rfl, MOwn.nil _ _ _ _ _ _ _ (Nat.zero_le _), hS⟩
 ·
  skip
  try simp only [dcl] at hc1
  refine W_skip ?_
  have hb : fitB (some (wb, p)) k m = true := by simpa using hc1
  obtain ⟨-, hb2⟩ := fitB_iff.1 hb
  obtain ⟨kn, rfl⟩ : ∃ n : Nat, k = (n : Int) := ⟨k.toNat, by omega⟩
  obtain ⟨mn, rfl⟩ : ∃ n : Nat, m = (n : Int) := ⟨m.toNat, by omega⟩
  refine W_sr rfl (fun K hK => ?_)
  refine sv4 hF (v_move rfl) (v_move rfl) (v_move rfl) (v_move rfl) rfl rfl rfl rfl ?_; clear hF a; intro a hF
  refine sc hF rfl rfl rfl en70 rfl (rfrom_ok B kn mn _ hS.inv (by omega)) ?_; clear hF a; intro v w' a hv hF
  obtain ⟨obX, hOX, hS'⟩ := hv
  obtain ⟨gX, cX, rfl, rfl⟩ := hOX.ptr (by rw [zints_length, rnL_length]; omega)
  have hX : Row FDx B _ _ _ (zints (rnL kn mn)) := hOX.row (by decide)
  rw [zints_length] at hX hF
  clear hOX
  replace hS := hS.trans hS'
  clear hS'
  refine sv hF (v_move rfl) rfl ?_; clear hF a; intro a hF
  refine sc hF rfl rfl rfl en70 rfl (rfrom_ok B 0 kn _ hS.inv (by omega)) ?_; clear hF a; intro v w' a hv hF
  obtain ⟨obY, hOY, hS'⟩ := hv
  obtain ⟨gY, cY, rfl, rfl⟩ := hOY.ptr (by rw [zints_length, rnL_length]; omega)
  have hY : Row FDx B _ _ _ (zints (rnL 0 kn)) := hOY.row (by decide)
  rw [zints_length] at hY hF
  clear hOY
  replace hX := (hX.st hS').mono hS'.ext.size
  replace hS := hS.trans hS'
  clear hS'
  refine sc hF rfl rfl rfl en25 rfl (rOf_ok B _ wb p hp _ _ _ _ (rnL kn mn) (rnL 0 kn) _ hS.inv (Nat.le_refl _) hX hY ⟨by rw [rnL_length]; simp only [maxLen]; omega, by rw [rnL_length]; simp only [maxLen]; omega⟩) ?_; clear hF a; intro v w' a hv hF
  obtain ⟨ob, u, rfl, hMO, hS'⟩ := hv
  replace hMO := hMO.le hS.ext.size (Nat.zero_le _)
  replace hS := hS.trans hS'
  clear hS'
  refine sv4 hF (v_ext rfl rfl) (v_ext rfl rfl) (v_assign rfl) (v_assign rfl) rfl rfl rfl rfl ?_; clear hF a; intro a hF
  refine WL_nil (hK _ _ ?_)
  clear hK K
  replace hF := hF.sub _ (c_ 9 rfl (c_ 8 rfl (n_)))
  refine W_ret ?_
  refine ⟨_, _, _, hF, rfl, rfl, ?_⟩
  rw [show cisaM hp (kn : Int) (mn : Int) = ofM hp (rnL kn mn) (rnL 0 kn) by unfold cisaM; rw [if_pos hb]; rfl]
  exact ⟨_, _, rfl, hMO, hS⟩

end Go.Proofs.Ytaeljbdpjiciaaa
