/- Texts of the claim CauchySafe (part 9), put together in the order of their imports. -/
import Derived.Test.YtaeljbdpjiciaaaGreatKCauchySafe8
/- The walks of gambrelref02: what the document asks of a field. -/
set_option linter.unusedVariables false
set_option linter.unusedSimpArgs false
namespace Go.Proofs.YtaeljbdpjiciaaaGreat
open Go Go.Gam


namespace FxFRef02
theorem en37 : Ent Tryz.prog 37 := ent Tryz.func37 (by kernel_rfl) (by kernel_rfl)
theorem en54 : Ent Tryz.prog 54 := ent Tryz.func54 (by kernel_rfl) (by kernel_rfl)
theorem en65 : Ent Tryz.prog 65 := ent Tryz.func65 (by kernel_rfl) (by kernel_rfl)
theorem en70 : Ent Tryz.prog 70 := ent Tryz.func70 (by kernel_rfl) (by kernel_rfl)
theorem en71 : Ent Tryz.prog 71 := ent Tryz.func71 (by kernel_rfl) (by kernel_rfl)
end FxFRef02
open FxFRef02

set_option maxRecDepth 100000 in
set_option maxHeartbeats 1000000 in
theorem rsize_ok (wb : Nat) (w : World) (hwb : wb ≤ 16) : Ret Tryz.prog 54 [.int .i64 (wb : Int)] w fun v w' => v = .int .i64 ((2 ^ wb : Nat) : Int) ∧ w' = w := by
 refine enter 13 [(0, .int .i64 (wb : Int))] 2 Tryz.func54 rfl rfl rfl rfl rfl ?_; intro a hF
 refine W_sr rfl (fun K hK => ?_)
 refine sv hF (v_assign rfl) rfl ?_; clear hF a; intro a hF
 refine WL_nil (hK _ _ ?_)
 clear hK K
 refine W_sr rfl (fun K hK => ?_)
 refine sv hF (v_assign rfl) rfl ?_; clear hF a; intro a hF
 refine WL_nil (hK _ _ ?_)
 clear hK K
 refine W_seq ?_
 refine W_sr rfl (fun K hK => ?_)
 refine sv hF (v_assign rfl) rfl ?_; clear hF a; intro a hF
 refine WL_nil (hK _ _ ?_)
 clear hK K
 refine W_block ?_
 refine W_loop (fun m a w1 => ∃ i : Nat, Fr 13 [(0, .int .i64 (wb : Int)), (3, .int .i64 ((2 ^ i : Nat) : Int)), (4, .int .i64 (i : Int))] a ∧ w = w1 ∧ i ≤ wb ∧ m + i = wb) (wb) ?_ ?_
 ·
  skip
  exact ⟨0, hF.sub _ (c_ 0 rfl (c_ 3 rfl (c_ 4 rfl n_))), rfl, by omega, by omega⟩
 ·
  skip
  clear hF
  rintro m a _ ⟨i, hF, rfl, hi, hm⟩
  refine W_seq ?_
  refine W_sr rfl (fun K hK => ?_)
  refine sv2 hF (v_move rfl) (v_move rfl) rfl rfl ?_; clear hF a; intro a hF
  refine sv hF (v_lss rfl rfl) rfl ?_; clear hF a; intro a hF
  refine WL_nil (hK _ _ ?_)
  clear hK K
  replace hF := hF.sub _ (c_ 7 rfl (c_ 0 rfl (c_ 3 rfl (c_ 4 rfl (n_)))))
  refine W_if hF rfl (fun hc1 => ?_) (fun hc1 => ?_)
  ·
   skip
   try simp only [dcl] at hc1
   refine W_skip ?_
   refine W_seq ?_
   refine W_block ?_
   have h16 := two_pow16 (d := i) (by omega)
   have hs : 2 ^ (i + 1) = 2 * 2 ^ i := by rw [Nat.pow_succ, Nat.mul_comm]
   refine W_reg rfl (fun K hK => ?_)
   refine sv hF (v_move rfl) rfl ?_; clear hF a; intro a hF
   refine sv hF ((v_mulI rfl rfl (by omega)).as (congrArg _ (show (2 : Int) * ((2 ^ i : Nat) : Int) = ((2 ^ (i + 1) : Nat) : Int) by omega))) rfl ?_; clear hF a; intro a hF
   refine sv hF (v_assign rfl) rfl ?_; clear hF a; intro a hF
   refine WL_nil (hK _ _ ?_)
   clear hK K
   replace hF := hF.sub _ (c_ 3 rfl (c_ 0 rfl (c_ 4 rfl (n_))))
   refine W_reg rfl (fun K hK => ?_)
   refine sv hF (v_move rfl) rfl ?_; clear hF a; intro a hF
   refine sv hF (v_addI rfl rfl (by omega)) rfl ?_; clear hF a; intro a hF
   refine sv hF (v_assign rfl) rfl ?_; clear hF a; intro a hF
   refine WL_nil (hK _ _ ?_)
   clear hK K
   exact ⟨m - 1, by omega, i + 1, hF.sub _ (c_ 0 rfl (c_ 3 rfl (c_ 4 rfl n_))), rfl, by omega, by omega⟩
  ·
   skip
   try simp only [dcl] at hc1
   refine W_exit rfl ?_
   refine W_sr rfl (fun K hK => ?_)
   refine sv2 hF (v_move rfl) (v_assign rfl) rfl rfl ?_; clear hF a; intro a hF
   refine WL_nil (hK _ _ ?_)
   clear hK K
   replace hF := hF.sub _ (c_ 2 rfl (c_ 12 rfl (c_ 0 rfl (c_ 3 rfl (c_ 4 rfl (n_))))))
   refine W_ret ?_
   refine ⟨_, _, hF, rfl, ?_⟩
   obtain rfl : i = wb := by omega
   exact ⟨rfl, rfl⟩

set_option maxRecDepth 100000 in
set_option maxHeartbeats 1000000 in
theorem rIn_ok (B wb p : Nat) (ia : Int) (w : World) (hI : Inv FDx B w) (hwb : wb ≤ 16) : Ret Tryz.prog 37 [.int .i64 (wb : Int), .int .i64 ia] w fun v w' => v = .bool (inF (some (wb, p)) ia) ∧ w' = w := by
 refine enter 13 [(0, .int .i64 (wb : Int)), (1, .int .i64 ia)] 4 Tryz.func37 rfl rfl rfl rfl rfl ?_; intro a hF
 refine W_sr rfl (fun K hK => ?_)
 refine sv hF (v_assign rfl) rfl ?_; clear hF a; intro a hF
 refine WL_nil (hK _ _ ?_)
 clear hK K
 refine W_sr rfl (fun K hK => ?_)
 refine sv hF (v_move rfl) rfl ?_; clear hF a; intro a hF
 refine sb hF (v_geq rfl rfl) rfl ?_ ?_
 ·
  clear hF a; intro hc1 a hF
  try simp only [dcl] at hc1
  refine sv hF (v_move rfl) rfl ?_; clear hF a; intro a hF
  refine svg hF rfl ?_
  refine sv hF (v_move rfl) rfl ?_; clear hF a; intro a hF
  refine svg hF rfl ?_
  refine sv hF (v_move rfl) rfl ?_; clear hF a; intro a hF
  refine svg hF rfl ?_
  refine sc hF rfl rfl rfl en54 rfl (rsize_ok wb _ (by omega)) ?_; clear hF a; intro v w' a hv hF
  obtain ⟨rfl, rfl⟩ := hv
  skip
  refine svg hF rfl ?_
  refine sv hF (v_lss rfl rfl) rfl ?_; clear hF a; intro a hF
  refine sv2 hF (v_pickT rfl rfl) (v_assign rfl) rfl rfl ?_; clear hF a; intro a hF
  refine WL_nil (hK _ _ ?_)
  clear hK K
  replace hF := hF.sub _ (c_ 4 rfl (n_))
  refine W_ret ?_
  refine ⟨_, _, hF, rfl, ?_⟩
  refine ⟨congrArg _ ?_, rfl⟩
  rw [Bool.eq_iff_iff, inF_some, decide_eq_true_iff]; omega
 ·
  clear hF a; intro hc1 a hF
  try simp only [dcl] at hc1
  refine sv hF (v_move rfl) rfl ?_; clear hF a; intro a hF
  refine svn hF rfl rfl rfl ?_; clear hF a; intro a hF
  refine svn hF rfl rfl rfl ?_; clear hF a; intro a hF
  refine svn hF rfl rfl rfl ?_; clear hF a; intro a hF
  refine svn hF rfl rfl rfl ?_; clear hF a; intro a hF
  refine sv2 hF (v_pickF rfl rfl) (v_assign rfl) rfl rfl ?_; clear hF a; intro a hF
  refine WL_nil (hK _ _ ?_)
  clear hK K
  replace hF := hF.sub _ (c_ 4 rfl (n_))
  refine W_ret ?_
  refine ⟨_, _, hF, rfl, ?_⟩
  refine ⟨congrArg _ (Eq.symm ?_), rfl⟩
  rw [Bool.eq_false_iff, Ne, inF_some]; omega

set_option maxRecDepth 100000 in
set_option maxHeartbeats 1000000 in
theorem rMul_gf (B wb p : Nat) (ia ib : Int) (w : World) (hI : Inv FDx B w) (hp : Prm wb p) : Ret Tryz.prog 66 [.int .i64 (wb : Int), .int .u32 (p : Int), .int .i64 ia, .int .i64 ib] w fun v w' => v = .int .i64 (gmul (some (wb, p)) ia ib) ∧ St FDx B w w' := by
 refine enter 26 [(0, .int .i64 (wb : Int)), (1, .int .u32 (p : Int)), (2, .int .i64 ia), (3, .int .i64 ib)] 8 Tryz.func66 rfl rfl rfl rfl rfl ?_; intro a hF
 have hS := St.refl hI
 have hsz := hp.size
 have hwb : wb ≤ 16 := by have := hp.w; omega
 have hplt := hp.lt
 refine W_sr rfl (fun K hK => ?_)
 refine sv hF (v_assign rfl) rfl ?_; clear hF a; intro a hF
 refine WL_nil (hK _ _ ?_)
 clear hK K
 refine W_seq ?_
 refine W_sr rfl (fun K hK => ?_)
 refine sv2 hF (v_move rfl) (v_move rfl) rfl rfl ?_; clear hF a; intro a hF
 refine sc hF rfl rfl rfl en37 rfl (rIn_ok B wb p ia _ hS.inv (by omega)) ?_; clear hF a; intro v w' a hv hF
 obtain ⟨rfl, hw⟩ := hv
 obtain rfl := hw.symm
 have hS' := St.refl hS.inv
 replace hS := hS.trans hS'
 clear hS'
 refine sb hF (v_not rfl) rfl ?_ ?_
 ·
  clear hF a; intro hc1 a hF
  try simp only [dcl] at hc1
  refine sv hF (v_move rfl) rfl ?_; clear hF a; intro a hF
  refine svn hF rfl rfl rfl ?_; clear hF a; intro a hF
  refine svn hF rfl rfl rfl ?_; clear hF a; intro a hF
  refine svn hF rfl rfl rfl ?_; clear hF a; intro a hF
  refine svn hF rfl rfl rfl ?_; clear hF a; intro a hF
  refine sv hF (v_pickT rfl rfl) rfl ?_; clear hF a; intro a hF
  refine WL_nil (hK _ _ ?_)
  clear hK K
  replace hF := hF.sub _ (c_ 18 rfl (c_ 8 rfl (c_ 1 rfl (c_ 2 rfl (c_ 3 rfl (n_))))))
  refine W_ifT hF rfl ?_
  refine W_sr rfl (fun K hK => ?_)
  refine sv hF (v_assign rfl) rfl ?_; clear hF a; intro a hF
  refine WL_nil (hK _ _ ?_)
  clear hK K
  replace hF := hF.sub _ (c_ 8 rfl (c_ 1 rfl (c_ 2 rfl (c_ 3 rfl (n_)))))
  refine W_ret ?_
  refine ⟨_, _, hF, rfl, ?_⟩
  exact ⟨by rw [gmul_out (by rw [all2, hc1]; rfl)], hS⟩
 ·
  clear hF a; intro hc1 a hF
  try simp only [dcl] at hc1
  refine sv hF (v_move rfl) rfl ?_; clear hF a; intro a hF
  refine svg hF rfl ?_
  refine sv hF (v_move rfl) rfl ?_; clear hF a; intro a hF
  refine svg hF rfl ?_
  refine sv hF (v_move rfl) rfl ?_; clear hF a; intro a hF
  refine svg hF rfl ?_
  refine sc hF rfl rfl rfl en37 rfl (rIn_ok B wb p ib _ hS.inv (by omega)) ?_; clear hF a; intro v w' a hv hF
  obtain ⟨rfl, hw⟩ := hv
  obtain rfl := hw.symm
  have hS' := St.refl hS.inv
  replace hS := hS.trans hS'
  clear hS'
  refine svg hF rfl ?_
  refine sv hF (v_not rfl) rfl ?_; clear hF a; intro a hF
  refine sv hF (v_pickF rfl rfl) rfl ?_; clear hF a; intro a hF
  refine WL_nil (hK _ _ ?_)
  clear hK K
  replace hF := hF.sub _ (c_ 18 rfl (c_ 8 rfl (c_ 1 rfl (c_ 2 rfl (c_ 3 rfl (n_))))))
  refine W_if hF rfl (fun hc2 => ?_) (fun hc2 => ?_)
  ·
   skip
   try simp only [dcl] at hc2
   refine W_sr rfl (fun K hK => ?_)
   refine sv hF (v_assign rfl) rfl ?_; clear hF a; intro a hF
   refine WL_nil (hK _ _ ?_)
   clear hK K
   replace hF := hF.sub _ (c_ 8 rfl (c_ 1 rfl (c_ 2 rfl (c_ 3 rfl (n_)))))
   refine W_ret ?_
   refine ⟨_, _, hF, rfl, ?_⟩
   exact ⟨by rw [gmul_out (by rw [all2, hc2]; simp)], hS⟩
  ·
   skip
   try simp only [dcl] at hc2
   refine W_skip ?_
   obtain ⟨x, rfl, hx⟩ := inF_nat hc1
   obtain ⟨y, rfl, hy⟩ := inF_nat hc2
   have hml := hp.mulMod_lt x y
   refine W_sr rfl (fun K hK => ?_)
   refine sv hF (v_move rfl) rfl ?_; clear hF a; intro a hF
   refine sv hF (v_cv Tryz.underlying3 Tryz.underlying26 rfl (wrap_u32 _ (by omega))) rfl ?_; clear hF a; intro a hF
   refine sv hF (v_move rfl) rfl ?_; clear hF a; intro a hF
   refine sv hF (v_cv Tryz.underlying3 Tryz.underlying26 rfl (wrap_u32 _ (by omega))) rfl ?_; clear hF a; intro a hF
   refine sv hF (v_move rfl) rfl ?_; clear hF a; intro a hF
   refine sc hF rfl rfl rfl en71 rfl (rMulMod_ok B x y p _ hS.inv (by omega) (by omega) (by omega)) ?_; clear hF a; intro v w' a hv hF
   obtain ⟨rfl, hS'⟩ := hv
   replace hS := hS.trans hS'
   clear hS'
   refine sv hF (v_cv Tryz.underlying26 Tryz.underlying3 rfl (wrap_i64 _ (by omega))) rfl ?_; clear hF a; intro a hF
   refine sv hF (v_assign rfl) rfl ?_; clear hF a; intro a hF
   refine WL_nil (hK _ _ ?_)
   clear hK K
   replace hF := hF.sub _ (c_ 8 rfl (n_))
   refine W_ret ?_
   refine ⟨_, _, hF, rfl, ?_⟩
   exact ⟨by rw [gmul_in hx hy], hS⟩

set_option maxRecDepth 100000 in
set_option maxHeartbeats 1000000 in
theorem rPow_gf (B wb p : Nat) (ia n : Int) (w : World) (hI : Inv FDx B w) (hp : Prm wb p) (hn : -9223372036854775808 ≤ n ∧ n < 9223372036854775808) : Ret Tryz.prog 65 [.int .i64 (wb : Int), .int .u32 (p : Int), .int .i64 ia, .int .i64 n] w fun v w' => v = .int .i64 (gpow (some (wb, p)) ia n) ∧ St FDx B w w' := by
 refine enter 24 [(0, .int .i64 (wb : Int)), (1, .int .u32 (p : Int)), (2, .int .i64 ia), (3, .int .i64 n)] 8 Tryz.func65 rfl rfl rfl rfl rfl ?_; intro a hF
 have hS := St.refl hI
 have hsz := hp.size
 have hwb : wb ≤ 16 := by have := hp.w; omega
 have hplt := hp.lt
 refine W_sr rfl (fun K hK => ?_)
 refine sv hF (v_assign rfl) rfl ?_; clear hF a; intro a hF
 refine WL_nil (hK _ _ ?_)
 clear hK K
 refine W_seq ?_
 refine W_sr rfl (fun K hK => ?_)
 refine sv2 hF (v_move rfl) (v_move rfl) rfl rfl ?_; clear hF a; intro a hF
 refine sc hF rfl rfl rfl en37 rfl (rIn_ok B wb p ia _ hS.inv (by omega)) ?_; clear hF a; intro v w' a hv hF
 obtain ⟨rfl, hw⟩ := hv
 obtain rfl := hw.symm
 have hS' := St.refl hS.inv
 replace hS := hS.trans hS'
 clear hS'
 refine sb hF (v_not rfl) rfl ?_ ?_
 ·
  clear hF a; intro hc1 a hF
  try simp only [dcl] at hc1
  refine sv hF (v_move rfl) rfl ?_; clear hF a; intro a hF
  refine svn hF rfl rfl rfl ?_; clear hF a; intro a hF
  refine svn hF rfl rfl rfl ?_; clear hF a; intro a hF
  refine sv hF (v_pickT rfl rfl) rfl ?_; clear hF a; intro a hF
  refine WL_nil (hK _ _ ?_)
  clear hK K
  replace hF := hF.sub _ (c_ 16 rfl (c_ 8 rfl (c_ 1 rfl (c_ 2 rfl (c_ 3 rfl (n_))))))
  refine W_ifT hF rfl ?_
  refine W_sr rfl (fun K hK => ?_)
  refine sv hF (v_assign rfl) rfl ?_; clear hF a; intro a hF
  refine WL_nil (hK _ _ ?_)
  clear hK K
  replace hF := hF.sub _ (c_ 8 rfl (c_ 1 rfl (c_ 2 rfl (c_ 3 rfl (n_)))))
  refine W_ret ?_
  refine ⟨_, _, hF, rfl, ?_⟩
  exact ⟨by rw [gpow_out (.inl hc1)], hS⟩
 ·
  clear hF a; intro hc1 a hF
  try simp only [dcl] at hc1
  refine sv hF (v_move rfl) rfl ?_; clear hF a; intro a hF
  refine svg hF rfl ?_
  refine sv hF (v_move rfl) rfl ?_; clear hF a; intro a hF
  refine svg hF rfl ?_
  refine sv hF (v_lss rfl rfl) rfl ?_; clear hF a; intro a hF
  refine sv hF (v_pickF rfl rfl) rfl ?_; clear hF a; intro a hF
  refine WL_nil (hK _ _ ?_)
  clear hK K
  replace hF := hF.sub _ (c_ 16 rfl (c_ 8 rfl (c_ 1 rfl (c_ 2 rfl (c_ 3 rfl (n_))))))
  refine W_if hF rfl (fun hc2 => ?_) (fun hc2 => ?_)
  ·
   skip
   try simp only [dcl] at hc2
   refine W_sr rfl (fun K hK => ?_)
   refine sv hF (v_assign rfl) rfl ?_; clear hF a; intro a hF
   refine WL_nil (hK _ _ ?_)
   clear hK K
   replace hF := hF.sub _ (c_ 8 rfl (c_ 1 rfl (c_ 2 rfl (c_ 3 rfl (n_)))))
   refine W_ret ?_
   refine ⟨_, _, hF, rfl, ?_⟩
   exact ⟨by rw [gpow_out (.inr (by omega))], hS⟩
  ·
   skip
   try simp only [dcl] at hc2
   refine W_skip ?_
   obtain ⟨x, rfl, hx⟩ := inF_nat hc1
   obtain ⟨m, rfl⟩ : ∃ m : Nat, n = (m : Int) := ⟨n.toNat, by omega⟩
   have hml := hp.pow_lt x m
   refine W_sr rfl (fun K hK => ?_)
   refine sv hF (v_move rfl) rfl ?_; clear hF a; intro a hF
   refine sv hF (v_cv Tryz.underlying3 Tryz.underlying26 rfl (wrap_u32 _ (by omega))) rfl ?_; clear hF a; intro a hF
   refine sv hF (v_move rfl) rfl ?_; clear hF a; intro a hF
   refine sv hF (v_cv Tryz.underlying3 Tryz.underlying64 rfl (wrap_u64 _ (by omega))) rfl ?_; clear hF a; intro a hF
   refine sv hF (v_move rfl) rfl ?_; clear hF a; intro a hF
   refine sc hF rfl rfl rfl en70 rfl (rPower_ok B x m p _ hS.inv (by omega) (by omega) (by omega)) ?_; clear hF a; intro v w' a hv hF
   obtain ⟨rfl, hS'⟩ := hv
   replace hS := hS.trans hS'
   clear hS'
   rw [powB_one] at hF
   refine sv hF (v_cv Tryz.underlying26 Tryz.underlying3 rfl (wrap_i64 _ (by omega))) rfl ?_; clear hF a; intro a hF
   refine sv hF (v_assign rfl) rfl ?_; clear hF a; intro a hF
   refine WL_nil (hK _ _ ?_)
   clear hK K
   replace hF := hF.sub _ (c_ 8 rfl (n_))
   refine W_ret ?_
   refine ⟨_, _, hF, rfl, ?_⟩
   exact ⟨by rw [gpow_in hx], hS⟩

set_option maxRecDepth 100000 in
set_option maxHeartbeats 1000000 in
theorem rInv_gf (B wb p : Nat) (ia : Int) (w : World) (hI : Inv FDx B w) (hp : Prm wb p) : Ret Tryz.prog 56 [.int .i64 (wb : Int), .int .u32 (p : Int), .int .i64 ia] w fun v w' => v = .tuple #[.int .i64 (ginv (some (wb, p)) ia), .bool (ginvb (some (wb, p)) ia)] ∧ St FDx B w w' := by
 refine enter2 23 [(0, .int .i64 (wb : Int)), (1, .int .u32 (p : Int)), (2, .int .i64 ia)] 6 7 Tryz.func56 rfl rfl rfl rfl rfl ?_; intro a hF
 have hS := St.refl hI
 have hsz := hp.size
 have hwb : wb ≤ 16 := by have := hp.w; omega
 have hplt := hp.lt
 refine W_sr rfl (fun K hK => ?_)
 refine sv2 hF (v_assign rfl) (v_assign rfl) rfl rfl ?_; clear hF a; intro a hF
 refine WL_nil (hK _ _ ?_)
 clear hK K
 refine W_seq ?_
 refine W_sr rfl (fun K hK => ?_)
 refine sv2 hF (v_move rfl) (v_move rfl) rfl rfl ?_; clear hF a; intro a hF
 refine sc hF rfl rfl rfl en37 rfl (rIn_ok B wb p ia _ hS.inv (by omega)) ?_; clear hF a; intro v w' a hv hF
 obtain ⟨rfl, hw⟩ := hv
 obtain rfl := hw.symm
 have hS' := St.refl hS.inv
 replace hS := hS.trans hS'
 clear hS'
 refine sb hF (v_not rfl) rfl ?_ ?_
 ·
  clear hF a; intro hc1 a hF
  try simp only [dcl] at hc1
  refine sv hF (v_move rfl) rfl ?_; clear hF a; intro a hF
  refine svn hF rfl rfl rfl ?_; clear hF a; intro a hF
  refine svn hF rfl rfl rfl ?_; clear hF a; intro a hF
  refine sv hF (v_pickT rfl rfl) rfl ?_; clear hF a; intro a hF
  refine WL_nil (hK _ _ ?_)
  clear hK K
  replace hF := hF.sub _ (c_ 15 rfl (c_ 7 rfl (c_ 6 rfl (c_ 0 rfl (c_ 1 rfl (c_ 2 rfl (n_)))))))
  refine W_ifT hF rfl ?_
  refine W_sr rfl (fun K hK => ?_)
  refine sv2 hF (v_assign rfl) (v_assign rfl) rfl rfl ?_; clear hF a; intro a hF
  refine WL_nil (hK _ _ ?_)
  clear hK K
  replace hF := hF.sub _ (c_ 7 rfl (c_ 6 rfl (c_ 0 rfl (c_ 1 rfl (c_ 2 rfl (n_))))))
  refine W_ret ?_
  refine ⟨_, _, _, hF, rfl, rfl, ?_⟩
  exact ⟨by rw [ginv_out (.inl hc1), ginvb_out (.inl hc1)], hS⟩
 ·
  clear hF a; intro hc1 a hF
  try simp only [dcl] at hc1
  refine sv hF (v_move rfl) rfl ?_; clear hF a; intro a hF
  refine svg hF rfl ?_
  refine sv hF (v_move rfl) rfl ?_; clear hF a; intro a hF
  refine svg hF rfl ?_
  refine sv hF (v_eql rfl rfl) rfl ?_; clear hF a; intro a hF
  refine sv hF (v_pickF rfl rfl) rfl ?_; clear hF a; intro a hF
  refine WL_nil (hK _ _ ?_)
  clear hK K
  replace hF := hF.sub _ (c_ 15 rfl (c_ 7 rfl (c_ 6 rfl (c_ 0 rfl (c_ 1 rfl (c_ 2 rfl (n_)))))))
  refine W_if hF rfl (fun hc2 => ?_) (fun hc2 => ?_)
  ·
   skip
   try simp only [dcl] at hc2
   refine W_sr rfl (fun K hK => ?_)
   refine sv2 hF (v_assign rfl) (v_assign rfl) rfl rfl ?_; clear hF a; intro a hF
   refine WL_nil (hK _ _ ?_)
   clear hK K
   replace hF := hF.sub _ (c_ 7 rfl (c_ 6 rfl (c_ 0 rfl (c_ 1 rfl (c_ 2 rfl (n_))))))
   refine W_ret ?_
   refine ⟨_, _, _, hF, rfl, rfl, ?_⟩
   exact ⟨by rw [ginv_out (.inr (by omega)), ginvb_out (.inr (by omega))], hS⟩
  ·
   skip
   try simp only [dcl] at hc2
   refine W_skip ?_
   refine W_sr rfl (fun K hK => ?_)
   refine sv4 hF (v_move rfl) (v_move rfl) (v_move rfl) (v_move rfl) rfl rfl rfl rfl ?_; clear hF a; intro a hF
   refine sc hF rfl rfl rfl en54 rfl (rsize_ok wb _ (by omega)) ?_; clear hF a; intro v w' a hv hF
   obtain ⟨rfl, hw⟩ := hv
   obtain rfl := hw.symm
   have hS' := St.refl hS.inv
   replace hS := hS.trans hS'
   clear hS'
   refine sv hF (v_subI rfl rfl (by omega)) rfl ?_; clear hF a; intro a hF
   refine sc hF rfl rfl rfl en65 rfl (rPow_gf B wb p ia _ _ hS.inv hp (by omega)) ?_; clear hF a; intro v w' a hv hF
   obtain ⟨rfl, hS'⟩ := hv
   replace hS := hS.trans hS'
   clear hS'
   refine sv2 hF (v_assign rfl) (v_assign rfl) rfl rfl ?_; clear hF a; intro a hF
   refine WL_nil (hK _ _ ?_)
   clear hK K
   replace hF := hF.sub _ (c_ 7 rfl (c_ 6 rfl (n_)))
   refine W_ret ?_
   refine ⟨_, _, _, hF, rfl, rfl, ?_⟩
   exact ⟨by rw [ginv_in hc1 (by omega), ginvb_in hc1 (by omega)]; rfl, hS⟩

noncomputable def knownB (W : Int) (p : Nat) : Bool := (newF W p).isSome

end Go.Proofs.YtaeljbdpjiciaaaGreat

/- The walks of gambrelref04: what the document asks of matrices. -/
set_option linter.unusedVariables false
set_option linter.unusedSimpArgs false
namespace Go.Proofs.YtaeljbdpjiciaaaGreat
open Go Go.Gam


namespace FxFRef04
theorem en37 : Ent Tryz.prog 37 := ent Tryz.func37 (by kernel_rfl) (by kernel_rfl)
theorem hmix : Tryz.prog.follows .mixedOrders = true := by kernel_rfl
theorem sc3 : Scalar Tryz.prog 3 := ⟨_, Tryz.underlying3, by simp, by simp⟩
theorem sc39 : Scalar Tryz.prog 39 := ⟨_, Tryz.underlying39, by simp, by simp⟩
theorem sl22 : Sl Tryz.prog 22 39 (.slice none 0 0) 24 := sl_of Tryz.underlying22 rfl (by kernel_rfl)
theorem sl39 : Sl Tryz.prog 39 3 (.int .i64 0) 8 := sl_of Tryz.underlying39 rfl (by kernel_rfl)
end FxFRef04
open FxFRef04

set_option maxRecDepth 100000 in
set_option maxHeartbeats 1000000 in
theorem rMay_ok (B M wb p : Nat) (hp : Prm wb p) (pmt : Option Addr) (cmt : Nat) (mt : Mtx) (w : World) (hI : Inv FDx B w) (hAmt : Mat FDx B M w pmt cmt mt) (hlmt : mt.length ≤ maxLen) (hbmt : ∀ r ∈ mt, r.length ≤ maxLen) : Ret Tryz.prog 16 [.int .i64 (wb : Int), .slice pmt mt.length cmt] w fun v w' => v = .bool (mayM (some (wb, p)) mt) ∧ St FDx B w w' := by
 refine enter 64 [(0, .int .i64 (wb : Int)), (1, .slice pmt mt.length cmt)] 4 Tryz.func16 rfl rfl rfl rfl rfl ?_; intro a hF
 have hS := St.refl hI
 have hl2 := hlmt
 simp only [maxLen] at hl2
 have hwb : wb ≤ 16 := by have := hp.w; omega
 refine W_sr rfl (fun K hK => ?_)
 refine sv hF (v_assign rfl) rfl ?_; clear hF a; intro a hF
 refine WL_nil (hK _ _ ?_)
 clear hK K
 refine W_seq ?_
 refine W_sr rfl (fun K hK => ?_)
 refine sv hF (v_move rfl) rfl ?_; clear hF a; intro a hF
 refine sv hF (v_lenS rfl sl22 rfl) rfl ?_; clear hF a; intro a hF
 refine sb hF (v_lss rfl rfl) rfl ?_ ?_
 ·
  clear hF a; intro hc1 a hF
  try simp only [dcl] at hc1
  refine sv hF (v_move rfl) rfl ?_; clear hF a; intro a hF
  refine svn hF rfl rfl rfl ?_; clear hF a; intro a hF
  refine svn hF rfl rfl rfl ?_; clear hF a; intro a hF
  refine svn hF rfl rfl rfl ?_; clear hF a; intro a hF
  refine sv2 hF (v_pickT rfl rfl) (v_move rfl) rfl rfl ?_; clear hF a; intro a hF
  refine svn hF rfl rfl rfl ?_; clear hF a; intro a hF
  refine svn hF rfl rfl rfl ?_; clear hF a; intro a hF
  refine svn hF rfl rfl rfl ?_; clear hF a; intro a hF
  refine svn hF rfl rfl rfl ?_; clear hF a; intro a hF
  refine svn hF rfl rfl rfl ?_; clear hF a; intro a hF
  refine sv2 hF (v_pickT rfl rfl) (v_move rfl) rfl rfl ?_; clear hF a; intro a hF
  refine svn hF rfl rfl rfl ?_; clear hF a; intro a hF
  refine svn hF rfl rfl rfl ?_; clear hF a; intro a hF
  refine svn hF rfl rfl rfl ?_; clear hF a; intro a hF
  refine svn hF rfl rfl rfl ?_; clear hF a; intro a hF
  refine svn hF rfl rfl rfl ?_; clear hF a; intro a hF
  refine sv hF (v_pickT rfl rfl) rfl ?_; clear hF a; intro a hF
  refine WL_nil (hK _ _ ?_)
  clear hK K
  replace hF := hF.sub _ (c_ 28 rfl (c_ 4 rfl (c_ 0 rfl (c_ 1 rfl (n_)))))
  refine W_ifT hF rfl ?_
  refine W_sr rfl (fun K hK => ?_)
  refine sv hF (v_assign rfl) rfl ?_; clear hF a; intro a hF
  refine WL_nil (hK _ _ ?_)
  clear hK K
  replace hF := hF.sub _ (c_ 4 rfl (c_ 0 rfl (c_ 1 rfl (n_))))
  refine W_ret ?_
  refine ⟨_, _, hF, rfl, ?_⟩
  rw [mayM_no (fun h => by omega)]
  exact ⟨rfl, hS⟩
 ·
  clear hF a; intro hc1 a hF
  try simp only [dcl] at hc1
  refine sv hF (v_move rfl) rfl ?_; clear hF a; intro a hF
  refine svg hF rfl ?_
  refine sv hF (v_move rfl) rfl ?_; clear hF a; intro a hF
  refine svg hF rfl ?_
  refine sv hF (v_lenS rfl sl22 rfl) rfl ?_; clear hF a; intro a hF
  refine svg hF rfl ?_
  refine sb hF (v_gtr rfl rfl) rfl ?_ ?_
  ·
   clear hF a; intro hc2 a hF
   try simp only [dcl] at hc2
   refine sv2 hF (v_pickF rfl rfl) (v_move rfl) rfl rfl ?_; clear hF a; intro a hF
   refine svn hF rfl rfl rfl ?_; clear hF a; intro a hF
   refine svn hF rfl rfl rfl ?_; clear hF a; intro a hF
   refine svn hF rfl rfl rfl ?_; clear hF a; intro a hF
   refine svn hF rfl rfl rfl ?_; clear hF a; intro a hF
   refine svn hF rfl rfl rfl ?_; clear hF a; intro a hF
   refine sv2 hF (v_pickT rfl rfl) (v_move rfl) rfl rfl ?_; clear hF a; intro a hF
   refine svn hF rfl rfl rfl ?_; clear hF a; intro a hF
   refine svn hF rfl rfl rfl ?_; clear hF a; intro a hF
   refine svn hF rfl rfl rfl ?_; clear hF a; intro a hF
   refine svn hF rfl rfl rfl ?_; clear hF a; intro a hF
   refine svn hF rfl rfl rfl ?_; clear hF a; intro a hF
   refine sv hF (v_pickT rfl rfl) rfl ?_; clear hF a; intro a hF
   refine WL_nil (hK _ _ ?_)
   clear hK K
   replace hF := hF.sub _ (c_ 28 rfl (c_ 4 rfl (c_ 0 rfl (c_ 1 rfl (n_)))))
   refine W_ifT hF rfl ?_
   refine W_sr rfl (fun K hK => ?_)
   refine sv hF (v_assign rfl) rfl ?_; clear hF a; intro a hF
   refine WL_nil (hK _ _ ?_)
   clear hK K
   replace hF := hF.sub _ (c_ 4 rfl (c_ 0 rfl (c_ 1 rfl (n_))))
   refine W_ret ?_
   refine ⟨_, _, hF, rfl, ?_⟩
   rw [mayM_no (fun h => by omega)]
   exact ⟨rfl, hS⟩
  ·
   clear hF a; intro hc2 a hF
   try simp only [dcl] at hc2
   refine sv2 hF (v_pickF rfl rfl) (v_move rfl) rfl rfl ?_; clear hF a; intro a hF
   refine svg hF rfl ?_
   refine sv hF (v_move rfl) rfl ?_; clear hF a; intro a hF
   refine svg hF rfl ?_
   obtain ⟨gmt, omt, rfl⟩ := hAmt.at1 (by omega)
   obtain ⟨r0mt, h0mt⟩ : ∃ r, mt[0]? = some r := ⟨_, List.getElem?_eq_getElem (by omega)⟩
   obtain ⟨p0mt, c0mt, hk0mt, hrow0mt, -⟩ := hAmt.row2 h0mt
   have hwmt := wid_at h0mt
   refine sv hF (v_ixS sl22 rfl rfl (by decide) (by omega)) rfl ?_; clear hF a; intro a hF
   refine svg hF rfl ?_
   refine sv hF (v_load sc39 rfl hk0mt.c) rfl ?_; clear hF a; intro a hF
   refine svg hF rfl ?_
   refine sv hF (v_lenS rfl sl39 rfl) rfl ?_; clear hF a; intro a hF
   refine svg hF rfl ?_
   refine sb hF (v_lss rfl rfl) rfl ?_ ?_
   ·
    clear hF a; intro hc3 a hF
    try simp only [dcl] at hc3
    refine sv2 hF (v_pickF rfl rfl) (v_move rfl) rfl rfl ?_; clear hF a; intro a hF
    refine svn hF rfl rfl rfl ?_; clear hF a; intro a hF
    refine svn hF rfl rfl rfl ?_; clear hF a; intro a hF
    refine svn hF rfl rfl rfl ?_; clear hF a; intro a hF
    refine svn hF rfl rfl rfl ?_; clear hF a; intro a hF
    refine svn hF rfl rfl rfl ?_; clear hF a; intro a hF
    refine sv hF (v_pickT rfl rfl) rfl ?_; clear hF a; intro a hF
    refine WL_nil (hK _ _ ?_)
    clear hK K
    replace hF := hF.sub _ (c_ 28 rfl (c_ 4 rfl (c_ 0 rfl (c_ 1 rfl (n_)))))
    refine W_ifT hF rfl ?_
    refine W_sr rfl (fun K hK => ?_)
    refine sv hF (v_assign rfl) rfl ?_; clear hF a; intro a hF
    refine WL_nil (hK _ _ ?_)
    clear hK K
    replace hF := hF.sub _ (c_ 4 rfl (c_ 0 rfl (c_ 1 rfl (n_))))
    refine W_ret ?_
    refine ⟨_, _, hF, rfl, ?_⟩
    rw [mayM_no (fun h => by omega)]
    exact ⟨rfl, hS⟩
   ·
    clear hF a; intro hc3 a hF
    try simp only [dcl] at hc3
    refine sv2 hF (v_pickF rfl rfl) (v_move rfl) rfl rfl ?_; clear hF a; intro a hF
    refine svg hF rfl ?_
    refine sv hF (v_move rfl) rfl ?_; clear hF a; intro a hF
    refine svg hF rfl ?_
    refine sv hF (v_ixS sl22 rfl rfl (by decide) (by omega)) rfl ?_; clear hF a; intro a hF
    refine svg hF rfl ?_
    refine sv hF (v_load sc39 rfl hk0mt.c) rfl ?_; clear hF a; intro a hF
    refine svg hF rfl ?_
    refine sv hF (v_lenS rfl sl39 rfl) rfl ?_; clear hF a; intro a hF
    refine svg hF rfl ?_
    refine sv hF (v_gtr rfl rfl) rfl ?_; clear hF a; intro a hF
    refine sv hF (v_pickF rfl rfl) rfl ?_; clear hF a; intro a hF
    refine WL_nil (hK _ _ ?_)
    clear hK K
    replace hF := hF.sub _ (c_ 28 rfl (c_ 4 rfl (c_ 0 rfl (c_ 1 rfl (n_)))))
    refine W_if hF rfl (fun hc4 => ?_) (fun hc4 => ?_)
    ·
     skip
     try simp only [dcl] at hc4
     refine W_sr rfl (fun K hK => ?_)
     refine sv hF (v_assign rfl) rfl ?_; clear hF a; intro a hF
     refine WL_nil (hK _ _ ?_)
     clear hK K
     replace hF := hF.sub _ (c_ 4 rfl (c_ 0 rfl (c_ 1 rfl (n_))))
     refine W_ret ?_
     refine ⟨_, _, hF, rfl, ?_⟩
     rw [mayM_no (fun h => by omega)]
     exact ⟨rfl, hS⟩
    ·
     skip
     try simp only [dcl] at hc4
     refine W_skip ?_
     refine W_seq ?_
     refine W_sr rfl (fun K hK => ?_)
     refine sv hF (v_assign rfl) rfl ?_; clear hF a; intro a hF
     refine WL_nil (hK _ _ ?_)
     clear hK K
     replace hF := hF.sub _ (c_ 5 rfl (c_ 4 rfl (c_ 0 rfl (c_ 1 rfl (n_)))))
     refine W_block ?_
     refine W_loop (fun m a w1 => ∃ (i : Nat), Fr 64 [(0, .int .i64 (wb : Int)), (1, .slice (some ⟨gmt, omt, none⟩) mt.length cmt), (5, .int .i64 (i : Int))] a ∧ (St FDx B w w1) ∧ (Mat FDx B M w1 (some ⟨gmt, omt, none⟩) cmt mt) ∧ (i ≤ mt.length) ∧ (∀ r ∈ mt.take i, r.length = wid mt ∧ ∀ x ∈ r, inF (some (wb, p)) x = true) ∧ (m + i = mt.length)) (mt.length) ?_ ?_
     ·
      skip
      exact ⟨0, hF.sub _ (c_ 0 rfl (c_ 1 rfl (c_ 5 rfl (n_)))), hS, hAmt, by omega, by simp, by omega⟩
     ·
      skip
      clear hF
      clear hS hAmt hk0mt hrow0mt
      rintro m a w1 ⟨i, hF, hS, hAmt, hi, hn, hm⟩
      refine W_seq ?_
      refine W_sr rfl (fun K hK => ?_)
      refine sv2 hF (v_move rfl) (v_move rfl) rfl rfl ?_; clear hF a; intro a hF
      refine sv hF (v_lenS rfl sl22 rfl) rfl ?_; clear hF a; intro a hF
      refine sv hF (v_lss rfl rfl) rfl ?_; clear hF a; intro a hF
      refine WL_nil (hK _ _ ?_)
      clear hK K
      replace hF := hF.sub _ (c_ 32 rfl (c_ 0 rfl (c_ 1 rfl (c_ 5 rfl (n_)))))
      refine W_if hF rfl (fun hc5 => ?_) (fun hc5 => ?_)
      ·
       skip
       try simp only [dcl] at hc5
       have hlt : i < mt.length := by omega
       obtain ⟨r, hr⟩ : ∃ z, mt[i]? = some z := ⟨_, List.getElem?_eq_getElem (by omega)⟩
       obtain ⟨pr, cr, hkr, hrowr, -⟩ := hAmt.row2 hr
       obtain ⟨p0, c0, hk0, -⟩ := hAmt.row2 h0mt
       refine W_skip ?_
       refine W_seq ?_
       refine W_block ?_
       refine W_seq ?_
       refine W_sd (m := 10) rfl hmix hS.inv (fun K hK w1 hS' hh => ?_)
       replace hAmt := hAmt.st hS'
       replace hkr := hkr.st hS'
       replace hk0 := hk0.st hS'
       replace hrowr := hrowr.st hS'
       replace hS := hS.trans hS'
       clear hS'
       clear hh
       refine a_v (i := 0) rfl (by kernel_rfl) hF (fun w2 hx => v_move rfl) rfl ?_; clear hF a; intro a hF
       refine a_v (i := 1) rfl (by kernel_rfl) hF (fun w2 hx => v_move rfl) rfl ?_; clear hF a; intro a hF
       refine a_v (i := 2) rfl (by kernel_rfl) hF (fun w2 hx => v_ixS sl22 rfl rfl (by omega) (by omega)) rfl ?_; clear hF a; intro a hF
       refine a_v (i := 3) rfl (by kernel_rfl) hF (fun w2 hx => v_load sc39 rfl (by rw [toNat_c]; exact hkr.ld hx)) rfl ?_; clear hF a; intro a hF
       refine a_v (i := 4) rfl (by kernel_rfl) hF (fun w2 hx => v_lenS rfl sl39 rfl) rfl ?_; clear hF a; intro a hF
       refine a_v (i := 5) rfl (by kernel_rfl) hF (fun w2 hx => v_move rfl) rfl ?_; clear hF a; intro a hF
       refine a_v (i := 6) rfl (by kernel_rfl) hF (fun w2 hx => v_ixS sl22 rfl rfl (by decide) (by omega)) rfl ?_; clear hF a; intro a hF
       refine a_v (i := 7) rfl (by kernel_rfl) hF (fun w2 hx => v_load sc39 rfl (hk0.ld hx)) rfl ?_; clear hF a; intro a hF
       refine a_v (i := 8) rfl (by kernel_rfl) hF (fun w2 hx => v_lenS rfl sl39 rfl) rfl ?_; clear hF a; intro a hF
       refine a_v (i := 9) rfl (by kernel_rfl) hF (fun w2 hx => v_neq rfl rfl) rfl ?_; clear hF a; intro a hF
       refine a_done (by kernel_rfl) (hK _ _ ?_)
       clear hK K
       replace hF := hF.sub _ (c_ 44 rfl (c_ 0 rfl (c_ 1 rfl (c_ 5 rfl (n_)))))
       refine W_if hF rfl (fun hc6 => ?_) (fun hc6 => ?_)
       ·
        skip
        try simp only [dcl] at hc6
        refine W_sr rfl (fun K hK => ?_)
        refine sv hF (v_assign rfl) rfl ?_; clear hF a; intro a hF
        refine WL_nil (hK _ _ ?_)
        clear hK K
        replace hF := hF.sub _ (c_ 4 rfl (c_ 0 rfl (c_ 1 rfl (c_ 5 rfl (n_)))))
        refine W_ret ?_
        refine ⟨_, _, hF, rfl, ?_⟩
        rw [mayM_no (fun h => by have := (h.2.2.2.2 r (List.mem_of_getElem? hr)).1; omega)]
        exact ⟨rfl, hS⟩
       ·
        skip
        try simp only [dcl] at hc6
        refine W_skip ?_
        refine W_sr rfl (fun K hK => ?_)
        refine sv hF (v_assign rfl) rfl ?_; clear hF a; intro a hF
        refine WL_nil (hK _ _ ?_)
        clear hK K
        replace hF := hF.sub _ (c_ 6 rfl (c_ 0 rfl (c_ 1 rfl (c_ 5 rfl (n_)))))
        refine W_block ?_
        refine W_loop (fun m2 a w2 => ∃ (j : Nat), Fr 64 [(0, .int .i64 (wb : Int)), (1, .slice (some ⟨gmt, omt, none⟩) mt.length cmt), (5, .int .i64 (i : Int)), (6, .int .i64 (j : Int))] a ∧ (St FDx B w w2) ∧ (Mat FDx B M w2 (some ⟨gmt, omt, none⟩) cmt mt) ∧ (j ≤ r.length) ∧ (∀ x ∈ r.take j, inF (some (wb, p)) x = true) ∧ (m2 + j = r.length)) (r.length) ?_ ?_
        ·
         skip
         exact ⟨0, hF.sub _ (c_ 0 rfl (c_ 1 rfl (c_ 5 rfl (c_ 6 rfl (n_))))), hS, hAmt, by omega, by simp, by omega⟩
        ·
         skip
         clear hF
         clear hS hAmt hkr hrowr
         rintro m2 a w2 ⟨j, hF, hS, hAmt, hj, hn2, hm2⟩
         refine W_seq ?_
         obtain ⟨pr, cr, hkr, hrowr, -⟩ := hAmt.row2 hr
         refine W_sr rfl (fun K hK => ?_)
         refine sv3 hF (v_move rfl) (v_move rfl) (v_move rfl) rfl rfl rfl ?_; clear hF a; intro a hF
         refine sv hF (v_ixS sl22 rfl rfl (by omega) (by omega)) rfl ?_; clear hF a; intro a hF
         refine sv hF (v_load sc39 rfl (by rw [toNat_c]; exact hkr.c)) rfl ?_; clear hF a; intro a hF
         refine sv hF (v_lenS rfl sl39 rfl) rfl ?_; clear hF a; intro a hF
         refine sv hF (v_lss rfl rfl) rfl ?_; clear hF a; intro a hF
         refine WL_nil (hK _ _ ?_)
         clear hK K
         replace hF := hF.sub _ (c_ 51 rfl (c_ 0 rfl (c_ 1 rfl (c_ 5 rfl (c_ 6 rfl (n_))))))
         refine W_if hF rfl (fun hc7 => ?_) (fun hc7 => ?_)
         ·
          skip
          try simp only [dcl] at hc7
          have hlt2 : j < r.length := by omega
          obtain ⟨x, hx⟩ : ∃ z, r[j]? = some z := ⟨_, List.getElem?_eq_getElem (by omega)⟩
          obtain ⟨gxx, oxx, hgxx, hkx, -⟩ := hrowr.kat (zints_at hx)
          subst hgxx
          refine W_skip ?_
          refine W_seq ?_
          refine W_block ?_
          refine W_sr rfl (fun K hK => ?_)
          refine sv3 hF (v_move rfl) (v_move rfl) (v_move rfl) rfl rfl rfl ?_; clear hF a; intro a hF
          refine sv hF (v_ixS sl22 rfl rfl (by omega) (by omega)) rfl ?_; clear hF a; intro a hF
          refine sv hF (v_load sc39 rfl (by rw [toNat_c]; exact hkr.c)) rfl ?_; clear hF a; intro a hF
          refine sv hF (v_move rfl) rfl ?_; clear hF a; intro a hF
          refine sv hF (v_ixS sl39 rfl rfl (by omega) (by omega)) rfl ?_; clear hF a; intro a hF
          refine sv hF (v_load sc3 rfl (by rw [toNat_c]; exact hkx.c)) rfl ?_; clear hF a; intro a hF
          refine sc hF rfl rfl rfl en37 rfl (rIn_ok B wb p x _ hS.inv (by omega)) ?_; clear hF a; intro v w' a hv hF
          obtain ⟨rfl, hw⟩ := hv
          obtain rfl := hw.symm
          have hS' := St.refl hS.inv
          replace hAmt := hAmt.st hS'
          replace hS := hS.trans hS'
          clear hS'
          refine sv hF (v_not rfl) rfl ?_; clear hF a; intro a hF
          refine WL_nil (hK _ _ ?_)
          clear hK K
          replace hF := hF.sub _ (c_ 63 rfl (c_ 0 rfl (c_ 1 rfl (c_ 5 rfl (c_ 6 rfl (n_))))))
          refine W_if hF rfl (fun hc8 => ?_) (fun hc8 => ?_)
          ·
           skip
           try simp only [dcl] at hc8
           refine W_sr rfl (fun K hK => ?_)
           refine sv hF (v_assign rfl) rfl ?_; clear hF a; intro a hF
           refine WL_nil (hK _ _ ?_)
           clear hK K
           replace hF := hF.sub _ (c_ 4 rfl (c_ 0 rfl (c_ 1 rfl (c_ 5 rfl (c_ 6 rfl (n_))))))
           refine W_ret ?_
           refine ⟨_, _, hF, rfl, ?_⟩
           rw [mayM_no (fun h => by have := (h.2.2.2.2 r (List.mem_of_getElem? hr)).2 x (List.mem_of_getElem? hx); rw [hc8] at this; cases this)]
           exact ⟨rfl, hS⟩
          ·
           skip
           try simp only [dcl] at hc8
           refine W_skip ?_
           refine W_reg rfl (fun K hK => ?_)
           refine sv hF (v_move rfl) rfl ?_; clear hF a; intro a hF
           refine sv hF (v_addI rfl rfl (by omega)) rfl ?_; clear hF a; intro a hF
           refine sv hF (v_assign rfl) rfl ?_; clear hF a; intro a hF
           refine WL_nil (hK _ _ ?_)
           clear hK K
           replace hF := hF.sub _ (c_ 6 rfl (c_ 53 rfl (c_ 52 rfl (c_ 0 rfl (c_ 1 rfl (c_ 5 rfl (n_)))))))
           exact ⟨m2 - 1, by omega, j + 1, hF.sub _ (c_ 0 rfl (c_ 1 rfl (c_ 5 rfl (c_ 6 rfl (n_))))), hS, hAmt, by omega, take_snoc_all hn2 hx (by assumption), by omega⟩
         ·
          skip
          try simp only [dcl] at hc7
          obtain rfl : j = r.length := by omega
          rw [List.take_length] at hn2
          refine W_exit rfl ?_
          refine W_reg rfl (fun K hK => ?_)
          refine sv hF (v_move rfl) rfl ?_; clear hF a; intro a hF
          refine sv hF (v_addI rfl rfl (by omega)) rfl ?_; clear hF a; intro a hF
          refine sv hF (v_assign rfl) rfl ?_; clear hF a; intro a hF
          refine WL_nil (hK _ _ ?_)
          clear hK K
          replace hF := hF.sub _ (c_ 5 rfl (c_ 34 rfl (c_ 33 rfl (c_ 0 rfl (c_ 1 rfl (c_ 6 rfl (n_)))))))
          exact ⟨m - 1, by omega, i + 1, hF.sub _ (c_ 0 rfl (c_ 1 rfl (c_ 5 rfl (n_)))), hS, hAmt, by omega, take_snoc_all hn hr ⟨by omega, hn2⟩, by omega⟩
      ·
       skip
       try simp only [dcl] at hc5
       refine W_exit rfl ?_
       refine W_sr rfl (fun K hK => ?_)
       refine sv hF (v_assign rfl) rfl ?_; clear hF a; intro a hF
       refine WL_nil (hK _ _ ?_)
       clear hK K
       replace hF := hF.sub _ (c_ 4 rfl (c_ 0 rfl (c_ 1 rfl (c_ 5 rfl (n_)))))
       refine W_ret ?_
       refine ⟨_, _, hF, rfl, ?_⟩
       obtain rfl : i = mt.length := by omega
       rw [List.take_length] at hn
       rw [mayM_of (by omega) (by omega) (by omega) (by omega) hn]
       exact ⟨rfl, hS⟩

set_option maxRecDepth 100000 in
set_option maxHeartbeats 1000000 in
theorem Few04_ok (B M : Nat) (pmt : Option Addr) (cmt : Nat) (mt : Mtx) (w : World) (hAmt : Mat FDx B M w pmt cmt mt) (hlmt : mt.length ≤ maxLen) (hbmt : ∀ r ∈ mt, r.length ≤ maxLen) : Ret Tryz.prog 5 [.slice pmt mt.length cmt] w fun v w' => v = .bool (fewM mt) ∧ w' = w := by
 refine enter 23 [(0, .slice pmt mt.length cmt)] 2 Tryz.func5 rfl rfl rfl rfl rfl ?_; intro a hF
 have hl2 := hlmt
 simp only [maxLen] at hl2
 refine W_sr rfl (fun K hK => ?_)
 refine sv hF (v_assign rfl) rfl ?_; clear hF a; intro a hF
 refine WL_nil (hK _ _ ?_)
 clear hK K
 refine W_seq ?_
 refine W_sr rfl (fun K hK => ?_)
 refine sv hF (v_assign rfl) rfl ?_; clear hF a; intro a hF
 refine WL_nil (hK _ _ ?_)
 clear hK K
 refine W_block ?_
 refine W_loop (fun m a w1 => ∃ (i : Nat), Fr 23 [(0, .slice pmt mt.length cmt), (3, .int .i64 (i : Int))] a ∧ (w = w1) ∧ (i ≤ mt.length) ∧ (i ≤ 11) ∧ (∀ r ∈ mt.take i, r.length ≤ 10) ∧ (m + i = 11)) (11) ?_ ?_
 ·
  skip
  exact ⟨0, hF.sub _ (c_ 0 rfl (c_ 3 rfl (n_))), rfl, by omega, by omega, by simp, by omega⟩
 ·
  skip
  clear hF
  rintro m a w1 ⟨i, hF, rfl, hi, hi2, hn, hm⟩
  refine W_seq ?_
  refine W_sr rfl (fun K hK => ?_)
  refine sv2 hF (v_move rfl) (v_move rfl) rfl rfl ?_; clear hF a; intro a hF
  refine sv hF (v_lenS rfl sl22 rfl) rfl ?_; clear hF a; intro a hF
  refine sb hF (v_lss rfl rfl) rfl ?_ ?_
  ·
   clear hF a; intro hc1 a hF
   try simp only [dcl] at hc1
   refine sv hF (v_move rfl) rfl ?_; clear hF a; intro a hF
   refine svg hF rfl ?_
   refine sv hF (v_move rfl) rfl ?_; clear hF a; intro a hF
   refine svg hF rfl ?_
   refine sv hF (v_lss rfl rfl) rfl ?_; clear hF a; intro a hF
   refine sv hF (v_pickT rfl rfl) rfl ?_; clear hF a; intro a hF
   refine WL_nil (hK _ _ ?_)
   clear hK K
   replace hF := hF.sub _ (c_ 11 rfl (c_ 0 rfl (c_ 3 rfl (n_))))
   refine W_if hF rfl (fun hc2 => ?_) (fun hc2 => ?_)
   ·
    skip
    try simp only [dcl] at hc2
    refine W_skip ?_
    refine W_seq ?_
    refine W_block ?_
    have hlt : i < mt.length := by omega
    obtain ⟨r, hr⟩ : ∃ z, mt[i]? = some z := ⟨_, List.getElem?_eq_getElem hlt⟩
    obtain ⟨gx, ox, pr, cr, hgx, hkr, hrowr, -⟩ := hAmt.row hr
    subst hgx
    refine W_sr rfl (fun K hK => ?_)
    refine sv2 hF (v_move rfl) (v_move rfl) rfl rfl ?_; clear hF a; intro a hF
    refine sv hF (v_ixS sl22 rfl rfl (by omega) (by omega)) rfl ?_; clear hF a; intro a hF
    refine sv hF (v_load sc39 rfl (by rw [toNat_c]; exact hkr.c)) rfl ?_; clear hF a; intro a hF
    refine sv hF (v_lenS rfl sl39 rfl) rfl ?_; clear hF a; intro a hF
    refine sv hF (v_gtr rfl rfl) rfl ?_; clear hF a; intro a hF
    refine WL_nil (hK _ _ ?_)
    clear hK K
    replace hF := hF.sub _ (c_ 19 rfl (c_ 0 rfl (c_ 3 rfl (n_))))
    refine W_if hF rfl (fun hc3 => ?_) (fun hc3 => ?_)
    ·
     skip
     try simp only [dcl] at hc3
     refine W_sr rfl (fun K hK => ?_)
     refine sv hF (v_assign rfl) rfl ?_; clear hF a; intro a hF
     refine WL_nil (hK _ _ ?_)
     clear hK K
     replace hF := hF.sub _ (c_ 2 rfl (c_ 0 rfl (c_ 3 rfl (n_))))
     refine W_ret ?_
     refine ⟨_, _, hF, rfl, ?_⟩
     have hf : fewM mt = false := by rw [Bool.eq_false_iff, Ne, fewM_iff]; intro h; have := h.2 r (List.mem_of_getElem? hr); omega
     rw [hf]
     exact ⟨rfl, rfl⟩
    ·
     skip
     try simp only [dcl] at hc3
     refine W_skip ?_
     refine W_reg rfl (fun K hK => ?_)
     refine sv hF (v_move rfl) rfl ?_; clear hF a; intro a hF
     refine sv hF (v_addI rfl rfl (by omega)) rfl ?_; clear hF a; intro a hF
     refine sv hF (v_assign rfl) rfl ?_; clear hF a; intro a hF
     refine WL_nil (hK _ _ ?_)
     clear hK K
     replace hF := hF.sub _ (c_ 3 rfl (c_ 13 rfl (c_ 12 rfl (c_ 0 rfl (n_)))))
     exact ⟨m - 1, by omega, i + 1, hF.sub _ (c_ 0 rfl (c_ 3 rfl (n_))), rfl, by omega, by omega, take_snoc_all hn hr (by omega), by omega⟩
   ·
    skip
    try simp only [dcl] at hc2
    refine W_exit rfl ?_
    refine W_sr rfl (fun K hK => ?_)
    refine sv hF (v_move rfl) rfl ?_; clear hF a; intro a hF
    refine sv hF (v_lenS rfl sl22 rfl) rfl ?_; clear hF a; intro a hF
    refine sv hF (v_leq rfl rfl) rfl ?_; clear hF a; intro a hF
    refine sv hF (v_assign rfl) rfl ?_; clear hF a; intro a hF
    refine WL_nil (hK _ _ ?_)
    clear hK K
    replace hF := hF.sub _ (c_ 2 rfl (c_ 22 rfl (c_ 21 rfl (c_ 20 rfl (c_ 0 rfl (c_ 3 rfl (n_)))))))
    refine W_ret ?_
    refine ⟨_, _, hF, rfl, ?_⟩
    refine ⟨congrArg _ ?_, rfl⟩
    rw [Bool.eq_iff_iff, decide_eq_true_iff, fewM_iff]
    constructor
    ·
     intro h
     refine ⟨by omega, ?_⟩
     rw [List.take_of_length_le (by omega)] at hn
     exact hn
    ·
     intro h; omega
  ·
   clear hF a; intro hc1 a hF
   try simp only [dcl] at hc1
   refine sv hF (v_move rfl) rfl ?_; clear hF a; intro a hF
   refine svn hF rfl rfl rfl ?_; clear hF a; intro a hF
   refine svn hF rfl rfl rfl ?_; clear hF a; intro a hF
   refine sv hF (v_pickF rfl rfl) rfl ?_; clear hF a; intro a hF
   refine WL_nil (hK _ _ ?_)
   clear hK K
   replace hF := hF.sub _ (c_ 11 rfl (c_ 0 rfl (c_ 3 rfl (n_))))
   refine W_ifF hF rfl ?_
   refine W_exit rfl ?_
   refine W_sr rfl (fun K hK => ?_)
   refine sv hF (v_move rfl) rfl ?_; clear hF a; intro a hF
   refine sv hF (v_lenS rfl sl22 rfl) rfl ?_; clear hF a; intro a hF
   refine sv hF (v_leq rfl rfl) rfl ?_; clear hF a; intro a hF
   refine sv hF (v_assign rfl) rfl ?_; clear hF a; intro a hF
   refine WL_nil (hK _ _ ?_)
   clear hK K
   replace hF := hF.sub _ (c_ 2 rfl (c_ 22 rfl (c_ 21 rfl (c_ 20 rfl (c_ 0 rfl (c_ 3 rfl (n_)))))))
   refine W_ret ?_
   refine ⟨_, _, hF, rfl, ?_⟩
   refine ⟨congrArg _ ?_, rfl⟩
   rw [Bool.eq_iff_iff, decide_eq_true_iff, fewM_iff]
   constructor
   ·
    intro h
    refine ⟨by omega, ?_⟩
    rw [List.take_of_length_le (by omega)] at hn
    exact hn
   ·
    intro h; omega

set_option maxRecDepth 100000 in
set_option maxHeartbeats 1000000 in
theorem Same04_ok (B M : Nat) (pma : Option Addr) (cma : Nat) (ma : Mtx) (pmb : Option Addr) (cmb : Nat) (mb : Mtx) (w : World) (hI : Inv FDx B w) (hAma : Mat FDx B M w pma cma ma) (hAmb : Mat FDx B M w pmb cmb mb) (hlma : ma.length ≤ 1000) (hbma : ∀ r ∈ ma, r.length ≤ 1000) : Ret Tryz.prog 11 [.slice pma ma.length cma, .slice pmb mb.length cmb] w fun v w' => v = .bool (decide (ma = mb)) ∧ St FDx B w w' := by
 refine enter 53 [(0, .slice pma ma.length cma), (1, .slice pmb mb.length cmb)] 4 Tryz.func11 rfl rfl rfl rfl rfl ?_; intro a hF
 have hS := St.refl hI
 refine W_sr rfl (fun K hK => ?_)
 refine sv hF (v_assign rfl) rfl ?_; clear hF a; intro a hF
 refine WL_nil (hK _ _ ?_)
 clear hK K
 refine W_seq ?_
 refine W_sr rfl (fun K hK => ?_)
 refine sv hF (v_move rfl) rfl ?_; clear hF a; intro a hF
 refine sv hF (v_lenS rfl sl22 rfl) rfl ?_; clear hF a; intro a hF
 refine sv hF (v_move rfl) rfl ?_; clear hF a; intro a hF
 refine sv hF (v_lenS rfl sl22 rfl) rfl ?_; clear hF a; intro a hF
 refine sv hF (v_neq rfl rfl) rfl ?_; clear hF a; intro a hF
 refine WL_nil (hK _ _ ?_)
 clear hK K
 replace hF := hF.sub _ (c_ 11 rfl (c_ 4 rfl (c_ 0 rfl (c_ 1 rfl (n_)))))
 refine W_if hF rfl (fun hc1 => ?_) (fun hc1 => ?_)
 ·
  skip
  try simp only [dcl] at hc1
  refine W_sr rfl (fun K hK => ?_)
  refine sv hF (v_assign rfl) rfl ?_; clear hF a; intro a hF
  refine WL_nil (hK _ _ ?_)
  clear hK K
  replace hF := hF.sub _ (c_ 4 rfl (c_ 0 rfl (c_ 1 rfl (n_))))
  refine W_ret ?_
  refine ⟨_, _, hF, rfl, ?_⟩
  refine ⟨congrArg _ (Eq.symm (decide_eq_false ?_)), hS⟩
  rintro rfl
  omega
 ·
  skip
  try simp only [dcl] at hc1
  refine W_skip ?_
  refine W_seq ?_
  have hle : ma.length = mb.length := by omega
  refine W_sr rfl (fun K hK => ?_)
  refine sv hF (v_assign rfl) rfl ?_; clear hF a; intro a hF
  refine WL_nil (hK _ _ ?_)
  clear hK K
  replace hF := hF.sub _ (c_ 5 rfl (c_ 4 rfl (c_ 0 rfl (c_ 1 rfl (n_)))))
  refine W_block ?_
  refine W_loop (fun m a w1 => ∃ (i : Nat), Fr 53 [(0, .slice pma ma.length cma), (1, .slice pmb mb.length cmb), (5, .int .i64 (i : Int))] a ∧ (St FDx B w w1) ∧ (Mat FDx B M w1 pma cma ma) ∧ (Mat FDx B M w1 pmb cmb mb) ∧ (i ≤ ma.length) ∧ (ma.take i = mb.take i) ∧ (m + i = ma.length)) (ma.length) ?_ ?_
  ·
   skip
   exact ⟨0, hF.sub _ (c_ 0 rfl (c_ 1 rfl (c_ 5 rfl (n_)))), hS, hAma, hAmb, by omega, by simp, by omega⟩
  ·
   skip
   clear hF
   clear hS hAma hAmb
   rintro m a w1 ⟨i, hF, hS, hAma, hAmb, hi, hn, hm⟩
   refine W_seq ?_
   refine W_sr rfl (fun K hK => ?_)
   refine sv2 hF (v_move rfl) (v_move rfl) rfl rfl ?_; clear hF a; intro a hF
   refine sv hF (v_lenS rfl sl22 rfl) rfl ?_; clear hF a; intro a hF
   refine sv hF (v_lss rfl rfl) rfl ?_; clear hF a; intro a hF
   refine WL_nil (hK _ _ ?_)
   clear hK K
   replace hF := hF.sub _ (c_ 15 rfl (c_ 0 rfl (c_ 1 rfl (c_ 5 rfl (n_)))))
   refine W_if hF rfl (fun hc2 => ?_) (fun hc2 => ?_)
   ·
    skip
    try simp only [dcl] at hc2
    have hlt : i < ma.length := by omega
    obtain ⟨gma, oma, rfl⟩ := hAma.at1 (by omega)
    obtain ⟨gmb, omb, rfl⟩ := hAmb.at1 (by omega)
    obtain ⟨r, hr⟩ : ∃ z, ma[i]? = some z := ⟨_, List.getElem?_eq_getElem (by omega)⟩
    obtain ⟨pr, cr, hkr, hrowr, -⟩ := hAma.row2 hr
    obtain ⟨s, hs⟩ : ∃ z, mb[i]? = some z := ⟨_, List.getElem?_eq_getElem (by omega)⟩
    obtain ⟨ps, cs, hks, hrows, -⟩ := hAmb.row2 hs
    have hrl := hbma r (List.mem_of_getElem? hr)
    refine W_skip ?_
    refine W_seq ?_
    refine W_block ?_
    refine W_seq ?_
    refine W_sd (m := 11) rfl hmix hS.inv (fun K hK w1 hS' hh => ?_)
    replace hAma := hAma.st hS'
    replace hAmb := hAmb.st hS'
    replace hkr := hkr.st hS'
    replace hks := hks.st hS'
    replace hS := hS.trans hS'
    clear hS'
    clear hh
    refine a_v (i := 0) rfl (by kernel_rfl) hF (fun w2 hx => v_move rfl) rfl ?_; clear hF a; intro a hF
    refine a_v (i := 1) rfl (by kernel_rfl) hF (fun w2 hx => v_move rfl) rfl ?_; clear hF a; intro a hF
    refine a_v (i := 2) rfl (by kernel_rfl) hF (fun w2 hx => v_ixS sl22 rfl rfl (by omega) (by omega)) rfl ?_; clear hF a; intro a hF
    refine a_v (i := 3) rfl (by kernel_rfl) hF (fun w2 hx => v_load sc39 rfl (by rw [toNat_c]; exact hkr.ld hx)) rfl ?_; clear hF a; intro a hF
    refine a_v (i := 4) rfl (by kernel_rfl) hF (fun w2 hx => v_lenS rfl sl39 rfl) rfl ?_; clear hF a; intro a hF
    refine a_v (i := 5) rfl (by kernel_rfl) hF (fun w2 hx => v_move rfl) rfl ?_; clear hF a; intro a hF
    refine a_v (i := 6) rfl (by kernel_rfl) hF (fun w2 hx => v_move rfl) rfl ?_; clear hF a; intro a hF
    refine a_v (i := 7) rfl (by kernel_rfl) hF (fun w2 hx => v_ixS sl22 rfl rfl (by omega) (by omega)) rfl ?_; clear hF a; intro a hF
    refine a_v (i := 8) rfl (by kernel_rfl) hF (fun w2 hx => v_load sc39 rfl (by rw [toNat_c]; exact hks.ld hx)) rfl ?_; clear hF a; intro a hF
    refine a_v (i := 9) rfl (by kernel_rfl) hF (fun w2 hx => v_lenS rfl sl39 rfl) rfl ?_; clear hF a; intro a hF
    refine a_v (i := 10) rfl (by kernel_rfl) hF (fun w2 hx => v_neq rfl rfl) rfl ?_; clear hF a; intro a hF
    refine a_done (by kernel_rfl) (hK _ _ ?_)
    clear hK K
    replace hF := hF.sub _ (c_ 28 rfl (c_ 0 rfl (c_ 1 rfl (c_ 5 rfl (n_)))))
    refine W_if hF rfl (fun hc3 => ?_) (fun hc3 => ?_)
    ·
     skip
     try simp only [dcl] at hc3
     refine W_sr rfl (fun K hK => ?_)
     refine sv hF (v_assign rfl) rfl ?_; clear hF a; intro a hF
     refine WL_nil (hK _ _ ?_)
     clear hK K
     replace hF := hF.sub _ (c_ 4 rfl (c_ 0 rfl (c_ 1 rfl (c_ 5 rfl (n_)))))
     refine W_ret ?_
     refine ⟨_, _, hF, rfl, ?_⟩
     refine ⟨congrArg _ (Eq.symm (decide_eq_false ?_)), hS⟩
     rintro rfl
     rw [hr] at hs
     obtain rfl := Option.some.inj hs
     omega
    ·
     skip
     try simp only [dcl] at hc3
     refine W_skip ?_
     have hls : r.length = s.length := by omega
     refine W_sr rfl (fun K hK => ?_)
     refine sv hF (v_assign rfl) rfl ?_; clear hF a; intro a hF
     refine WL_nil (hK _ _ ?_)
     clear hK K
     replace hF := hF.sub _ (c_ 6 rfl (c_ 0 rfl (c_ 1 rfl (c_ 5 rfl (n_)))))
     refine W_block ?_
     refine W_loop (fun m2 a w2 => ∃ (j : Nat), Fr 53 [(0, .slice (some ⟨gma, oma, none⟩) ma.length cma), (1, .slice (some ⟨gmb, omb, none⟩) mb.length cmb), (5, .int .i64 (i : Int)), (6, .int .i64 (j : Int))] a ∧ (St FDx B w w2) ∧ (Mat FDx B M w2 (some ⟨gma, oma, none⟩) cma ma) ∧ (Mat FDx B M w2 (some ⟨gmb, omb, none⟩) cmb mb) ∧ (j ≤ r.length) ∧ (r.take j = s.take j) ∧ (m2 + j = r.length)) (r.length) ?_ ?_
     ·
      skip
      exact ⟨0, hF.sub _ (c_ 0 rfl (c_ 1 rfl (c_ 5 rfl (c_ 6 rfl (n_))))), hS, hAma, hAmb, by omega, by simp, by omega⟩
     ·
      skip
      clear hF
      clear hS hAma hAmb hkr hrowr hks hrows
      rintro m2 a w2 ⟨j, hF, hS, hAma, hAmb, hj, hn2, hm2⟩
      refine W_seq ?_
      obtain ⟨pr, cr, hkr, hrowr, -⟩ := hAma.row2 hr
      obtain ⟨ps, cs, hks, hrows, -⟩ := hAmb.row2 hs
      refine W_sr rfl (fun K hK => ?_)
      refine sv3 hF (v_move rfl) (v_move rfl) (v_move rfl) rfl rfl rfl ?_; clear hF a; intro a hF
      refine sv hF (v_ixS sl22 rfl rfl (by omega) (by omega)) rfl ?_; clear hF a; intro a hF
      refine sv hF (v_load sc39 rfl (by rw [toNat_c]; exact hkr.c)) rfl ?_; clear hF a; intro a hF
      refine sv hF (v_lenS rfl sl39 rfl) rfl ?_; clear hF a; intro a hF
      refine sv hF (v_lss rfl rfl) rfl ?_; clear hF a; intro a hF
      refine WL_nil (hK _ _ ?_)
      clear hK K
      replace hF := hF.sub _ (c_ 35 rfl (c_ 0 rfl (c_ 1 rfl (c_ 5 rfl (c_ 6 rfl (n_))))))
      refine W_if hF rfl (fun hc4 => ?_) (fun hc4 => ?_)
      ·
       skip
       try simp only [dcl] at hc4
       have hlt2 : j < r.length := by omega
       obtain ⟨x, hx⟩ : ∃ z, r[j]? = some z := ⟨_, List.getElem?_eq_getElem (by omega)⟩
       obtain ⟨gxx, oxx, hgxx, hkx, -⟩ := hrowr.kat (zints_at hx)
       subst hgxx
       obtain ⟨y, hy⟩ : ∃ z, s[j]? = some z := ⟨_, List.getElem?_eq_getElem (by omega)⟩
       obtain ⟨gxy, oxy, hgxy, hky, -⟩ := hrows.kat (zints_at hy)
       subst hgxy
       refine W_skip ?_
       refine W_seq ?_
       refine W_block ?_
       refine W_sd (m := 15) rfl hmix hS.inv (fun K hK w1 hS' hh => ?_)
       replace hAma := hAma.st hS'
       replace hAmb := hAmb.st hS'
       replace hkr := hkr.st hS'
       replace hks := hks.st hS'
       replace hkx := hkx.st hS'
       replace hky := hky.st hS'
       replace hS := hS.trans hS'
       clear hS'
       clear hh
       refine a_v (i := 0) rfl (by kernel_rfl) hF (fun w2 hx => v_move rfl) rfl ?_; clear hF a; intro a hF
       refine a_v (i := 1) rfl (by kernel_rfl) hF (fun w2 hx => v_move rfl) rfl ?_; clear hF a; intro a hF
       refine a_v (i := 2) rfl (by kernel_rfl) hF (fun w2 hx => v_ixS sl22 rfl rfl (by omega) (by omega)) rfl ?_; clear hF a; intro a hF
       refine a_v (i := 3) rfl (by kernel_rfl) hF (fun w2 hx => v_load sc39 rfl (by rw [toNat_c]; exact hkr.ld hx)) rfl ?_; clear hF a; intro a hF
       refine a_v (i := 4) rfl (by kernel_rfl) hF (fun w2 hx => v_move rfl) rfl ?_; clear hF a; intro a hF
       refine a_v (i := 5) rfl (by kernel_rfl) hF (fun w2 hx => v_ixS sl39 rfl rfl (by omega) (by omega)) rfl ?_; clear hF a; intro a hF
       refine a_v (i := 6) rfl (by kernel_rfl) hF (fun w2 hx => v_load sc3 rfl (by rw [toNat_c]; exact hkx.ld hx)) rfl ?_; clear hF a; intro a hF
       refine a_v (i := 7) rfl (by kernel_rfl) hF (fun w2 hx => v_move rfl) rfl ?_; clear hF a; intro a hF
       refine a_v (i := 8) rfl (by kernel_rfl) hF (fun w2 hx => v_move rfl) rfl ?_; clear hF a; intro a hF
       refine a_v (i := 9) rfl (by kernel_rfl) hF (fun w2 hx => v_ixS sl22 rfl rfl (by omega) (by omega)) rfl ?_; clear hF a; intro a hF
       refine a_v (i := 10) rfl (by kernel_rfl) hF (fun w2 hx => v_load sc39 rfl (by rw [toNat_c]; exact hks.ld hx)) rfl ?_; clear hF a; intro a hF
       refine a_v (i := 11) rfl (by kernel_rfl) hF (fun w2 hx => v_move rfl) rfl ?_; clear hF a; intro a hF
       refine a_v (i := 12) rfl (by kernel_rfl) hF (fun w2 hx => v_ixS sl39 rfl rfl (by omega) (by omega)) rfl ?_; clear hF a; intro a hF
       refine a_v (i := 13) rfl (by kernel_rfl) hF (fun w2 hx => v_load sc3 rfl (by rw [toNat_c]; exact hky.ld hx)) rfl ?_; clear hF a; intro a hF
       refine a_v (i := 14) rfl (by kernel_rfl) hF (fun w2 hx => v_neq rfl rfl) rfl ?_; clear hF a; intro a hF
       refine a_done (by kernel_rfl) (hK _ _ ?_)
       clear hK K
       replace hF := hF.sub _ (c_ 52 rfl (c_ 0 rfl (c_ 1 rfl (c_ 5 rfl (c_ 6 rfl (n_))))))
       refine W_if hF rfl (fun hc5 => ?_) (fun hc5 => ?_)
       ·
        skip
        try simp only [dcl] at hc5
        refine W_sr rfl (fun K hK => ?_)
        refine sv hF (v_assign rfl) rfl ?_; clear hF a; intro a hF
        refine WL_nil (hK _ _ ?_)
        clear hK K
        replace hF := hF.sub _ (c_ 4 rfl (c_ 0 rfl (c_ 1 rfl (c_ 5 rfl (c_ 6 rfl (n_))))))
        refine W_ret ?_
        refine ⟨_, _, hF, rfl, ?_⟩
        refine ⟨congrArg _ (Eq.symm (decide_eq_false ?_)), hS⟩
        rintro rfl
        rw [hr] at hs
        obtain rfl := Option.some.inj hs
        rw [hx] at hy
        obtain rfl := Option.some.inj hy
        omega
       ·
        skip
        try simp only [dcl] at hc5
        refine W_skip ?_
        refine W_reg rfl (fun K hK => ?_)
        refine sv hF (v_move rfl) rfl ?_; clear hF a; intro a hF
        refine sv hF (v_addI rfl rfl (by omega)) rfl ?_; clear hF a; intro a hF
        refine sv hF (v_assign rfl) rfl ?_; clear hF a; intro a hF
        refine WL_nil (hK _ _ ?_)
        clear hK K
        replace hF := hF.sub _ (c_ 6 rfl (c_ 37 rfl (c_ 36 rfl (c_ 0 rfl (c_ 1 rfl (c_ 5 rfl (n_)))))))
        exact ⟨m2 - 1, by omega, j + 1, hF.sub _ (c_ 0 rfl (c_ 1 rfl (c_ 5 rfl (c_ 6 rfl (n_))))), hS, hAma, hAmb, by omega, take_snoc_eq hn2 hx (by rw [hy]; congr 1; omega), by omega⟩
      ·
       skip
       try simp only [dcl] at hc4
       obtain rfl : j = r.length := by omega
       obtain rfl : r = s := by rw [List.take_length, List.take_of_length_le (by omega)] at hn2; exact hn2
       refine W_exit rfl ?_
       refine W_reg rfl (fun K hK => ?_)
       refine sv hF (v_move rfl) rfl ?_; clear hF a; intro a hF
       refine sv hF (v_addI rfl rfl (by omega)) rfl ?_; clear hF a; intro a hF
       refine sv hF (v_assign rfl) rfl ?_; clear hF a; intro a hF
       refine WL_nil (hK _ _ ?_)
       clear hK K
       replace hF := hF.sub _ (c_ 5 rfl (c_ 17 rfl (c_ 16 rfl (c_ 0 rfl (c_ 1 rfl (c_ 6 rfl (n_)))))))
       exact ⟨m - 1, by omega, i + 1, hF.sub _ (c_ 0 rfl (c_ 1 rfl (c_ 5 rfl (n_)))), hS, hAma, hAmb, by omega, take_snoc_eq hn hr hs, by omega⟩
   ·
    skip
    try simp only [dcl] at hc2
    refine W_exit rfl ?_
    refine W_sr rfl (fun K hK => ?_)
    refine sv hF (v_assign rfl) rfl ?_; clear hF a; intro a hF
    refine WL_nil (hK _ _ ?_)
    clear hK K
    replace hF := hF.sub _ (c_ 4 rfl (c_ 0 rfl (c_ 1 rfl (c_ 5 rfl (n_)))))
    refine W_ret ?_
    refine ⟨_, _, hF, rfl, ?_⟩
    refine ⟨congrArg _ (Eq.symm (decide_eq_true ?_)), hS⟩
    obtain rfl : i = ma.length := by omega
    rw [List.take_length, List.take_of_length_le (by omega)] at hn
    exact hn

end Go.Proofs.YtaeljbdpjiciaaaGreat

/- The walks of gambrelref04: identity, rows picked, joined, products. -/
set_option linter.unusedVariables false
set_option linter.unusedSimpArgs false
namespace Go.Proofs.YtaeljbdpjiciaaaGreat
open Go Go.Gam


namespace FxFRef04b
theorem en16 : Ent Tryz.prog 16 := ent Tryz.func16 (by kernel_rfl) (by kernel_rfl)
theorem hmix : Tryz.prog.follows .mixedOrders = true := by kernel_rfl
theorem sc3 : Scalar Tryz.prog 3 := ⟨_, Tryz.underlying3, by simp, by simp⟩
theorem sc39 : Scalar Tryz.prog 39 := ⟨_, Tryz.underlying39, by simp, by simp⟩
theorem sl22 : Sl Tryz.prog 22 39 (.slice none 0 0) 24 := sl_of Tryz.underlying22 rfl (by kernel_rfl)
theorem sl39 : Sl Tryz.prog 39 3 (.int .i64 0) 8 := sl_of Tryz.underlying39 rfl (by kernel_rfl)
end FxFRef04b
open FxFRef04b

set_option maxRecDepth 100000 in
set_option maxHeartbeats 1000000 in
theorem rIdentity_ok (B : Nat) (n : Int) (w : World) (hI : Inv FDx B w) (hn : -9223372036854775808 ≤ n ∧ n < 9223372036854775808) : Ret Tryz.prog 18 [.int .i64 n] w fun v w' => ∃ ob, MOwn FDx B w.heap.size 0 w'.heap.size w' 39 v ob (identM n) ∧ St FDx B w w' := by
 refine enter 34 [(0, .int .i64 n)] 2 Tryz.func18 rfl rfl rfl rfl rfl ?_; intro a hF
 have hS := St.refl hI
 refine W_sr rfl (fun K hK => ?_)
 refine sv hF (v_assign rfl) rfl ?_; clear hF a; intro a hF
 refine WL_nil (hK _ _ ?_)
 clear hK K
 refine W_sr rfl (fun K hK => ?_)
 refine sv hF (v_assign rfl) rfl ?_; clear hF a; intro a hF
 refine WL_nil (hK _ _ ?_)
 clear hK K
 refine W_seq ?_
 refine W_sr rfl (fun K hK => ?_)
 refine sv hF (v_assign rfl) rfl ?_; clear hF a; intro a hF
 refine WL_nil (hK _ _ ?_)
 clear hK K
 refine W_block ?_
 refine W_loop (fun m a w1 => ∃ (i : Nat) (v3 : Value) (b3 : Option Nat), Fr 34 [(0, .int .i64 n), (3, v3), (4, .int .i64 (i : Int))] a ∧ (St FDx B w w1) ∧ (MOwn FDx B w.heap.size 0 w1.heap.size w1 39 v3 b3 ((List.range i).map (unitR n.toNat))) ∧ (i ≤ n.toNat) ∧ (i = 0 ∨ n ≤ 20) ∧ (m + i = n.toNat)) (n.toNat) ?_ ?_
 ·
  skip
  exact ⟨0, _, none, hF.sub _ (c_ 0 rfl (c_ 3 rfl (c_ 4 rfl (n_)))), hS, MOwn.nil _ _ _ _ _ _ _ (Nat.zero_le _), by omega, by omega, by omega⟩
 ·
  skip
  clear hF
  clear hS
  rintro m a w1 ⟨i, v3, b3, hF, hS, hMO, hi, hi2, hm⟩
  refine W_seq ?_
  obtain ⟨KM, hKe⟩ : ∃ KM, KM = w1.heap.size := ⟨_, rfl⟩
  rw [← hKe] at hMO
  have hKs : KM ≤ w1.heap.size := by omega
  have hNK : w.heap.size ≤ KM := by have := hS.ext.size; omega
  clear hKe
  refine W_sr rfl (fun K hK => ?_)
  refine sv2 hF (v_move rfl) (v_move rfl) rfl rfl ?_; clear hF a; intro a hF
  refine sb hF (v_lss rfl rfl) rfl ?_ ?_
  ·
   clear hF a; intro hc1 a hF
   try simp only [dcl] at hc1
   refine sv hF (v_move rfl) rfl ?_; clear hF a; intro a hF
   refine svg hF rfl ?_
   refine sv hF (v_move rfl) rfl ?_; clear hF a; intro a hF
   refine svg hF rfl ?_
   refine sv hF (v_leq rfl rfl) rfl ?_; clear hF a; intro a hF
   refine sv hF (v_pickT rfl rfl) rfl ?_; clear hF a; intro a hF
   refine WL_nil (hK _ _ ?_)
   clear hK K
   replace hF := hF.sub _ (c_ 14 rfl (c_ 0 rfl (c_ 3 rfl (c_ 4 rfl (n_)))))
   refine W_if hF rfl (fun hc2 => ?_) (fun hc2 => ?_)
   ·
    skip
    try simp only [dcl] at hc2
    refine W_skip ?_
    refine W_seq ?_
    refine W_block ?_
    refine W_sr rfl (fun K hK => ?_)
    refine sv hF (v_assign rfl) rfl ?_; clear hF a; intro a hF
    refine WL_nil (hK _ _ ?_)
    clear hK K
    replace hF := hF.sub _ (c_ 5 rfl (c_ 0 rfl (c_ 3 rfl (c_ 4 rfl (n_)))))
    refine W_seq ?_
    refine W_sr rfl (fun K hK => ?_)
    refine sv hF (v_assign rfl) rfl ?_; clear hF a; intro a hF
    refine WL_nil (hK _ _ ?_)
    clear hK K
    refine W_block ?_
    refine W_loop (fun m2 a w2 => ∃ (j : Nat) (v5 : Value) (b5 : Option Nat), Fr 34 [(0, .int .i64 n), (3, v3), (4, .int .i64 (i : Int)), (5, v5), (6, .int .i64 (j : Int))] a ∧ (St FDx B w w2) ∧ (MOwn FDx B w.heap.size 0 KM w2 39 v3 b3 ((List.range i).map (unitR n.toNat))) ∧ (KM ≤ w2.heap.size) ∧ (Gam.Own FDx B KM w2 FDx.E v5 b5 (zints ((unitR n.toNat i).take j))) ∧ (j ≤ n.toNat) ∧ (m2 + j = n.toNat)) (n.toNat) ?_ ?_
    ·
     skip
     exact ⟨0, _, none, hF.sub _ (c_ 0 rfl (c_ 3 rfl (c_ 4 rfl (c_ 5 rfl (c_ 6 rfl (n_)))))), hS, hMO, hKs, Gam.Own.nil _ _ _ _ _, by omega, by omega⟩
    ·
     skip
     clear hF
     clear hS hMO hKs
     rintro m2 a w2 ⟨j, v5, b5, hF, hS, hMO, hKs, hO, hj, hm2⟩
     refine W_seq ?_
     refine W_sr rfl (fun K hK => ?_)
     refine sv2 hF (v_move rfl) (v_move rfl) rfl rfl ?_; clear hF a; intro a hF
     refine sv hF (v_lss rfl rfl) rfl ?_; clear hF a; intro a hF
     refine WL_nil (hK _ _ ?_)
     clear hK K
     replace hF := hF.sub _ (c_ 19 rfl (c_ 0 rfl (c_ 3 rfl (c_ 4 rfl (c_ 5 rfl (c_ 6 rfl (n_)))))))
     refine W_if hF rfl (fun hc3 => ?_) (fun hc3 => ?_)
     ·
      skip
      try simp only [dcl] at hc3
      refine W_skip ?_
      refine W_seq ?_
      refine W_block ?_
      refine W_sr rfl (fun K hK => ?_)
      refine sv hF (v_assign rfl) rfl ?_; clear hF a; intro a hF
      refine WL_nil (hK _ _ ?_)
      clear hK K
      replace hF := hF.sub _ (c_ 7 rfl (c_ 0 rfl (c_ 3 rfl (c_ 4 rfl (c_ 5 rfl (c_ 6 rfl (n_)))))))
      refine W_seq ?_
      refine W_sr rfl (fun K hK => ?_)
      refine sv2 hF (v_move rfl) (v_move rfl) rfl rfl ?_; clear hF a; intro a hF
      refine sv hF (v_eql rfl rfl) rfl ?_; clear hF a; intro a hF
      refine WL_nil (hK _ _ ?_)
      clear hK K
      replace hF := hF.sub _ (c_ 24 rfl (c_ 7 rfl (c_ 0 rfl (c_ 3 rfl (c_ 4 rfl (c_ 5 rfl (c_ 6 rfl (n_))))))))
      refine W_if hF rfl (fun hc4 => ?_) (fun hc4 => ?_)
      ·
       skip
       try simp only [dcl] at hc4
       refine W_reg rfl (fun K hK => ?_)
       refine sv hF (v_assign rfl) rfl ?_; clear hF a; intro a hF
       refine WL_nil (hK _ _ ?_)
       clear hK K
       replace hF := hF.sub _ (c_ 7 rfl (c_ 0 rfl (c_ 3 rfl (c_ 4 rfl (c_ 5 rfl (c_ 6 rfl (n_)))))))
       have hul := unitR_length n.toNat i
       refine W_reg rfl (fun K hK => ?_)
       refine sv2 hF (v_move rfl) (v_move rfl) rfl rfl ?_; clear hF a; intro a hF
       refine s_bs (D := FDx) (B := B) hF sl39 rfl rfl (by decide) (by simp [Value.cells]) (by decide) hS.inv rfl ?_; clear hF a; intro w' a hm hI' hL hF
       replace hMO := hMO.mb0 hm
       replace hKs := Nat.le_trans hKs hm.size
       replace hO := hO.mb hm (fun _ _ => by simp)
       replace hS := hS.mb0 hm
       clear hm hI'
       refine s_app (D := FDx) (B := B) hF rfl sl39 rfl rfl hO (hL.row (by decide)) (by simp [Value.oneCell']) (by simp; omega) (by simp [maxLen]; omega) (hKs) (by decide) hS.inv rfl ?_; clear hF a; intro v' b' w' a ho' hm hI' hb' hF
       replace hMO := hMO.mbo hm hO (by decide) (Nat.le_refl _) (Nat.zero_le _)
       replace hKs := Nat.le_trans hKs hm.size
       replace hS := hS.mb hm (fun k h => Nat.le_trans (hNK) (hO.lt k h).1)
       replace hO := ho'
       clear hm hI' ho'
       refine sv hF (v_assign rfl) rfl ?_; clear hF a; intro a hF
       refine WL_nil (hK _ _ ?_)
       clear hK K
       replace hF := hF.sub _ (c_ 5 rfl (c_ 0 rfl (c_ 3 rfl (c_ 4 rfl (c_ 6 rfl (n_))))))
       refine W_reg rfl (fun K hK => ?_)
       refine sv hF (v_move rfl) rfl ?_; clear hF a; intro a hF
       refine sv hF (v_addI rfl rfl (by omega)) rfl ?_; clear hF a; intro a hF
       refine sv hF (v_assign rfl) rfl ?_; clear hF a; intro a hF
       refine WL_nil (hK _ _ ?_)
       clear hK K
       exact ⟨m2 - 1, by omega, j + 1, _, _, hF.sub _ (c_ 0 rfl (c_ 3 rfl (c_ 4 rfl (c_ 5 rfl (c_ 6 rfl (n_)))))), hS, hMO, hKs, hO.cast (by rw [unitR_snoc _ _ _ (by omega)]; (first | rw [if_pos (by omega)] | rw [if_neg (by omega)]); simp [zints]), by omega, by omega⟩
      ·
       skip
       try simp only [dcl] at hc4
       refine W_skip ?_
       have hul := unitR_length n.toNat i
       refine W_reg rfl (fun K hK => ?_)
       refine sv2 hF (v_move rfl) (v_move rfl) rfl rfl ?_; clear hF a; intro a hF
       refine s_bs (D := FDx) (B := B) hF sl39 rfl rfl (by decide) (by simp [Value.cells]) (by decide) hS.inv rfl ?_; clear hF a; intro w' a hm hI' hL hF
       replace hMO := hMO.mb0 hm
       replace hKs := Nat.le_trans hKs hm.size
       replace hO := hO.mb hm (fun _ _ => by simp)
       replace hS := hS.mb0 hm
       clear hm hI'
       refine s_app (D := FDx) (B := B) hF rfl sl39 rfl rfl hO (hL.row (by decide)) (by simp [Value.oneCell']) (by simp; omega) (by simp [maxLen]; omega) (hKs) (by decide) hS.inv rfl ?_; clear hF a; intro v' b' w' a ho' hm hI' hb' hF
       replace hMO := hMO.mbo hm hO (by decide) (Nat.le_refl _) (Nat.zero_le _)
       replace hKs := Nat.le_trans hKs hm.size
       replace hS := hS.mb hm (fun k h => Nat.le_trans (hNK) (hO.lt k h).1)
       replace hO := ho'
       clear hm hI' ho'
       refine sv hF (v_assign rfl) rfl ?_; clear hF a; intro a hF
       refine WL_nil (hK _ _ ?_)
       clear hK K
       replace hF := hF.sub _ (c_ 5 rfl (c_ 0 rfl (c_ 3 rfl (c_ 4 rfl (c_ 6 rfl (n_))))))
       refine W_reg rfl (fun K hK => ?_)
       refine sv hF (v_move rfl) rfl ?_; clear hF a; intro a hF
       refine sv hF (v_addI rfl rfl (by omega)) rfl ?_; clear hF a; intro a hF
       refine sv hF (v_assign rfl) rfl ?_; clear hF a; intro a hF
       refine WL_nil (hK _ _ ?_)
       clear hK K
       exact ⟨m2 - 1, by omega, j + 1, _, _, hF.sub _ (c_ 0 rfl (c_ 3 rfl (c_ 4 rfl (c_ 5 rfl (c_ 6 rfl (n_)))))), hS, hMO, hKs, hO.cast (by rw [unitR_snoc _ _ _ (by omega)]; (first | rw [if_pos (by omega)] | rw [if_neg (by omega)]); simp [zints]), by omega, by omega⟩
     ·
      skip
      try simp only [dcl] at hc3
      refine W_exit rfl ?_
      obtain rfl : j = n.toNat := by omega
      rw [List.take_of_length_le (by rw [unitR_length]; omega)] at hO
      refine W_reg rfl (fun K hK => ?_)
      refine sv2 hF (v_move rfl) (v_move rfl) rfl rfl ?_; clear hF a; intro a hF
      obtain ⟨a_, c_r, rfl⟩ := hO.shape
      refine s_bs (D := FDx) (B := B) hF sl22 rfl rfl (by decide) (by simp [Value.cells]) (by decide) hS.inv rfl ?_; clear hF a; intro w' a hm hI' hL hF
      replace hMO := hMO.mb0 hm
      replace hKs := Nat.le_trans hKs hm.size
      replace hO := hO.mb hm (fun _ _ => by simp)
      replace hS := hS.mb0 hm
      clear hm hI'
      replace hMO := hMO.up hKs
      clear hKs
      refine s_appM (D := FDx) (B := B) hF rfl sl22 rfl rfl hMO hL (.of hO (Nat.zero_le _)) rfl rfl (by simp; omega) (hS.ext.size) (by decide) (by decide) hS.inv rfl ?_; clear hF a; intro v' b' w' a ho' hm hI' hF
      replace hS := hS.mb hm (fun k h => (hMO.lt k h).1)
      have hKm := hm.size
      replace hMO := ho'
      clear hm hI' ho' hL
      refine sv hF (v_assign rfl) rfl ?_; clear hF a; intro a hF
      refine WL_nil (hK _ _ ?_)
      clear hK K
      replace hF := hF.sub _ (c_ 3 rfl (c_ 32 rfl (c_ 31 rfl (c_ 30 rfl (c_ 29 rfl (c_ 0 rfl (c_ 4 rfl (c_ 5 rfl (c_ 6 rfl (n_))))))))))
      refine W_reg rfl (fun K hK => ?_)
      refine sv hF (v_move rfl) rfl ?_; clear hF a; intro a hF
      refine sv hF (v_addI rfl rfl (by omega)) rfl ?_; clear hF a; intro a hF
      refine sv hF (v_assign rfl) rfl ?_; clear hF a; intro a hF
      refine WL_nil (hK _ _ ?_)
      clear hK K
      exact ⟨m - 1, by omega, i + 1, _, _, hF.sub _ (c_ 0 rfl (c_ 3 rfl (c_ 4 rfl (n_)))), hS, (hMO.up hKm).cast (idM_snoc _ _).symm, by omega, by omega, by omega⟩
   ·
    skip
    try simp only [dcl] at hc2
    refine W_exit rfl ?_
    refine W_sr rfl (fun K hK => ?_)
    refine sv2 hF (v_move rfl) (v_assign rfl) rfl rfl ?_; clear hF a; intro a hF
    refine WL_nil (hK _ _ ?_)
    clear hK K
    replace hF := hF.sub _ (c_ 2 rfl (c_ 33 rfl (c_ 0 rfl (c_ 3 rfl (c_ 4 rfl (n_))))))
    refine W_ret ?_
    refine ⟨_, _, hF, rfl, ?_⟩
    rw [ident_done (by omega)] at hMO
    exact ⟨_, hMO.up hKs, hS⟩
  ·
   clear hF a; intro hc1 a hF
   try simp only [dcl] at hc1
   refine sv hF (v_move rfl) rfl ?_; clear hF a; intro a hF
   refine svn hF rfl rfl rfl ?_; clear hF a; intro a hF
   refine svn hF rfl rfl rfl ?_; clear hF a; intro a hF
   refine sv hF (v_pickF rfl rfl) rfl ?_; clear hF a; intro a hF
   refine WL_nil (hK _ _ ?_)
   clear hK K
   replace hF := hF.sub _ (c_ 14 rfl (c_ 0 rfl (c_ 3 rfl (c_ 4 rfl (n_)))))
   refine W_ifF hF rfl ?_
   refine W_exit rfl ?_
   refine W_sr rfl (fun K hK => ?_)
   refine sv2 hF (v_move rfl) (v_assign rfl) rfl rfl ?_; clear hF a; intro a hF
   refine WL_nil (hK _ _ ?_)
   clear hK K
   replace hF := hF.sub _ (c_ 2 rfl (c_ 33 rfl (c_ 0 rfl (c_ 3 rfl (c_ 4 rfl (n_))))))
   refine W_ret ?_
   refine ⟨_, _, hF, rfl, ?_⟩
   rw [ident_done (by omega)] at hMO
   exact ⟨_, hMO.up hKs, hS⟩

set_option maxRecDepth 100000 in
set_option maxHeartbeats 1000000 in
theorem rPick_ok (B M wb p : Nat) (hp : Prm wb p) (pmt : Option Addr) (cmt : Nat) (mt : Mtx) (pl : Option Addr) (cl : Nat) (l : List Int) (w : World) (hI : Inv FDx B w) (hM : M ≤ w.heap.size) (hAmt : Mat FDx B M w pmt cmt mt) (hlmt : mt.length ≤ 1000) (hbmt : ∀ r ∈ mt, r.length ≤ 1000) (hx : Row FDx B M w (.slice pl l.length cl) (zints l)) (hxl : l.length ≤ 1000) : Ret Tryz.prog 20 [.int .i64 (wb : Int), .slice pmt mt.length cmt, .slice pl l.length cl] w fun v w' => ∃ ob u, v = .tuple #[u, .bool (pickM (some (wb, p)) mt l).isSome] ∧ MOwn FDx B w.heap.size M w'.heap.size w' 39 u ob ((pickM (some (wb, p)) mt l).getD []) ∧ St FDx B w w' := by
 refine enter2 55 [(0, .int .i64 (wb : Int)), (1, .slice pmt mt.length cmt), (2, .slice pl l.length cl)] 6 7 Tryz.func20 rfl rfl rfl rfl rfl ?_; intro a hF
 have hS := St.refl hI
 refine W_sr rfl (fun K hK => ?_)
 refine sv2 hF (v_assign rfl) (v_assign rfl) rfl rfl ?_; clear hF a; intro a hF
 refine WL_nil (hK _ _ ?_)
 clear hK K
 refine W_seq ?_
 refine W_sr rfl (fun K hK => ?_)
 refine sv2 hF (v_move rfl) (v_move rfl) rfl rfl ?_; clear hF a; intro a hF
 refine sc hF rfl rfl rfl en16 rfl (rMay_ok B M wb p hp _ cmt mt _ hS.inv hAmt (Nat.le_trans hlmt (by decide)) (fun r hr => Nat.le_trans (hbmt r hr) (by decide))) ?_; clear hF a; intro v w' a hv hF
 obtain ⟨rfl, hS'⟩ := hv
 replace hAmt := hAmt.st hS'
 replace hx := hx.st hS'
 replace hS := hS.trans hS'
 clear hS'
 refine sb hF (v_not rfl) rfl ?_ ?_
 ·
  clear hF a; intro hc1 a hF
  try simp only [dcl] at hc1
  refine sv hF (v_move rfl) rfl ?_; clear hF a; intro a hF
  refine svn hF rfl rfl rfl ?_; clear hF a; intro a hF
  refine svn hF rfl rfl rfl ?_; clear hF a; intro a hF
  refine svn hF rfl rfl rfl ?_; clear hF a; intro a hF
  refine sv2 hF (v_pickT rfl rfl) (v_move rfl) rfl rfl ?_; clear hF a; intro a hF
  refine svn hF rfl rfl rfl ?_; clear hF a; intro a hF
  refine svn hF rfl rfl rfl ?_; clear hF a; intro a hF
  refine svn hF rfl rfl rfl ?_; clear hF a; intro a hF
  refine sv hF (v_pickT rfl rfl) rfl ?_; clear hF a; intro a hF
  refine WL_nil (hK _ _ ?_)
  clear hK K
  replace hF := hF.sub _ (c_ 23 rfl (c_ 7 rfl (c_ 6 rfl (c_ 1 rfl (c_ 2 rfl (n_))))))
  refine W_ifT hF rfl ?_
  refine W_sr rfl (fun K hK => ?_)
  refine sv2 hF (v_assign rfl) (v_assign rfl) rfl rfl ?_; clear hF a; intro a hF
  refine WL_nil (hK _ _ ?_)
  clear hK K
  replace hF := hF.sub _ (c_ 7 rfl (c_ 6 rfl (c_ 1 rfl (c_ 2 rfl (n_)))))
  refine W_ret ?_
  refine ⟨_, _, _, hF, rfl, rfl, ?_⟩
  have hno : pickM (some (wb, p)) mt l = none := pickM_f (.inl (by simpa using hc1))
  rw [hno]
  exact ⟨none, _, rfl, MOwn.nil _ _ _ _ _ _ _ hM, hS⟩
 ·
  clear hF a; intro hc1 a hF
  try simp only [dcl] at hc1
  refine sv hF (v_move rfl) rfl ?_; clear hF a; intro a hF
  refine svg hF rfl ?_
  refine sv hF (v_move rfl) rfl ?_; clear hF a; intro a hF
  refine svg hF rfl ?_
  refine sv hF (v_lenS rfl sl39 rfl) rfl ?_; clear hF a; intro a hF
  refine svg hF rfl ?_
  refine sb hF (v_lss rfl rfl) rfl ?_ ?_
  ·
   clear hF a; intro hc2 a hF
   try simp only [dcl] at hc2
   refine sv2 hF (v_pickF rfl rfl) (v_move rfl) rfl rfl ?_; clear hF a; intro a hF
   refine svn hF rfl rfl rfl ?_; clear hF a; intro a hF
   refine svn hF rfl rfl rfl ?_; clear hF a; intro a hF
   refine svn hF rfl rfl rfl ?_; clear hF a; intro a hF
   refine sv hF (v_pickT rfl rfl) rfl ?_; clear hF a; intro a hF
   refine WL_nil (hK _ _ ?_)
   clear hK K
   replace hF := hF.sub _ (c_ 23 rfl (c_ 7 rfl (c_ 6 rfl (c_ 1 rfl (c_ 2 rfl (n_))))))
   refine W_ifT hF rfl ?_
   refine W_sr rfl (fun K hK => ?_)
   refine sv2 hF (v_assign rfl) (v_assign rfl) rfl rfl ?_; clear hF a; intro a hF
   refine WL_nil (hK _ _ ?_)
   clear hK K
   replace hF := hF.sub _ (c_ 7 rfl (c_ 6 rfl (c_ 1 rfl (c_ 2 rfl (n_)))))
   refine W_ret ?_
   refine ⟨_, _, _, hF, rfl, rfl, ?_⟩
   have hno : pickM (some (wb, p)) mt l = none := pickM_f (.inr (.inl (by omega)))
   rw [hno]
   exact ⟨none, _, rfl, MOwn.nil _ _ _ _ _ _ _ hM, hS⟩
  ·
   clear hF a; intro hc2 a hF
   try simp only [dcl] at hc2
   refine sv2 hF (v_pickF rfl rfl) (v_move rfl) rfl rfl ?_; clear hF a; intro a hF
   refine svg hF rfl ?_
   refine sv hF (v_move rfl) rfl ?_; clear hF a; intro a hF
   refine svg hF rfl ?_
   refine sv hF (v_lenS rfl sl39 rfl) rfl ?_; clear hF a; intro a hF
   refine svg hF rfl ?_
   refine sv hF (v_gtr rfl rfl) rfl ?_; clear hF a; intro a hF
   refine sv hF (v_pickF rfl rfl) rfl ?_; clear hF a; intro a hF
   refine WL_nil (hK _ _ ?_)
   clear hK K
   replace hF := hF.sub _ (c_ 23 rfl (c_ 7 rfl (c_ 6 rfl (c_ 1 rfl (c_ 2 rfl (n_))))))
   refine W_if hF rfl (fun hc3 => ?_) (fun hc3 => ?_)
   ·
    skip
    try simp only [dcl] at hc3
    refine W_sr rfl (fun K hK => ?_)
    refine sv2 hF (v_assign rfl) (v_assign rfl) rfl rfl ?_; clear hF a; intro a hF
    refine WL_nil (hK _ _ ?_)
    clear hK K
    replace hF := hF.sub _ (c_ 7 rfl (c_ 6 rfl (c_ 1 rfl (c_ 2 rfl (n_)))))
    refine W_ret ?_
    refine ⟨_, _, _, hF, rfl, rfl, ?_⟩
    have hno : pickM (some (wb, p)) mt l = none := pickM_f (.inr (.inl (by omega)))
    rw [hno]
    exact ⟨none, _, rfl, MOwn.nil _ _ _ _ _ _ _ hM, hS⟩
   ·
    skip
    try simp only [dcl] at hc3
    refine W_skip ?_
    have hmay : mayM (some (wb, p)) mt = true := by simpa using hc1
    have hmp := mayM_pos hmay
    obtain ⟨gmt, omt, rfl⟩ := hAmt.at1 (by omega)
    refine W_sr rfl (fun K hK => ?_)
    refine sv hF (v_assign rfl) rfl ?_; clear hF a; intro a hF
    refine WL_nil (hK _ _ ?_)
    clear hK K
    replace hF := hF.sub _ (c_ 8 rfl (c_ 7 rfl (c_ 6 rfl (c_ 1 rfl (c_ 2 rfl (n_))))))
    refine W_seq ?_
    refine W_sr rfl (fun K hK => ?_)
    refine sv hF (v_assign rfl) rfl ?_; clear hF a; intro a hF
    refine WL_nil (hK _ _ ?_)
    clear hK K
    refine W_block ?_
    refine W_loop (fun m a w1 => ∃ (i : Nat) (v8 : Value) (b8 : Option Nat), Fr 55 [(1, .slice (some ⟨gmt, omt, none⟩) mt.length cmt), (2, .slice pl l.length cl), (8, v8), (9, .int .i64 (i : Int))] a ∧ (St FDx B w w1) ∧ (Mat FDx B M w1 (some ⟨gmt, omt, none⟩) cmt mt) ∧ (Row FDx B M w1 (.slice pl l.length cl) (zints l)) ∧ (MOwn FDx B w.heap.size M w1.heap.size w1 39 v8 b8 ((l.take i).map (rowM mt))) ∧ (((l.take i).all fun i => decide (0 ≤ i ∧ i < (mt.length : Int))) = true) ∧ (i ≤ l.length) ∧ (m + i = l.length)) (l.length) ?_ ?_
    ·
     skip
     exact ⟨0, _, none, hF.sub _ (c_ 1 rfl (c_ 2 rfl (c_ 8 rfl (c_ 9 rfl (n_))))), hS, hAmt, hx, MOwn.nil _ _ _ _ _ _ _ hM, rfl, by omega, by omega⟩
    ·
     skip
     clear hF
     clear hS hAmt hx
     rintro m a w1 ⟨i, v8, b8, hF, hS, hAmt, hx, hMO, hal, hi, hm⟩
     refine W_seq ?_
     obtain ⟨KM, hKe⟩ : ∃ KM, KM = w1.heap.size := ⟨_, rfl⟩
     rw [← hKe] at hMO
     have hKs : KM ≤ w1.heap.size := by omega
     have hNK : w.heap.size ≤ KM := by have := hS.ext.size; omega
     clear hKe
     refine W_sr rfl (fun K hK => ?_)
     refine sv2 hF (v_move rfl) (v_move rfl) rfl rfl ?_; clear hF a; intro a hF
     refine sv hF (v_lenS rfl sl39 rfl) rfl ?_; clear hF a; intro a hF
     refine sv hF (v_lss rfl rfl) rfl ?_; clear hF a; intro a hF
     refine WL_nil (hK _ _ ?_)
     clear hK K
     replace hF := hF.sub _ (c_ 27 rfl (c_ 1 rfl (c_ 2 rfl (c_ 8 rfl (c_ 9 rfl (n_))))))
     refine W_if hF rfl (fun hc4 => ?_) (fun hc4 => ?_)
     ·
      skip
      try simp only [dcl] at hc4
      refine W_skip ?_
      refine W_seq ?_
      refine W_block ?_
      refine W_seq ?_
      have hlt : i < l.length := by omega
      obtain ⟨z, hz⟩ : ∃ z, l[i]? = some z := ⟨_, List.getElem?_eq_getElem hlt⟩
      obtain ⟨gx, ox, hgx, hkz, -⟩ := hx.kat (zints_at hz)
      subst hgx
      refine W_sr rfl (fun K hK => ?_)
      refine sv2 hF (v_move rfl) (v_move rfl) rfl rfl ?_; clear hF a; intro a hF
      refine sv hF (v_ixS sl39 rfl rfl (by omega) (by omega)) rfl ?_; clear hF a; intro a hF
      refine sv hF (v_load sc3 rfl (by rw [toNat_c]; exact hkz.c)) rfl ?_; clear hF a; intro a hF
      refine sb hF (v_lss rfl rfl) rfl ?_ ?_
      ·
       clear hF a; intro hc5 a hF
       try simp only [dcl] at hc5
       refine sv hF (v_move rfl) rfl ?_; clear hF a; intro a hF
       refine svn hF rfl rfl rfl ?_; clear hF a; intro a hF
       refine svn hF rfl rfl rfl ?_; clear hF a; intro a hF
       refine svn hF rfl rfl rfl ?_; clear hF a; intro a hF
       refine svn hF rfl rfl rfl ?_; clear hF a; intro a hF
       refine svn hF rfl rfl rfl ?_; clear hF a; intro a hF
       refine svn hF rfl rfl rfl ?_; clear hF a; intro a hF
       refine svn hF rfl rfl rfl ?_; clear hF a; intro a hF
       refine sv hF (v_pickT rfl rfl) rfl ?_; clear hF a; intro a hF
       refine WL_nil (hK _ _ ?_)
       clear hK K
       replace hF := hF.sub _ (c_ 43 rfl (c_ 1 rfl (c_ 2 rfl (c_ 8 rfl (c_ 9 rfl (n_))))))
       refine W_ifT hF rfl ?_
       refine W_sr rfl (fun K hK => ?_)
       refine sv2 hF (v_assign rfl) (v_assign rfl) rfl rfl ?_; clear hF a; intro a hF
       refine WL_nil (hK _ _ ?_)
       clear hK K
       replace hF := hF.sub _ (c_ 7 rfl (c_ 6 rfl (c_ 1 rfl (c_ 2 rfl (c_ 8 rfl (c_ 9 rfl (n_)))))))
       refine W_ret ?_
       refine ⟨_, _, _, hF, rfl, rfl, ?_⟩
       have hno : pickM (some (wb, p)) mt l = none := pickM_f (.inr (.inr (all_no hz (by rw [decide_eq_false_iff_not]; omega))))
       rw [hno]
       exact ⟨none, _, rfl, MOwn.nil _ _ _ _ _ _ _ hM, hS⟩
      ·
       clear hF a; intro hc5 a hF
       try simp only [dcl] at hc5
       refine sv hF (v_move rfl) rfl ?_; clear hF a; intro a hF
       refine svg hF rfl ?_
       refine sv hF (v_move rfl) rfl ?_; clear hF a; intro a hF
       refine svg hF rfl ?_
       refine sv hF (v_move rfl) rfl ?_; clear hF a; intro a hF
       refine svg hF rfl ?_
       refine sv hF (v_ixS sl39 rfl rfl (by omega) (by omega)) rfl ?_; clear hF a; intro a hF
       refine svg hF rfl ?_
       refine sv hF (v_load sc3 rfl (by rw [toNat_c]; exact hkz.c)) rfl ?_; clear hF a; intro a hF
       refine svg hF rfl ?_
       refine sv hF (v_move rfl) rfl ?_; clear hF a; intro a hF
       refine svg hF rfl ?_
       refine sv hF (v_lenS rfl sl22 rfl) rfl ?_; clear hF a; intro a hF
       refine svg hF rfl ?_
       refine sv hF (v_geq rfl rfl) rfl ?_; clear hF a; intro a hF
       refine sv hF (v_pickF rfl rfl) rfl ?_; clear hF a; intro a hF
       refine WL_nil (hK _ _ ?_)
       clear hK K
       replace hF := hF.sub _ (c_ 43 rfl (c_ 1 rfl (c_ 2 rfl (c_ 8 rfl (c_ 9 rfl (n_))))))
       refine W_if hF rfl (fun hc6 => ?_) (fun hc6 => ?_)
       ·
        skip
        try simp only [dcl] at hc6
        refine W_sr rfl (fun K hK => ?_)
        refine sv2 hF (v_assign rfl) (v_assign rfl) rfl rfl ?_; clear hF a; intro a hF
        refine WL_nil (hK _ _ ?_)
        clear hK K
        replace hF := hF.sub _ (c_ 7 rfl (c_ 6 rfl (c_ 1 rfl (c_ 2 rfl (c_ 8 rfl (c_ 9 rfl (n_)))))))
        refine W_ret ?_
        refine ⟨_, _, _, hF, rfl, rfl, ?_⟩
        have hno : pickM (some (wb, p)) mt l = none := pickM_f (.inr (.inr (all_no hz (by rw [decide_eq_false_iff_not]; omega))))
        rw [hno]
        exact ⟨none, _, rfl, MOwn.nil _ _ _ _ _ _ _ hM, hS⟩
       ·
        skip
        try simp only [dcl] at hc6
        refine W_skip ?_
        obtain ⟨zn, rfl⟩ : ∃ zn : Nat, z = (zn : Int) := ⟨z.toNat, by omega⟩
        obtain ⟨r, hr⟩ : ∃ r, mt[zn]? = some r := ⟨_, List.getElem?_eq_getElem (by omega)⟩
        obtain ⟨pr, cr, hkr, hrow, -⟩ := hAmt.row2 hr
        refine W_reg rfl (fun K hK => ?_)
        refine sv4 hF (v_move rfl) (v_move rfl) (v_move rfl) (v_move rfl) rfl rfl rfl rfl ?_; clear hF a; intro a hF
        refine sv hF (v_ixS sl39 rfl rfl (by omega) (by omega)) rfl ?_; clear hF a; intro a hF
        refine sv hF (v_load sc3 rfl (by rw [toNat_c]; exact hkz.c)) rfl ?_; clear hF a; intro a hF
        refine sv hF (v_ixS sl22 rfl rfl (by omega) (by omega)) rfl ?_; clear hF a; intro a hF
        refine sv hF (v_load sc39 rfl (by rw [toNat_c]; exact hkr.c)) rfl ?_; clear hF a; intro a hF
        refine s_bs (D := FDx) (B := B) hF sl22 rfl rfl (by decide) (by simp [Value.cells]) (by decide) hS.inv rfl ?_; clear hF a; intro w' a hm hI' hL hF
        replace hAmt := hAmt.mb hm (fun _ h => by cases h)
        replace hx := hx.mb hm (fun _ h => by cases h)
        replace hMO := hMO.mb0 hm
        replace hKs := Nat.le_trans hKs hm.size
        replace hrow := hrow.mb hm (fun _ h => by cases h)
        replace hS := hS.mb0 hm
        clear hm hI'
        replace hMO := hMO.up hKs
        clear hKs
        refine s_appM (D := FDx) (B := B) hF rfl sl22 rfl rfl hMO hL (.inr (hrow.mono (Nat.le_refl _))) rfl rfl (by simp; omega) (hS.ext.size) (by decide) (by decide) hS.inv rfl ?_; clear hF a; intro v' b' w' a ho' hm hI' hF
        replace hAmt := hAmt.mb hm (fun k h => Nat.le_trans (by omega) (hMO.lt k h).1)
        replace hx := hx.mb hm (fun k h => Nat.le_trans (by omega) (hMO.lt k h).1)
        replace hS := hS.mb hm (fun k h => (hMO.lt k h).1)
        have hKm := hm.size
        replace hMO := ho'
        clear hm hI' ho' hL
        refine sv hF (v_assign rfl) rfl ?_; clear hF a; intro a hF
        refine WL_nil (hK _ _ ?_)
        clear hK K
        replace hF := hF.sub _ (c_ 8 rfl (c_ 1 rfl (c_ 2 rfl (c_ 9 rfl (n_)))))
        refine W_reg rfl (fun K hK => ?_)
        refine sv hF (v_move rfl) rfl ?_; clear hF a; intro a hF
        refine sv hF (v_addI rfl rfl (by omega)) rfl ?_; clear hF a; intro a hF
        refine sv hF (v_assign rfl) rfl ?_; clear hF a; intro a hF
        refine WL_nil (hK _ _ ?_)
        clear hK K
        exact ⟨m - 1, by omega, i + 1, _, _, hF.sub _ (c_ 1 rfl (c_ 2 rfl (c_ 8 rfl (c_ 9 rfl (n_))))), hS, hAmt, hx, (hMO.up hKm).cast (by rw [pick_snoc hz, rowM_of hr]), all_snoc hal hz (by rw [decide_eq_true_iff]; omega), by omega, by omega⟩
     ·
      skip
      try simp only [dcl] at hc4
      refine W_exit rfl ?_
      refine W_sr rfl (fun K hK => ?_)
      refine sv3 hF (v_move rfl) (v_assign rfl) (v_assign rfl) rfl rfl rfl ?_; clear hF a; intro a hF
      refine WL_nil (hK _ _ ?_)
      clear hK K
      replace hF := hF.sub _ (c_ 7 rfl (c_ 6 rfl (c_ 54 rfl (c_ 1 rfl (c_ 2 rfl (c_ 8 rfl (c_ 9 rfl (n_))))))))
      refine W_ret ?_
      refine ⟨_, _, _, hF, rfl, rfl, ?_⟩
      obtain rfl : i = l.length := by omega
      rw [List.take_length] at hMO hal
      have hyes := pickM_t hmay (by omega) hal
      rw [hyes]
      exact ⟨_, _, rfl, hMO.up hKs, hS⟩

set_option maxRecDepth 100000 in
set_option maxHeartbeats 1000000 in
theorem rJoin_ok (B M wb p : Nat) (hp : Prm wb p) (pma : Option Addr) (cma : Nat) (ma : Mtx) (pmb : Option Addr) (cmb : Nat) (mb : Mtx) (w : World) (hI : Inv FDx B w) (hM : M ≤ w.heap.size) (hAma : Mat FDx B M w pma cma ma) (hlma : ma.length ≤ 1000) (hbma : ∀ r ∈ ma, r.length ≤ 1000) (hAmb : Mat FDx B M w pmb cmb mb) (hlmb : mb.length ≤ 1000) (hbmb : ∀ r ∈ mb, r.length ≤ 1000) : Ret Tryz.prog 17 [.int .i64 (wb : Int), .slice pma ma.length cma, .slice pmb mb.length cmb] w fun v w' => ∃ ob u, v = .tuple #[u, .bool (joinM (some (wb, p)) ma mb).isSome] ∧ MOwn FDx B w.heap.size M w'.heap.size w' 39 u ob ((joinM (some (wb, p)) ma mb).getD []) ∧ St FDx B w w' := by
 refine enter2 45 [(0, .int .i64 (wb : Int)), (1, .slice pma ma.length cma), (2, .slice pmb mb.length cmb)] 6 7 Tryz.func17 rfl rfl rfl rfl rfl ?_; intro a hF
 have hS := St.refl hI
 refine W_sr rfl (fun K hK => ?_)
 refine sv2 hF (v_assign rfl) (v_assign rfl) rfl rfl ?_; clear hF a; intro a hF
 refine WL_nil (hK _ _ ?_)
 clear hK K
 refine W_seq ?_
 refine W_sd (m := 29) rfl hmix hS.inv (fun K hK w1 hS' hh => ?_)
 replace hAma := hAma.st hS'
 replace hAmb := hAmb.st hS'
 replace hS := hS.trans hS'
 clear hS'
 clear hh
 refine a_v (i := 0) rfl (by kernel_rfl) hF (fun w2 hx => v_move rfl) rfl ?_; clear hF a; intro a hF
 refine a_v (i := 1) rfl (by kernel_rfl) hF (fun w2 hx => v_move rfl) rfl ?_; clear hF a; intro a hF
 refine a_e (i := 2) rfl (by kernel_rfl) ?_
 refine sc hF rfl rfl rfl en16 rfl (rMay_ok B M wb p hp _ cma ma _ hS.inv hAma (Nat.le_trans hlma (by decide)) (fun r hr => Nat.le_trans (hbma r hr) (by decide))) ?_; clear hF a; intro v w' a hv hF
 obtain ⟨rfl, hS'⟩ := hv
 refine WL_nil ⟨hS'.ext, ?_⟩
 replace hAma := hAma.st hS'
 replace hAmb := hAmb.st hS'
 replace hS := hS.trans hS'
 clear hS'
 refine a_b (i := 3) rfl (by kernel_rfl) hF (fun w2 hx => v_not rfl) rfl ?_ ?_
 ·
  clear hF a; intro hc1 a hF
  try simp only [dcl] at hc1
  refine a_v (i := 4) rfl (by kernel_rfl) hF (fun w2 hx => v_move rfl) rfl ?_; clear hF a; intro a hF
  refine a_vn (i := 5) rfl (by kernel_rfl) hF rfl rfl rfl ?_; clear hF a; intro a hF
  refine a_vn (i := 6) rfl (by kernel_rfl) hF rfl rfl rfl ?_; clear hF a; intro a hF
  refine a_vn (i := 7) rfl (by kernel_rfl) hF rfl rfl rfl ?_; clear hF a; intro a hF
  refine a_vn (i := 8) rfl (by kernel_rfl) hF rfl rfl rfl ?_; clear hF a; intro a hF
  refine a_v (i := 9) rfl (by kernel_rfl) hF (fun w2 hx => v_pickT rfl rfl) rfl ?_; clear hF a; intro a hF
  refine a_v (i := 10) rfl (by kernel_rfl) hF (fun w2 hx => v_move rfl) rfl ?_; clear hF a; intro a hF
  refine a_vn (i := 11) rfl (by kernel_rfl) hF rfl rfl rfl ?_; clear hF a; intro a hF
  refine a_vn (i := 12) rfl (by kernel_rfl) hF rfl rfl rfl ?_; clear hF a; intro a hF
  refine a_vn (i := 13) rfl (by kernel_rfl) hF rfl rfl rfl ?_; clear hF a; intro a hF
  refine a_vn (i := 14) rfl (by kernel_rfl) hF rfl rfl rfl ?_; clear hF a; intro a hF
  refine a_vn (i := 15) rfl (by kernel_rfl) hF rfl rfl rfl ?_; clear hF a; intro a hF
  refine a_vn (i := 16) rfl (by kernel_rfl) hF rfl rfl rfl ?_; clear hF a; intro a hF
  refine a_vn (i := 17) rfl (by kernel_rfl) hF rfl rfl rfl ?_; clear hF a; intro a hF
  refine a_vn (i := 18) rfl (by kernel_rfl) hF rfl rfl rfl ?_; clear hF a; intro a hF
  refine a_vn (i := 19) rfl (by kernel_rfl) hF rfl rfl rfl ?_; clear hF a; intro a hF
  refine a_v (i := 20) rfl (by kernel_rfl) hF (fun w2 hx => v_pickT rfl rfl) rfl ?_; clear hF a; intro a hF
  refine a_v (i := 21) rfl (by kernel_rfl) hF (fun w2 hx => v_move rfl) rfl ?_; clear hF a; intro a hF
  refine a_vn (i := 22) rfl (by kernel_rfl) hF rfl rfl rfl ?_; clear hF a; intro a hF
  refine a_vn (i := 23) rfl (by kernel_rfl) hF rfl rfl rfl ?_; clear hF a; intro a hF
  refine a_vn (i := 24) rfl (by kernel_rfl) hF rfl rfl rfl ?_; clear hF a; intro a hF
  refine a_vn (i := 25) rfl (by kernel_rfl) hF rfl rfl rfl ?_; clear hF a; intro a hF
  refine a_vn (i := 26) rfl (by kernel_rfl) hF rfl rfl rfl ?_; clear hF a; intro a hF
  refine a_vn (i := 27) rfl (by kernel_rfl) hF rfl rfl rfl ?_; clear hF a; intro a hF
  refine a_v (i := 28) rfl (by kernel_rfl) hF (fun w2 hx => v_pickT rfl rfl) rfl ?_; clear hF a; intro a hF
  refine a_done (by kernel_rfl) (hK _ _ ?_)
  clear hK K
  replace hF := hF.sub _ (c_ 37 rfl (c_ 7 rfl (c_ 6 rfl (c_ 1 rfl (c_ 2 rfl (n_))))))
  refine W_ifT hF rfl ?_
  refine W_sr rfl (fun K hK => ?_)
  refine sv2 hF (v_assign rfl) (v_assign rfl) rfl rfl ?_; clear hF a; intro a hF
  refine WL_nil (hK _ _ ?_)
  clear hK K
  replace hF := hF.sub _ (c_ 7 rfl (c_ 6 rfl (c_ 1 rfl (c_ 2 rfl (n_)))))
  refine W_ret ?_
  refine ⟨_, _, _, hF, rfl, rfl, ?_⟩
  have hno : joinM (some (wb, p)) ma mb = none := joinM_f (.inl (by simpa using hc1))
  rw [hno]
  exact ⟨none, _, rfl, MOwn.nil _ _ _ _ _ _ _ hM, hS⟩
 ·
  clear hF a; intro hc1 a hF
  try simp only [dcl] at hc1
  refine a_v (i := 4) rfl (by kernel_rfl) hF (fun w2 hx => v_move rfl) rfl ?_; clear hF a; intro a hF
  refine a_vg (i := 5) rfl (by kernel_rfl) hF rfl (fun w2 hx => v_move rfl) rfl ?_; clear hF a; intro a hF
  refine a_vg (i := 6) rfl (by kernel_rfl) hF rfl (fun w2 hx => v_move rfl) rfl ?_; clear hF a; intro a hF
  refine a_e (i := 7) rfl (by kernel_rfl) ?_
  refine svg hF rfl ?_
  refine sc hF rfl rfl rfl en16 rfl (rMay_ok B M wb p hp _ cmb mb _ hS.inv hAmb (Nat.le_trans hlmb (by decide)) (fun r hr => Nat.le_trans (hbmb r hr) (by decide))) ?_; clear hF a; intro v w' a hv hF
  obtain ⟨rfl, hS'⟩ := hv
  refine WL_nil ⟨hS'.ext, ?_⟩
  replace hAma := hAma.st hS'
  replace hAmb := hAmb.st hS'
  replace hS := hS.trans hS'
  clear hS'
  refine a_bg (i := 8) rfl (by kernel_rfl) hF rfl (fun w2 hx => v_not rfl) rfl ?_ ?_
  ·
   clear hF a; intro hc2 a hF
   try simp only [dcl] at hc2
   refine a_v (i := 9) rfl (by kernel_rfl) hF (fun w2 hx => v_pickF rfl rfl) rfl ?_; clear hF a; intro a hF
   refine a_v (i := 10) rfl (by kernel_rfl) hF (fun w2 hx => v_move rfl) rfl ?_; clear hF a; intro a hF
   refine a_vn (i := 11) rfl (by kernel_rfl) hF rfl rfl rfl ?_; clear hF a; intro a hF
   refine a_vn (i := 12) rfl (by kernel_rfl) hF rfl rfl rfl ?_; clear hF a; intro a hF
   refine a_vn (i := 13) rfl (by kernel_rfl) hF rfl rfl rfl ?_; clear hF a; intro a hF
   refine a_vn (i := 14) rfl (by kernel_rfl) hF rfl rfl rfl ?_; clear hF a; intro a hF
   refine a_vn (i := 15) rfl (by kernel_rfl) hF rfl rfl rfl ?_; clear hF a; intro a hF
   refine a_vn (i := 16) rfl (by kernel_rfl) hF rfl rfl rfl ?_; clear hF a; intro a hF
   refine a_vn (i := 17) rfl (by kernel_rfl) hF rfl rfl rfl ?_; clear hF a; intro a hF
   refine a_vn (i := 18) rfl (by kernel_rfl) hF rfl rfl rfl ?_; clear hF a; intro a hF
   refine a_vn (i := 19) rfl (by kernel_rfl) hF rfl rfl rfl ?_; clear hF a; intro a hF
   refine a_v (i := 20) rfl (by kernel_rfl) hF (fun w2 hx => v_pickT rfl rfl) rfl ?_; clear hF a; intro a hF
   refine a_v (i := 21) rfl (by kernel_rfl) hF (fun w2 hx => v_move rfl) rfl ?_; clear hF a; intro a hF
   refine a_vn (i := 22) rfl (by kernel_rfl) hF rfl rfl rfl ?_; clear hF a; intro a hF
   refine a_vn (i := 23) rfl (by kernel_rfl) hF rfl rfl rfl ?_; clear hF a; intro a hF
   refine a_vn (i := 24) rfl (by kernel_rfl) hF rfl rfl rfl ?_; clear hF a; intro a hF
   refine a_vn (i := 25) rfl (by kernel_rfl) hF rfl rfl rfl ?_; clear hF a; intro a hF
   refine a_vn (i := 26) rfl (by kernel_rfl) hF rfl rfl rfl ?_; clear hF a; intro a hF
   refine a_vn (i := 27) rfl (by kernel_rfl) hF rfl rfl rfl ?_; clear hF a; intro a hF
   refine a_v (i := 28) rfl (by kernel_rfl) hF (fun w2 hx => v_pickT rfl rfl) rfl ?_; clear hF a; intro a hF
   refine a_done (by kernel_rfl) (hK _ _ ?_)
   clear hK K
   replace hF := hF.sub _ (c_ 37 rfl (c_ 7 rfl (c_ 6 rfl (c_ 1 rfl (c_ 2 rfl (n_))))))
   refine W_ifT hF rfl ?_
   refine W_sr rfl (fun K hK => ?_)
   refine sv2 hF (v_assign rfl) (v_assign rfl) rfl rfl ?_; clear hF a; intro a hF
   refine WL_nil (hK _ _ ?_)
   clear hK K
   replace hF := hF.sub _ (c_ 7 rfl (c_ 6 rfl (c_ 1 rfl (c_ 2 rfl (n_)))))
   refine W_ret ?_
   refine ⟨_, _, _, hF, rfl, rfl, ?_⟩
   have hno : joinM (some (wb, p)) ma mb = none := joinM_f (.inr (.inl (by simpa using hc2)))
   rw [hno]
   exact ⟨none, _, rfl, MOwn.nil _ _ _ _ _ _ _ hM, hS⟩
  ·
   clear hF a; intro hc2 a hF
   try simp only [dcl] at hc2
   refine a_v (i := 9) rfl (by kernel_rfl) hF (fun w2 hx => v_pickF rfl rfl) rfl ?_; clear hF a; intro a hF
   refine a_v (i := 10) rfl (by kernel_rfl) hF (fun w2 hx => v_move rfl) rfl ?_; clear hF a; intro a hF
   have hm1 : mayM (some (wb, p)) ma = true := by simpa using hc1
   have hm2 : mayM (some (wb, p)) mb = true := by simpa using hc2
   have hp1 := mayM_pos hm1
   have hp2 := mayM_pos hm2
   obtain ⟨gma, oma, rfl⟩ := hAma.at1 (by omega)
   obtain ⟨r0ma, h0ma⟩ : ∃ r, ma[0]? = some r := ⟨_, List.getElem?_eq_getElem (by omega)⟩
   obtain ⟨p0ma, c0ma, hk0ma, hrow0ma, -⟩ := hAma.row2 h0ma
   have hwma := wid_at h0ma
   obtain ⟨gmb, omb, rfl⟩ := hAmb.at1 (by omega)
   obtain ⟨r0mb, h0mb⟩ : ∃ r, mb[0]? = some r := ⟨_, List.getElem?_eq_getElem (by omega)⟩
   obtain ⟨p0mb, c0mb, hk0mb, hrow0mb, -⟩ := hAmb.row2 h0mb
   have hwmb := wid_at h0mb
   refine a_vg (i := 11) rfl (by kernel_rfl) hF rfl (fun w2 hx => v_move rfl) rfl ?_; clear hF a; intro a hF
   refine a_vg (i := 12) rfl (by kernel_rfl) hF rfl (fun w2 hx => v_ixS sl22 rfl rfl (by decide) (by omega)) rfl ?_; clear hF a; intro a hF
   refine a_vg (i := 13) rfl (by kernel_rfl) hF rfl (fun w2 hx => v_load sc39 rfl (hk0ma.ld hx)) rfl ?_; clear hF a; intro a hF
   refine a_vg (i := 14) rfl (by kernel_rfl) hF rfl (fun w2 hx => v_lenS rfl sl39 rfl) rfl ?_; clear hF a; intro a hF
   refine a_vg (i := 15) rfl (by kernel_rfl) hF rfl (fun w2 hx => v_move rfl) rfl ?_; clear hF a; intro a hF
   refine a_vg (i := 16) rfl (by kernel_rfl) hF rfl (fun w2 hx => v_ixS sl22 rfl rfl (by decide) (by omega)) rfl ?_; clear hF a; intro a hF
   refine a_vg (i := 17) rfl (by kernel_rfl) hF rfl (fun w2 hx => v_load sc39 rfl (hk0mb.ld hx)) rfl ?_; clear hF a; intro a hF
   refine a_vg (i := 18) rfl (by kernel_rfl) hF rfl (fun w2 hx => v_lenS rfl sl39 rfl) rfl ?_; clear hF a; intro a hF
   refine a_bg (i := 19) rfl (by kernel_rfl) hF rfl (fun w2 hx => v_neq rfl rfl) rfl ?_ ?_
   ·
    clear hF a; intro hc3 a hF
    try simp only [dcl] at hc3
    refine a_v (i := 20) rfl (by kernel_rfl) hF (fun w2 hx => v_pickF rfl rfl) rfl ?_; clear hF a; intro a hF
    refine a_v (i := 21) rfl (by kernel_rfl) hF (fun w2 hx => v_move rfl) rfl ?_; clear hF a; intro a hF
    refine a_vn (i := 22) rfl (by kernel_rfl) hF rfl rfl rfl ?_; clear hF a; intro a hF
    refine a_vn (i := 23) rfl (by kernel_rfl) hF rfl rfl rfl ?_; clear hF a; intro a hF
    refine a_vn (i := 24) rfl (by kernel_rfl) hF rfl rfl rfl ?_; clear hF a; intro a hF
    refine a_vn (i := 25) rfl (by kernel_rfl) hF rfl rfl rfl ?_; clear hF a; intro a hF
    refine a_vn (i := 26) rfl (by kernel_rfl) hF rfl rfl rfl ?_; clear hF a; intro a hF
    refine a_vn (i := 27) rfl (by kernel_rfl) hF rfl rfl rfl ?_; clear hF a; intro a hF
    refine a_v (i := 28) rfl (by kernel_rfl) hF (fun w2 hx => v_pickT rfl rfl) rfl ?_; clear hF a; intro a hF
    refine a_done (by kernel_rfl) (hK _ _ ?_)
    clear hK K
    replace hF := hF.sub _ (c_ 37 rfl (c_ 7 rfl (c_ 6 rfl (c_ 1 rfl (c_ 2 rfl (n_))))))
    refine W_ifT hF rfl ?_
    refine W_sr rfl (fun K hK => ?_)
    refine sv2 hF (v_assign rfl) (v_assign rfl) rfl rfl ?_; clear hF a; intro a hF
    refine WL_nil (hK _ _ ?_)
    clear hK K
    replace hF := hF.sub _ (c_ 7 rfl (c_ 6 rfl (c_ 1 rfl (c_ 2 rfl (n_)))))
    refine W_ret ?_
    refine ⟨_, _, _, hF, rfl, rfl, ?_⟩
    have hno : joinM (some (wb, p)) ma mb = none := joinM_f (.inr (.inr (.inl (by rw [hwma, hwmb]; omega))))
    rw [hno]
    exact ⟨none, _, rfl, MOwn.nil _ _ _ _ _ _ _ hM, hS⟩
   ·
    clear hF a; intro hc3 a hF
    try simp only [dcl] at hc3
    refine a_v (i := 20) rfl (by kernel_rfl) hF (fun w2 hx => v_pickF rfl rfl) rfl ?_; clear hF a; intro a hF
    refine a_v (i := 21) rfl (by kernel_rfl) hF (fun w2 hx => v_move rfl) rfl ?_; clear hF a; intro a hF
    refine a_vg (i := 22) rfl (by kernel_rfl) hF rfl (fun w2 hx => v_move rfl) rfl ?_; clear hF a; intro a hF
    refine a_vg (i := 23) rfl (by kernel_rfl) hF rfl (fun w2 hx => v_lenS rfl sl22 rfl) rfl ?_; clear hF a; intro a hF
    refine a_vg (i := 24) rfl (by kernel_rfl) hF rfl (fun w2 hx => v_move rfl) rfl ?_; clear hF a; intro a hF
    refine a_vg (i := 25) rfl (by kernel_rfl) hF rfl (fun w2 hx => v_lenS rfl sl22 rfl) rfl ?_; clear hF a; intro a hF
    refine a_vg (i := 26) rfl (by kernel_rfl) hF rfl (fun w2 hx => v_addI rfl rfl (by omega)) rfl ?_; clear hF a; intro a hF
    refine a_vg (i := 27) rfl (by kernel_rfl) hF rfl (fun w2 hx => v_gtr rfl rfl) rfl ?_; clear hF a; intro a hF
    refine a_v (i := 28) rfl (by kernel_rfl) hF (fun w2 hx => v_pickF rfl rfl) rfl ?_; clear hF a; intro a hF
    refine a_done (by kernel_rfl) (hK _ _ ?_)
    clear hK K
    replace hF := hF.sub _ (c_ 37 rfl (c_ 7 rfl (c_ 6 rfl (c_ 1 rfl (c_ 2 rfl (n_))))))
    refine W_if hF rfl (fun hc4 => ?_) (fun hc4 => ?_)
    ·
     skip
     try simp only [dcl] at hc4
     refine W_sr rfl (fun K hK => ?_)
     refine sv2 hF (v_assign rfl) (v_assign rfl) rfl rfl ?_; clear hF a; intro a hF
     refine WL_nil (hK _ _ ?_)
     clear hK K
     replace hF := hF.sub _ (c_ 7 rfl (c_ 6 rfl (c_ 1 rfl (c_ 2 rfl (n_)))))
     refine W_ret ?_
     refine ⟨_, _, _, hF, rfl, rfl, ?_⟩
     have hno : joinM (some (wb, p)) ma mb = none := joinM_f (.inr (.inr (.inr (by omega))))
     rw [hno]
     exact ⟨none, _, rfl, MOwn.nil _ _ _ _ _ _ _ hM, hS⟩
    ·
     skip
     try simp only [dcl] at hc4
     refine W_skip ?_
     have hyes := joinM_t hm1 hm2 (by rw [hwma, hwmb]; omega) (by omega)
     have hs0 := hS.ext.size
     refine W_sr rfl (fun K hK => ?_)
     refine s_bs (D := FDx) (B := B) hF sl22 rfl rfl (by decide) (by simp [Value.cells]) (by decide) hS.inv rfl ?_; clear hF a; intro w' a hm hI' hL hF
     replace hAma := hAma.mb hm (fun _ h => by cases h)
     replace hAmb := hAmb.mb hm (fun _ h => by cases h)
     replace hS := hS.mb0 hm
     clear hm hI'
     have hMO : MOwn FDx B w.heap.size M w.heap.size w' 39 _ _ [] := ⟨⟨[], rfl, hL.le hs0, fun j v r x => by simp at x⟩, hM⟩
     clear hL
     refine sv hF (v_move rfl) rfl ?_; clear hF a; intro a hF
     refine s_appMM (D := FDx) (B := B) hF rfl sl22 rfl rfl hMO (hAma.rowsO (Nat.le_refl _)) rfl (by simp; omega) (hS.ext.size) (by decide) (by decide) hS.inv rfl ?_; clear hF a; intro v' b' w' a ho' hm hI' hF
     replace hAma := hAma.mb hm (fun k h => Nat.le_trans (hM) (hMO.lt k h).1)
     replace hAmb := hAmb.mb hm (fun k h => Nat.le_trans (hM) (hMO.lt k h).1)
     replace hS := hS.mb hm (fun k h => (hMO.lt k h).1)
     have hKm := hm.size
     replace hMO := ho'
     clear hm hI' ho'
     refine sv hF (v_assign rfl) rfl ?_; clear hF a; intro a hF
     refine WL_nil (hK _ _ ?_)
     clear hK K
     replace hF := hF.sub _ (c_ 8 rfl (c_ 7 rfl (c_ 6 rfl (c_ 2 rfl (n_)))))
     clear hKm
     refine W_sr rfl (fun K hK => ?_)
     refine sv2 hF (v_move rfl) (v_move rfl) rfl rfl ?_; clear hF a; intro a hF
     refine s_appMM (D := FDx) (B := B) hF rfl sl22 rfl rfl hMO (hAmb.rowsO (Nat.le_refl _)) rfl (by simp; omega) (hS.ext.size) (by decide) (by decide) hS.inv rfl ?_; clear hF a; intro v' b' w' a ho' hm hI' hF
     replace hAma := hAma.mb hm (fun k h => Nat.le_trans (hM) (hMO.lt k h).1)
     replace hAmb := hAmb.mb hm (fun k h => Nat.le_trans (hM) (hMO.lt k h).1)
     replace hS := hS.mb hm (fun k h => (hMO.lt k h).1)
     have hKm := hm.size
     replace hMO := ho'
     clear hm hI' ho'
     refine sv hF (v_assign rfl) rfl ?_; clear hF a; intro a hF
     refine WL_nil (hK _ _ ?_)
     clear hK K
     replace hF := hF.sub _ (c_ 8 rfl (c_ 7 rfl (c_ 6 rfl (n_))))
     refine W_sr rfl (fun K hK => ?_)
     refine sv3 hF (v_move rfl) (v_assign rfl) (v_assign rfl) rfl rfl rfl ?_; clear hF a; intro a hF
     refine WL_nil (hK _ _ ?_)
     clear hK K
     replace hF := hF.sub _ (c_ 7 rfl (c_ 6 rfl (n_)))
     refine W_ret ?_
     refine ⟨_, _, _, hF, rfl, rfl, ?_⟩
     rw [hyes]
     exact ⟨_, _, rfl, hMO.up hS.ext.size, hS⟩

end Go.Proofs.YtaeljbdpjiciaaaGreat

/- The table of profiles. No program in sight. -/
set_option linter.unusedVariables false
set_option linter.unusedSimpArgs false
set_option linter.unusedSectionVars false
namespace Go.Gam

/-- A profile, cell by cell. -/
def prf (a b : UInt8) (bits poly : Int) (l : Int) (m : Int) : List Value := [.string ⟨#[a, b]⟩, .int .i64 bits, .int .u32 poly, .int .u8 l, .int .i64 m]
def prz : List Value := [.string ⟨#[]⟩, .int .i64 0, .int .u32 0, .int .u8 0, .int .i64 0]
def prN : Nat → List Value
  | 0 => prf 106 118 8 285 106 4
  | 1 => prf 106 99 16 69643 106 4
  | 2 => prf 105 114 8 285 105 3
  | 3 => prf 105 99 8 285 105 4
  | 4 => prf 98 98 8 285 98 4
  | _ => prf 107 112 8 285 112 4
def prAll : List Value := prN 0 ++ (prN 1 ++ (prN 2 ++ (prN 3 ++ (prN 4 ++ prN 5))))
def prOf (p : Int) : List Value := if 1 ≤ p ∧ p ≤ 6 then prN (p - 1).toNat else prz
def tagS : Nat → ByteArray
  | 0 => ⟨#[106, 118]⟩
  | 1 => ⟨#[106, 99]⟩
  | 2 => ⟨#[105, 114]⟩
  | 3 => ⟨#[105, 99]⟩
  | 4 => ⟨#[98, 98]⟩
  | _ => ⟨#[107, 112]⟩
/-- The first tag from i on that is s. -/
def tagR (s : ByteArray) : Nat → Nat → Int × Bool
  | _, 0 => (0, false)
  | i, d + 1 => if tagS i = s then (((i + 1 : Nat) : Int), true) else tagR s (i + 1) d
def maxM (p : Int) : Int := if p = 3 then 3 else 4
def mayP (p k m : Int) : Bool := decide (1 ≤ p ∧ p ≤ 6 ∧ 1 ≤ k ∧ k ≤ 8 ∧ 1 ≤ m ∧ m ≤ maxM p)
/-- A profile's field. -/
def pfl (p : Int) : Nat × Nat := if p = 2 then (16, 69643) else (8, 285)
section
variable {wb q : Nat} (hp : Prm wb q)
def behM (k m : Int) : Option Mtx := if fitB (some (wb, q)) k m = true then some (tab m.toNat k.toNat fun i j => sysT hp k.toNat (k.toNat + i) j) else none
end

/-! ### parity rows of a profile -/
theorem rnL_nodup (fr n : Nat) : (rnL fr n).Nodup := by
  unfold rnL
  rw [List.nodup_iff_pairwise_ne, List.pairwise_map]
  exact List.nodup_range.imp fun h e => h (by omega)
theorem rnL_mem {fr n : Nat} {z : Int} : z ∈ rnL fr n ↔ ∃ j, j < n ∧ z = ((fr + j : Nat) : Int) := by
  unfold rnL
  simp only [List.mem_map, List.mem_range]
  exact ⟨fun ⟨j, h, e⟩ => ⟨j, h, e.symm⟩, fun ⟨j, h, e⟩ => ⟨j, h, e.symm⟩⟩
theorem rn_ok {wb a n b m : Nat} (hw : wb = 8 ∨ wb = 16) (h1 : 1 ≤ n) (h2 : 1 ≤ m) (h3 : n + m ≤ 20) (hd : a + n = b ∧ a = 0 ∨ b + m = a ∧ b = 0) : ofB wb (rnL a n) (rnL b m) = true := by
  have hs : 2 ^ wb ≥ 256 := by rcases hw with h | h <;> rw [h] <;> decide
  refine ofB_ok (by rw [rnL_length, rnL_length]; omega) (List.nodup_append.2 ⟨rnL_nodup _ _, rnL_nodup _ _, fun x hx y hy e => ?_⟩) fun z hz => ?_
  · obtain ⟨i, hi, rfl⟩ := rnL_mem.1 hx
    obtain ⟨j, hj, rfl⟩ := rnL_mem.1 hy
    omega
  · rcases List.mem_append.1 hz with hz | hz <;> obtain ⟨i, hi, rfl⟩ := rnL_mem.1 hz <;> constructor <;> omega
section
variable {wb q : Nat} (hp : Prm wb q)
theorem cisaM_is {k m : Nat} (h1 : 1 ≤ k) (h2 : 1 ≤ m) (h3 : k + m ≤ 20) : cisaM hp (k : Int) (m : Int) = some (tab m k (ofT hp (rnL k m) (rnL 0 k))) := by
  unfold cisaM
  rw [if_pos (fitB_ok rfl h1 h2 h3), Int.toNat_natCast, Int.toNat_natCast, ofM_is hp (rn_ok hp.w (by omega) (by omega) (by omega) (by omega)), rnL_length, rnL_length]
end
def prT (p : Int) (k m : Nat) : Tb :=
  if p = 1 then parT prm_285 k m else if p = 2 then ofT prm_69643 (rnL 0 m) (rnL m k) else if p = 3 then isT (some (8, 285)) else if p = 4 then ofT prm_285 (rnL k m) (rnL 0 k) else fun i j => sysT prm_285 k (k + i) j
/-! ### plain laws of layer 9 -/
def fns (a b c d e f : FuncId) : List Value := [.func (.func a) #[] #[], .func (.func b) #[] #[], .func (.func c) #[] #[], .func (.func d) #[] #[], .func (.func e) #[] #[], .func (.func f) #[] #[]]
end Go.Gam

/- Plain laws of layer 8: which rows are safe. No program in sight. -/
set_option linter.unusedVariables false
set_option linter.unusedSimpArgs false
set_option linter.unusedSectionVars false
namespace Go.Gam
open Px

section
variable {wb p : Nat} (hp : Prm wb p)
theorem one_iv {f : Tb} (hb : hp.fld.Bd f) (h : f 0 0 ≠ 0) : ∃ g, hp.fld.iv 1 f = some g :=
  hp.fld.iv_ofR hb fun y hy h0 i hi => by
    obtain rfl : i = 0 := by omega
    have e := h0 0 (by omega)
    simp only [xsum, Nat.zero_xor] at e
    rcases hp.fld.nzd _ _ (hb 0 0) (hy 0) e with e | e
    · exact absurd e h
    · exact e
theorem okC_of {f : Tb} {s : Nat} {R C : List Nat} (hb : hp.fld.Bd f) (hs : s < 20) (h : ∃ g, hp.fld.iv (s + 1) (mnr f R C) = some g) : okC hp f s R C := inv0 hp (hp.fld.mnr_bd hb R C) (by omega) (by omega) h
/-- Rows of which any have an inverse are safe. -/
theorem safe_of {n m : Nat} {f : Tb} (hb : hp.fld.Bd f) (hn : n ≤ 20) (h : ∀ R C : List Nat, R.length = C.length → R.Pairwise (· < ·) → C.Pairwise (· < ·) → (∀ x ∈ R, x < n) → (∀ x ∈ C, x < m) → ∃ g, hp.fld.iv R.length (mnr f R C) = some g) : safeB hp n m f = true :=
  (safeB_iff hp).2 fun s hs R hR C hC => by
    have h1 := ch_mem.1 hR
    have h2 := ch_mem.1 hC
    have := h R C (h1.1.trans h2.1.symm) h1.2.1 h2.2.1 (fun x hx => (h1.2.2 x hx).2) (fun x hx => (h2.2.2 x hx).2)
    rw [h1.1] at this
    exact okC_of hp hb (by omega) this
theorem sorted_eq {C : List Nat} {k : Nat} (hC : C.Pairwise (· < ·)) (hk : ∀ x ∈ C, x < k) : (List.range k).filter (fun j => decide (j ∈ C)) = C := by
  refine List.Perm.eq_of_pairwise (le := (· < ·)) ?_ (List.Pairwise.filter _ List.pairwise_lt_range) hC ?_
  · intro a b _ _ h1 h2; omega
  · refine (List.perm_ext_iff_of_nodup (List.nodup_range.filter _) (hC.imp fun h => by omega)).2 fun x => ?_
    rw [List.mem_filter, List.mem_range, decide_eq_true_eq]
    exact ⟨fun h => h.2, fun hx => ⟨hk x hx, hx⟩⟩
/-- Rows behind the identity, any k of which have an inverse, are safe. -/
theorem safe_mdsR {n k : Nat} {f : Tb} (hb : hp.fld.Bd f) (hn : n ≤ 20) (h : ∀ l : List Nat, l.length = k → l.Pairwise (· < ·) → (∀ x ∈ l, x < k + n) → ∃ g, hp.fld.iv k (fun i j => beh k f (l.getD i 0) j) = some g) : safeB hp n k f = true :=
  safe_of hp hb hn fun R C hRC hR hC hRn hCk => by
    obtain ⟨l, hl⟩ : ∃ l, l = (List.range k).filter (fun j => !decide (j ∈ C)) ++ R.map (k + ·) := ⟨_, rfl⟩
    have hCn : C.Nodup := hC.imp fun h => by omega
    have hRn2 : R.Nodup := hR.imp fun h => by omega
    have hlen : l.length = k := by
      have h1 := filter_two (fun j => decide (j ∈ C)) (List.range k)
      rw [sorted_eq hC hCk, List.length_range] at h1
      rw [hl, List.length_append, List.length_map]; omega
    have hup : l.Pairwise (· < ·) := by
      rw [hl]
      refine List.pairwise_append.2 ⟨List.pairwise_lt_range.filter _, ?_, fun a ha b hb => ?_⟩
      · rw [List.pairwise_map]; exact hR.imp fun h => by omega
      · have h1 := List.mem_range.1 (List.mem_filter.1 ha).1
        obtain ⟨x, -, rfl⟩ := List.mem_map.1 hb
        omega
    have hnd : l.Nodup := hup.imp fun h => by omega
    have hlt : ∀ x ∈ l, x < k + n := fun x hx => by
      rw [hl] at hx
      rcases List.mem_append.1 hx with hx | hx
      · have := List.mem_range.1 (List.mem_filter.1 hx).1; omega
      · obtain ⟨y, hy, rfl⟩ := List.mem_map.1 hx
        have := hRn y hy; omega
    have hpar : parR k l = R := by
      unfold parR
      rw [hl, List.filter_append, List.filter_eq_nil_iff.2 (fun x hx => by have := List.mem_range.1 (List.mem_filter.1 hx).1; simp; omega), List.nil_append, List.filter_eq_self.2 (fun x hx => by obtain ⟨y, -, rfl⟩ := List.mem_map.1 hx; simp), List.map_map]
      refine (List.map_congr_left (g := id) fun x _ => ?_).trans (List.map_id R)
      simp
    have hmis : misJ k l = C := by
      unfold misJ
      refine Eq.trans (List.filter_congr fun j hj => ?_) (sorted_eq hC hCk)
      have hjk := List.mem_range.1 hj
      have hjR : j ∉ R.map (k + ·) := fun h => by obtain ⟨y, -, e⟩ := List.mem_map.1 h; omega
      rw [hl]
      by_cases e : j ∈ C
      · have : j ∉ (List.range k).filter (fun j => !decide (j ∈ C)) := fun h => by have := (List.mem_filter.1 h).2; simp [e] at this
        simp only [List.mem_append, this, hjR, or_self, decide_false, e, decide_true, Bool.not_false]
      · have : j ∈ (List.range k).filter (fun j => !decide (j ∈ C)) := List.mem_filter.2 ⟨hj, by simp [e]⟩
        simp only [List.mem_append, this, true_or, decide_true, e, decide_false, Bool.not_true]
    obtain ⟨g, hg⟩ := h l hlen hup hlt
    have := hp.fld.mds_to (m := n) hb hlen hnd (by rw [hg]; rfl)
    rw [hpar, hmis] at this
    exact this
end
/-! ### the smallest ones -/
theorem inv_1 : prm_285.fld.inv 1 = 1 := prm_285.fld.one_pow _
theorem inv_2 : prm_285.fld.inv 2 = 142 := by
  have lt : ∀ x, x < 256 → x < 2 ^ prm_285.fld.w := fun x h => by rw [prm_285.fld_w]; exact h
  refine prm_285.fld.cancel (c := 2) (prm_285.fld.inv_lt _) (lt _ (by decide)) (lt _ (by decide)) (by decide) ?_
  rw [prm_285.fld.inv_mul (lt _ (by decide)) (by decide)]
  show 1 = Px.mulMod 142 2 285
  decide +kernel
theorem aw8_isal : cisaM prm_285 1 1 = some [[1]] := by
  have h := cisaM_is prm_285 (k := 1) (m := 1) (by decide) (by decide) (by decide)
  refine h.trans ?_
  show some [[((prm_285.fld.inv 1 : Nat) : Int)]] = _
  rw [inv_1]; rfl
theorem aw8_of : ofM prm_285 [0] [1, 2] = some [[1, 142]] := by
  rw [ofM_is prm_285 (by decide)]
  show some [[((prm_285.fld.inv 1 : Nat) : Int), ((prm_285.fld.inv 2 : Nat) : Int)]] = _
  rw [inv_1, inv_2]; rfl
theorem aw8_may {a b c d : Int} (h : ∀ x ∈ [a, b, c, d], inF (some (8, 285)) x = true) : mayM (some (8, 285)) [[a, b], [c, d]] = true := (Bool.and_eq_true_iff.1 (by have := aw5_sq h; unfold sqM at this; exact this)).1
theorem aw8_no : safeM prm_285 [[1, 1], [1, 1]] = (false, 0) := by
  rw [safeM_is prm_285 (aw8_may (by decide)) (by decide) (by decide)]
  congr 1
  refine safeB_no prm_285 (s := 1) (R := [0, 1]) (C := [0, 1]) (by decide) (by decide) (by decide) fun h => ?_
  unfold okC at h
  have e : tab 2 2 (mnr (en [[1, 1], [1, 1]]) [0, 1] [0, 1]) = [[1, 1], [1, 1]] := by decide
  rw [e, aw5_no] at h
  exact absurd h (by decide)
theorem aw8_yes : safeM prm_285 [[1, 1], [1, 2]] = (true, 0) := by
  have hmay := aw8_may (a := 1) (b := 1) (c := 1) (d := 2) (by decide)
  have hx := (mayM_Mx hmay).1
  rw [safeM_is prm_285 hmay (by decide) (by decide)]
  congr 1
  refine (safeB_iff prm_285).2 fun s hs R hR C hC => ?_
  have hs2 : s = 0 ∨ s = 1 := by
    have : min ([[1, 1], [1, 2]] : Mtx).length (wid [[1, 1], [1, 2]]) = 2 := by decide
    omega
  have hbd := hx.bd prm_285
  rcases hs2 with rfl | rfl
  · have e : ch 2 1 0 = [[0], [1]] := by decide
    have hR2 : R ∈ ch 2 1 0 := hR
    have hC2 : C ∈ ch 2 1 0 := hC
    rw [e] at hR2 hC2
    simp only [List.mem_cons, List.mem_nil_iff, or_false] at hR2 hC2
    rcases hR2 with rfl | rfl <;> rcases hC2 with rfl | rfl <;> unfold okC
    · have e : tab 1 1 (mnr (en [[1, 1], [1, 2]]) [0] [0]) = tab 1 1 (fun _ _ => 1) := by decide
      rw [Nat.zero_add, e]; exact inv0 prm_285 (fun i j => by rw [prm_285.fld_w]; decide) (by decide) (by decide) (one_iv prm_285 (fun i j => by rw [prm_285.fld_w]; decide) (by decide))
    · have e : tab 1 1 (mnr (en [[1, 1], [1, 2]]) [0] [1]) = tab 1 1 (fun _ _ => 1) := by decide
      rw [Nat.zero_add, e]; exact inv0 prm_285 (fun i j => by rw [prm_285.fld_w]; decide) (by decide) (by decide) (one_iv prm_285 (fun i j => by rw [prm_285.fld_w]; decide) (by decide))
    · have e : tab 1 1 (mnr (en [[1, 1], [1, 2]]) [1] [0]) = tab 1 1 (fun _ _ => 1) := by decide
      rw [Nat.zero_add, e]; exact inv0 prm_285 (fun i j => by rw [prm_285.fld_w]; decide) (by decide) (by decide) (one_iv prm_285 (fun i j => by rw [prm_285.fld_w]; decide) (by decide))
    · have e : tab 1 1 (mnr (en [[1, 1], [1, 2]]) [1] [1]) = tab 1 1 (fun _ _ => 2) := by decide
      rw [Nat.zero_add, e]; exact inv0 prm_285 (fun i j => by rw [prm_285.fld_w]; decide) (by decide) (by decide) (one_iv prm_285 (fun i j => by rw [prm_285.fld_w]; decide) (by decide))
  · have e : ch 2 2 0 = [[0, 1]] := by decide
    have hR2 : R ∈ ch 2 2 0 := hR
    have hC2 : C ∈ ch 2 2 0 := hC
    rw [e] at hR2 hC2
    simp only [List.mem_cons, List.mem_nil_iff, or_false] at hR2 hC2
    subst hR2; subst hC2
    unfold okC
    have e : tab 2 2 (mnr (en [[1, 1], [1, 2]]) [0, 1] [0, 1]) = [[1, 1], [1, 2]] := by decide
    obtain ⟨x, hx, -⟩ := aw5_inv
    show (invR prm_285 (tab 2 2 (mnr (en [[1, 1], [1, 2]]) [0, 1] [0, 1]))).1 = 0
    rw [e, hx]
end Go.Gam

/- What the statements of layer 8 call first. -/
set_option linter.unusedVariables false
set_option linter.unusedSimpArgs false
namespace Go.Proofs.YtaeljbdpjiciaaaGreat
open Go Go.Gam


namespace FxFAw08
theorem en6 : Ent Tryz.prog 6 := ent Tryz.func6 (by kernel_rfl) (by kernel_rfl)
theorem en7 : Ent Tryz.prog 7 := ent Tryz.func7 (by kernel_rfl) (by kernel_rfl)
theorem en9 : Ent Tryz.prog 9 := ent Tryz.func9 (by kernel_rfl) (by kernel_rfl)
theorem en10 : Ent Tryz.prog 10 := ent Tryz.func10 (by kernel_rfl) (by kernel_rfl)
theorem en11 : Ent Tryz.prog 11 := ent Tryz.func11 (by kernel_rfl) (by kernel_rfl)
theorem en12 : Ent Tryz.prog 12 := ent Tryz.func12 (by kernel_rfl) (by kernel_rfl)
theorem sl22 : Sl Tryz.prog 22 39 (.slice none 0 0) 24 := sl_of Tryz.underlying22 rfl (by kernel_rfl)
theorem sl35 : Sl Tryz.prog 35 39 (.slice none 0 0) 24 := sl_of Tryz.underlying35 rfl (by kernel_rfl)
theorem sl39 : Sl Tryz.prog 39 3 (.int .i64 0) 8 := sl_of Tryz.underlying39 rfl (by kernel_rfl)
end FxFAw08
open FxFAw08

theorem Same4_t (B M : Nat) (pma : Option Addr) (cma : Nat) (ma : Mtx) (pmb : Option Addr) (cmb : Nat) (mb : Mtx) (w : World) (hI : Inv FDx B w) (hAma : Mat FDx B M w pma cma ma) (hAmb : Mat FDx B M w pmb cmb mb) (hlma : ma.length ≤ 1000) (hbma : ∀ r ∈ ma, r.length ≤ 1000) (e : ma = mb) :
  Ret Tryz.prog 11 [.slice pma ma.length cma, .slice pmb mb.length cmb] w fun v w' => v = .bool true ∧ St FDx B w w' :=
 (Same04_ok B M pma cma ma pmb cmb mb w hI hAma hAmb hlma hbma).mono fun v w' h => by rw [decide_eq_true e] at h; exact h

set_option maxRecDepth 100000 in
set_option maxHeartbeats 1000000 in
theorem field8_ok (B : Nat) (lg : Bool) (w : World) (hI : Inv FDx B w) : Ret Tryz.prog 6 [.bool lg] w fun v w' => ∃ fv, v = .tuple #[fv, .int .i64 ((fq lg).1 : Int), .int .u32 ((fq lg).2 : Int)] ∧ Fo FDx B w' fv (some (fq lg)) ∧ St FDx B w w' := by
 refine enter3 8 [(0, .bool lg)] 2 3 4 Tryz.func6 rfl rfl rfl rfl rfl ?_; intro a hF
 have hS := St.refl hI
 refine W_sr rfl (fun K hK => ?_)
 refine sv3 hF (v_assign rfl) (v_assign rfl) (v_assign rfl) rfl rfl rfl ?_; clear hF a; intro a hF
 refine WL_nil (hK _ _ ?_)
 clear hK K
 refine W_seq ?_
 refine W_sr rfl (fun K hK => ?_)
 refine sv hF (v_move rfl) rfl ?_; clear hF a; intro a hF
 refine WL_nil (hK _ _ ?_)
 clear hK K
 replace hF := hF.sub _ (c_ 5 rfl (c_ 4 rfl (c_ 3 rfl (c_ 2 rfl (n_)))))
 refine W_if hF rfl (fun hc1 => ?_) (fun hc1 => ?_)
 ·
  skip
  try simp only [dcl] at hc1
  obtain rfl : lg = true := by assumption
  refine W_sr rfl (fun K hK => ?_)
  refine sc hF rfl rfl rfl en12 rfl (New_ok B 16 69643 _ hS.inv (by decide) (by decide)) ?_; clear hF a; intro v w' a hv hF
  obtain ⟨hf, hS'⟩ := hv
  obtain ⟨fv, rfl⟩ : ∃ x, x = v := ⟨_, rfl⟩
  rw [show newF 16 69643 = some (16, 69643) from newF_p prm_69643] at hf
  replace hS := hS.trans hS'
  clear hS'
  refine sv3 hF (v_assign rfl) (v_assign rfl) (v_assign rfl) rfl rfl rfl ?_; clear hF a; intro a hF
  refine WL_nil (hK _ _ ?_)
  clear hK K
  replace hF := hF.sub _ (c_ 4 rfl (c_ 3 rfl (c_ 2 rfl (n_))))
  refine W_ret ?_
  refine ⟨_, _, _, _, hF, rfl, rfl, rfl, ?_⟩
  exact ⟨fv, rfl, hf, hS⟩
 ·
  skip
  try simp only [dcl] at hc1
  obtain rfl : lg = false := by assumption
  refine W_skip ?_
  refine W_sr rfl (fun K hK => ?_)
  refine sc hF rfl rfl rfl en12 rfl (New_ok B 8 285 _ hS.inv (by decide) (by decide)) ?_; clear hF a; intro v w' a hv hF
  obtain ⟨hf, hS'⟩ := hv
  obtain ⟨fv, rfl⟩ : ∃ x, x = v := ⟨_, rfl⟩
  rw [show newF 8 285 = some (8, 285) from newF_p prm_285] at hf
  replace hS := hS.trans hS'
  clear hS'
  refine sv3 hF (v_assign rfl) (v_assign rfl) (v_assign rfl) rfl rfl rfl ?_; clear hF a; intro a hF
  refine WL_nil (hK _ _ ?_)
  clear hK K
  replace hF := hF.sub _ (c_ 4 rfl (c_ 3 rfl (c_ 2 rfl (n_))))
  refine W_ret ?_
  refine ⟨_, _, _, _, hF, rfl, rfl, rfl, ?_⟩
  exact ⟨fv, rfl, hf, hS⟩

set_option maxRecDepth 100000 in
set_option maxHeartbeats 1000000 in
theorem aw08_ok (B : Nat) (w : World) (hI : Inv FDx B w) : Ret Tryz.prog 4 [] w fun v w' => v = .bool true ∧ St FDx B w w' := by
 refine enter 78 [] 0 Tryz.func4 rfl rfl rfl rfl rfl ?_; intro a hF
 have hS := St.refl hI
 refine W_sr rfl (fun K hK => ?_)
 refine sv hF (v_assign rfl) rfl ?_; clear hF a; intro a hF
 refine WL_nil (hK _ _ ?_)
 clear hK K
 refine W_sr rfl (fun K hK => ?_)
 refine sc hF rfl rfl rfl en6 rfl (field8_ok B false _ hS.inv) ?_; clear hF a; intro v w' a hv hF
 obtain ⟨fv, rfl, hf, hS'⟩ := hv
 rw [show fq false = (8, 285) from rfl] at hf
 replace hS := hS.trans hS'
 clear hS'
 refine sv6 hF (v_move rfl) (v_ext rfl rfl) (v_ext rfl rfl) (v_ext rfl rfl) (v_assign rfl) (v_assign rfl) rfl rfl rfl rfl rfl rfl ?_; clear hF a; intro a hF
 refine sv hF (v_assign rfl) rfl ?_; clear hF a; intro a hF
 refine WL_nil (hK _ _ ?_)
 clear hK K
 replace hF := hF.sub _ (c_ 1 rfl (c_ 0 rfl (n_)))
 refine W_sr rfl (fun K hK => ?_)
 refine sv hF (v_move rfl) rfl ?_; clear hF a; intro a hF
 refine sc hF rfl rfl rfl en9 rfl (CIsal_ok B 8 285 prm_285 fv 1 1 _ hS.inv hf) ?_; clear hF a; intro v w' a hv hF
 obtain ⟨obX, uX, rfl, hoX, hS'⟩ := hv
 rw [aw8_isal] at hoX hF
 try simp only [Option.getD_some, Option.getD_none] at hoX
 obtain ⟨sX, cX, rfl, hX⟩ := hoX.mat (by decide) (Nat.zero_le _)
 clear hoX
 replace hf := hf.st hS'
 replace hS := hS.trans hS'
 clear hS'
 refine sv5 hF (v_move rfl) (v_ext rfl rfl) (v_ext rfl rfl) (v_assign rfl) (v_assign rfl) rfl rfl rfl rfl rfl ?_; clear hF a; intro a hF
 refine WL_nil (hK _ _ ?_)
 clear hK K
 replace hF := hF.sub _ (c_ 5 rfl (c_ 4 rfl (c_ 1 rfl (c_ 0 rfl (n_)))))
 refine W_sr rfl (fun K hK => ?_)
 refine sv hF (v_move rfl) rfl ?_; clear hF a; intro a hF
 refine s_bs (D := FDx) (B := B) hF sl39 rfl rfl (by decide) (by simp [Value.cells]) (by decide) hS.inv rfl ?_; clear hF a; intro w' a hm hI' h1 hF
 replace hf := hf.mb hm
 replace hX := (hX.mb hm (fun _ h => by cases h)).mono hm.size
 replace hS := hS.mb0 hm
 clear hm hI'
 refine s_bs (D := FDx) (B := B) hF sl39 rfl rfl (by decide) (by simp [Value.cells]) (by decide) hS.inv rfl ?_; clear hF a; intro w' a hm hI' h2 hF
 replace hf := hf.mb hm
 replace hX := (hX.mb hm (fun _ h => by cases h)).mono hm.size
 replace h1 := h1.mb hm (fun _ _ => by simp)
 replace hS := hS.mb0 hm
 clear hm hI'
 refine sc hF rfl rfl rfl en10 rfl (Of_ok B _ 8 285 prm_285 fv _ _ 1 2 [0] [1, 2] _ hS.inv (Nat.le_refl _) hf ((h1.cast (ys := zints [0]) rfl).row (by decide)) ((h2.cast (ys := zints [1, 2]) rfl).row (by decide)) (by decide)) ?_; clear hF a; intro v w' a hv hF
 obtain ⟨obY, uY, rfl, hoY, hS'⟩ := hv
 rw [aw8_of] at hoY hF
 try simp only [Option.getD_some, Option.getD_none] at hoY
 obtain ⟨sY, cY, rfl, hY⟩ := hoY.mat (by decide) (Nat.zero_le _)
 clear hoY
 replace hf := hf.st hS'
 replace hX := (hX.st hS').mono hS'.ext.size
 replace hS := hS.trans hS'
 clear hS'
 refine sv5 hF (v_move rfl) (v_ext rfl rfl) (v_ext rfl rfl) (v_assign rfl) (v_assign rfl) rfl rfl rfl rfl rfl ?_; clear hF a; intro a hF
 refine WL_nil (hK _ _ ?_)
 clear hK K
 replace hF := hF.sub _ (c_ 7 rfl (c_ 6 rfl (c_ 5 rfl (c_ 4 rfl (c_ 1 rfl (c_ 0 rfl (n_)))))))
 refine W_sr rfl (fun K hK => ?_)
 refine sv hF (v_move rfl) rfl ?_; clear hF a; intro a hF
 refine s_bs (D := FDx) (B := B) hF sl39 rfl rfl (by decide) (by simp [Value.cells]) (by decide) hS.inv rfl ?_; clear hF a; intro w' a hm hI' h1 hF
 replace hf := hf.mb hm
 replace hX := (hX.mb hm (fun _ h => by cases h)).mono hm.size
 replace hY := (hY.mb hm (fun _ h => by cases h)).mono hm.size
 replace hS := hS.mb0 hm
 clear hm hI'
 refine s_bs (D := FDx) (B := B) hF sl39 rfl rfl (by decide) (by simp [Value.cells]) (by decide) hS.inv rfl ?_; clear hF a; intro w' a hm hI' h2 hF
 replace hf := hf.mb hm
 replace hX := (hX.mb hm (fun _ h => by cases h)).mono hm.size
 replace hY := (hY.mb hm (fun _ h => by cases h)).mono hm.size
 replace h1 := h1.mb hm (fun _ _ => by simp)
 replace hS := hS.mb0 hm
 clear hm hI'
 refine s_bs (D := FDx) (B := B) hF sl35 rfl rfl (by decide) (by simp [Value.cells]) (by decide) hS.inv rfl ?_; clear hF a; intro w' a hm hI' h3 hF
 replace hf := hf.mb hm
 replace hX := (hX.mb hm (fun _ h => by cases h)).mono hm.size
 replace hY := (hY.mb hm (fun _ h => by cases h)).mono hm.size
 replace h1 := h1.mb hm (fun _ _ => by simp)
 replace h2 := h2.mb hm (fun _ _ => by simp)
 replace hS := hS.mb0 hm
 clear hm hI'
 refine sc hF rfl rfl rfl en7 rfl (Safe_ok B _ 8 285 prm_285 fv _ _ [[1, 1], [1, 1]] _ hS.inv (Nat.le_refl _) hf (Mat.two h3 (by decide) ((h1.cast (ys := zints [1, 1]) rfl).row (by decide)) ((h2.cast (ys := zints [1, 1]) rfl).row (by decide))) (aw5_len _ _ _ _).1 (aw5_len _ _ _ _).2) ?_; clear hF a; intro v w' a hv hF
 obtain ⟨rfl, hS'⟩ := hv
 rw [aw8_no] at hF
 dsimp only at hF
 replace hf := hf.st hS'
 replace hX := (hX.st hS').mono hS'.ext.size
 replace hY := (hY.st hS').mono hS'.ext.size
 replace hS := hS.trans hS'
 clear hS'
 refine sv hF (v_move rfl) rfl ?_; clear hF a; intro a hF
 refine sv hF ((v_ext rfl rfl).as (congrArg Value.bool (rfl))) rfl ?_; clear hF a; intro a hF
 refine sv3 hF (v_ext rfl rfl) (v_assign rfl) (v_assign rfl) rfl rfl rfl ?_; clear hF a; intro a hF
 refine WL_nil (hK _ _ ?_)
 clear hK K
 replace hF := hF.sub _ (c_ 9 rfl (c_ 8 rfl (c_ 7 rfl (c_ 6 rfl (c_ 5 rfl (c_ 4 rfl (c_ 1 rfl (c_ 0 rfl (n_)))))))))
 refine W_sr rfl (fun K hK => ?_)
 refine sv hF (v_move rfl) rfl ?_; clear hF a; intro a hF
 refine s_bs (D := FDx) (B := B) hF sl39 rfl rfl (by decide) (by simp [Value.cells]) (by decide) hS.inv rfl ?_; clear hF a; intro w' a hm hI' h1 hF
 replace hf := hf.mb hm
 replace hX := (hX.mb hm (fun _ h => by cases h)).mono hm.size
 replace hY := (hY.mb hm (fun _ h => by cases h)).mono hm.size
 replace hS := hS.mb0 hm
 clear hm hI'
 refine s_bs (D := FDx) (B := B) hF sl39 rfl rfl (by decide) (by simp [Value.cells]) (by decide) hS.inv rfl ?_; clear hF a; intro w' a hm hI' h2 hF
 replace hf := hf.mb hm
 replace hX := (hX.mb hm (fun _ h => by cases h)).mono hm.size
 replace hY := (hY.mb hm (fun _ h => by cases h)).mono hm.size
 replace h1 := h1.mb hm (fun _ _ => by simp)
 replace hS := hS.mb0 hm
 clear hm hI'
 refine s_bs (D := FDx) (B := B) hF sl35 rfl rfl (by decide) (by simp [Value.cells]) (by decide) hS.inv rfl ?_; clear hF a; intro w' a hm hI' h3 hF
 replace hf := hf.mb hm
 replace hX := (hX.mb hm (fun _ h => by cases h)).mono hm.size
 replace hY := (hY.mb hm (fun _ h => by cases h)).mono hm.size
 replace h1 := h1.mb hm (fun _ _ => by simp)
 replace h2 := h2.mb hm (fun _ _ => by simp)
 replace hS := hS.mb0 hm
 clear hm hI'
 refine sc hF rfl rfl rfl en7 rfl (Safe_ok B _ 8 285 prm_285 fv _ _ [[1, 1], [1, 2]] _ hS.inv (Nat.le_refl _) hf (Mat.two h3 (by decide) ((h1.cast (ys := zints [1, 1]) rfl).row (by decide)) ((h2.cast (ys := zints [1, 2]) rfl).row (by decide))) (aw5_len _ _ _ _).1 (aw5_len _ _ _ _).2) ?_; clear hF a; intro v w' a hv hF
 obtain ⟨rfl, hS'⟩ := hv
 rw [aw8_yes] at hF
 dsimp only at hF
 replace hX := (hX.st hS').mono hS'.ext.size
 replace hY := (hY.st hS').mono hS'.ext.size
 replace hS := hS.trans hS'
 clear hS'
 refine sv hF (v_move rfl) rfl ?_; clear hF a; intro a hF
 refine sv hF ((v_ext rfl rfl).as (congrArg Value.bool (rfl))) rfl ?_; clear hF a; intro a hF
 refine sv3 hF (v_ext rfl rfl) (v_assign rfl) (v_assign rfl) rfl rfl rfl ?_; clear hF a; intro a hF
 refine WL_nil (hK _ _ ?_)
 clear hK K
 replace hF := hF.sub _ (c_ 11 rfl (c_ 10 rfl (c_ 9 rfl (c_ 8 rfl (c_ 7 rfl (c_ 6 rfl (c_ 5 rfl (c_ 4 rfl (c_ 0 rfl (n_))))))))))
 refine W_sr rfl (fun K hK => ?_)
 refine sv hF (v_move rfl) rfl ?_; clear hF a; intro a hF
 refine sv hF ((v_eql rfl rfl).as (congrArg Value.bool (decide_eq_true (rfl)))) rfl ?_; clear hF a; intro a hF
 refine sv hF (v_move rfl) rfl ?_; clear hF a; intro a hF
 refine svg hF rfl ?_
 refine sv hF (v_move rfl) rfl ?_; clear hF a; intro a hF
 refine svg hF rfl ?_
 refine sv hF ((v_eql rfl rfl).as (congrArg Value.bool (decide_eq_true (rfl)))) rfl ?_; clear hF a; intro a hF
 refine sv2 hF (v_pickT rfl rfl) (v_move rfl) rfl rfl ?_; clear hF a; intro a hF
 refine svg hF rfl ?_
 refine sv hF (v_move rfl) rfl ?_; clear hF a; intro a hF
 refine svg hF rfl ?_
 refine s_bs (D := FDx) (B := B) hF sl39 rfl rfl (by decide) (by simp [Value.cells]) (by decide) hS.inv rfl ?_; clear hF a; intro w' a hm hI' h1 hF
 replace hX := (hX.mb hm (fun _ h => by cases h)).mono hm.size
 replace hY := (hY.mb hm (fun _ h => by cases h)).mono hm.size
 replace hS := hS.mb0 hm
 clear hm hI'
 refine svg hF rfl ?_
 refine s_bs (D := FDx) (B := B) hF sl22 rfl rfl (by decide) (by simp [Value.cells]) (by decide) hS.inv rfl ?_; clear hF a; intro w' a hm hI' h2 hF
 replace hX := (hX.mb hm (fun _ h => by cases h)).mono hm.size
 replace hY := (hY.mb hm (fun _ h => by cases h)).mono hm.size
 replace h1 := h1.mb hm (fun _ _ => by simp)
 replace hS := hS.mb0 hm
 clear hm hI'
 refine svg hF rfl ?_
 refine sc hF rfl rfl rfl en11 rfl (Same4_t B _ _ _ [[1]] _ _ [[1]] _ hS.inv hX (Mat.one h2 (by decide) ((h1.cast (ys := zints [1]) rfl).row (by decide))) (by decide) (by intro r hr; simp at hr; subst hr; decide) rfl) ?_; clear hF a; intro v w' a hv hF
 obtain ⟨rfl, hS'⟩ := hv
 replace hY := (hY.st hS').mono hS'.ext.size
 replace hS := hS.trans hS'
 clear hS'
 refine sv2 hF (v_pickT rfl rfl) (v_move rfl) rfl rfl ?_; clear hF a; intro a hF
 refine svg hF rfl ?_
 refine sv hF (v_move rfl) rfl ?_; clear hF a; intro a hF
 refine svg hF rfl ?_
 refine s_bs (D := FDx) (B := B) hF sl39 rfl rfl (by decide) (by simp [Value.cells]) (by decide) hS.inv rfl ?_; clear hF a; intro w' a hm hI' h1 hF
 replace hY := (hY.mb hm (fun _ h => by cases h)).mono hm.size
 replace hS := hS.mb0 hm
 clear hm hI'
 refine svg hF rfl ?_
 refine s_bs (D := FDx) (B := B) hF sl22 rfl rfl (by decide) (by simp [Value.cells]) (by decide) hS.inv rfl ?_; clear hF a; intro w' a hm hI' h2 hF
 replace hY := (hY.mb hm (fun _ h => by cases h)).mono hm.size
 replace h1 := h1.mb hm (fun _ _ => by simp)
 replace hS := hS.mb0 hm
 clear hm hI'
 refine svg hF rfl ?_
 refine sc hF rfl rfl rfl en11 rfl (Same4_t B _ _ _ [[1, 142]] _ _ [[1, 142]] _ hS.inv hY (Mat.one h2 (by decide) ((h1.cast (ys := zints [1, 142]) rfl).row (by decide))) (by decide) (by intro r hr; simp at hr; subst hr; decide) rfl) ?_; clear hF a; intro v w' a hv hF
 obtain ⟨rfl, hS'⟩ := hv
 replace hS := hS.trans hS'
 clear hS'
 refine sv2 hF (v_pickT rfl rfl) (v_move rfl) rfl rfl ?_; clear hF a; intro a hF
 refine svg hF rfl ?_
 refine sv hF (v_move rfl) rfl ?_; clear hF a; intro a hF
 refine svg hF rfl ?_
 refine sv hF (v_not rfl) rfl ?_; clear hF a; intro a hF
 refine sv2 hF (v_pickT rfl rfl) (v_move rfl) rfl rfl ?_; clear hF a; intro a hF
 refine svg hF rfl ?_
 refine sv hF (v_move rfl) rfl ?_; clear hF a; intro a hF
 refine svg hF rfl ?_
 refine sv hF ((v_eql rfl rfl).as (congrArg Value.bool (decide_eq_true (rfl)))) rfl ?_; clear hF a; intro a hF
 refine sv2 hF (v_pickT rfl rfl) (v_move rfl) rfl rfl ?_; clear hF a; intro a hF
 refine svg hF rfl ?_
 refine sv3 hF (v_move rfl) (v_pickT rfl rfl) (v_move rfl) rfl rfl rfl ?_; clear hF a; intro a hF
 refine svg hF rfl ?_
 refine sv hF (v_move rfl) rfl ?_; clear hF a; intro a hF
 refine svg hF rfl ?_
 refine sv hF ((v_eql rfl rfl).as (congrArg Value.bool (decide_eq_true (rfl)))) rfl ?_; clear hF a; intro a hF
 refine sv2 hF (v_pickT rfl rfl) (v_assign rfl) rfl rfl ?_; clear hF a; intro a hF
 refine WL_nil (hK _ _ ?_)
 clear hK K
 replace hF := hF.sub _ (c_ 0 rfl (n_))
 refine W_ret ?_
 refine ⟨_, _, hF, rfl, ?_⟩
 exact ⟨rfl, hS⟩

end Go.Proofs.YtaeljbdpjiciaaaGreat
