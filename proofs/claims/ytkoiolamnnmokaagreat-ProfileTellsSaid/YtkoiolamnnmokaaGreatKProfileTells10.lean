/- Texts of the claim ProfileTells (part 10), put together in the order of their imports. -/
import Derived.Test.YtkoiolamnnmokaaGreatKProfileTells9
/- The walks of the document answer for polynomials: each function returns what the plain function on numbers tells. -/
set_option linter.unusedVariables false
set_option linter.unusedSimpArgs false
namespace Go.Proofs.YtkoiolamnnmokaaGreat
open Go Go.Gam
namespace FxFRef01
theorem en112 : Ent Tryz.prog 112 := ent Tryz.func112 (by kernel_rfl) (by kernel_rfl)
theorem en121 : Ent Tryz.prog 121 := ent Tryz.func121 (by kernel_rfl) (by kernel_rfl)
theorem en122 : Ent Tryz.prog 122 := ent Tryz.func122 (by kernel_rfl) (by kernel_rfl)
theorem en127 : Ent Tryz.prog 127 := ent Tryz.func127 (by kernel_rfl) (by kernel_rfl)
theorem en128 : Ent Tryz.prog 128 := ent Tryz.func128 (by kernel_rfl) (by kernel_rfl)
end FxFRef01
open FxFRef01
set_option maxRecDepth 100000 in
set_option maxHeartbeats 1000000 in
theorem rDeg_ok (B P : Nat) (w : World) (hI : Inv FDx B w) (hP : P < 18446744073709551616) : Ret Tryz.prog 127 [.int .u64 (P : Int)] w fun v w' => v = .int .i64 (Px.deg P) ∧ St FDx B w w'  := by
 refine enter 11 [(0, .int .u64 (P : Int))] 2 Tryz.func127 rfl rfl rfl rfl rfl ?_; intro a hF
 have hS := St.refl hI
 have hbl := blen_le (n := P) (k := 64) (by omega)
 refine W_sr rfl fun K hK => ?_
 refine svw hK hF (v_assign rfl) rfl ?_; clear hF a hK K; intro a hF
 refine W_sr rfl fun K hK => ?_
 refine svw hK hF (v_assign rfl) rfl ?_; clear hF a hK K; intro a hF
 refine W_seq ?_
 refine W_block ?_
 refine W_loop (fun m a w1 => ∃ n : Int, Fr 11 [(0, .int .u64 (m : Int)), (3, .int .i64 n)] a ∧ w = w1 ∧ (blen m : Int) + (n + 1) = blen P ∧ m < 18446744073709551616 ∧ -1 ≤ n) (P) ?_ ?_
 ·
  skip
  exact ⟨_, hF.sub _ (c_ 0 rfl (c_ 3 rfl n_)), rfl, by omega, hP, by omega⟩
 ·
  skip
  clear hF
  rintro m a _ ⟨n, hF, rfl, hn, hm, hn1⟩
  refine W_seq ?_
  refine W_sr rfl fun K hK => ?_
  refine sv2w hK hF (v_move rfl) (v_gtr rfl rfl) rfl rfl ?_; clear hF a hK K; intro a hF
  replace hF := hF.sub _ (c_ 5 rfl (c_ 0 rfl (c_ 3 rfl (n_))))
  refine W_if hF rfl (fun hc1 => ?_) (fun hc1 => ?_)
  ·
   skip
   try simp only [dcl] at hc1
   have hbs := blen_half (m := m) (by omega)
   refine W_skip ?_
   refine W_block ?_
   refine W_sr rfl fun K hK => ?_
   refine sv3w hK hF (v_move rfl) (v_addI rfl rfl (by omega)) (v_assign rfl) rfl rfl rfl ?_; clear hF a hK K; intro a hF
   replace hF := hF.sub _ (c_ 3 rfl (c_ 0 rfl (n_)))
   refine W_reg rfl fun K hK => ?_
   refine sv3w hK hF (v_move rfl) (v_quoN (n := 2) rfl rfl (by omega) (fits_u64 (by omega))) (v_assign rfl) rfl rfl rfl ?_; clear hF a hK K; intro a hF
   replace hF := hF.sub _ (c_ 0 rfl (c_ 3 rfl (n_)))
   exact ⟨m / 2, by omega, _, hF.sub _ (c_ 0 rfl (c_ 3 rfl n_)), rfl, by omega, by omega, by omega⟩
  ·
   skip
   try simp only [dcl] at hc1
   obtain rfl : m = 0 := by omega
   rw [blen_zero] at hn
   refine W_exit rfl ?_
   refine W_sr rfl fun K hK => ?_
   refine sv2w hK hF (v_move rfl) (v_assign rfl) rfl rfl ?_; clear hF a hK K; intro a hF
   replace hF := hF.sub _ (c_ 2 rfl (c_ 10 rfl (c_ 0 rfl (c_ 3 rfl (n_)))))
   refine W_ret ?_
   refine ⟨_, _, hF, rfl, ?_⟩
   exact ⟨by rw [← deg_blen]; congr 1; omega, hS⟩
set_option maxRecDepth 100000 in
set_option maxHeartbeats 1000000 in
theorem rMul_ok (B X Y : Nat) (w : World) (hI : Inv FDx B w) (hX : X < 4294967296) (hY : Y < 4294967296) : Ret Tryz.prog 122 [.int .u32 (X : Int), .int .u32 (Y : Int)] w fun v w' => v = .int .u64 (Px.mul X Y : Int) ∧ St FDx B w w'  := by
 refine enter 22 [(0, .int .u32 (X : Int)), (1, .int .u32 (Y : Int))] 4 Tryz.func122 rfl rfl rfl rfl rfl ?_; intro a hF
 have hS := St.refl hI
 refine W_sr rfl fun K hK => ?_
 refine svw hK hF (v_assign rfl) rfl ?_; clear hF a hK K; intro a hF
 refine W_sr rfl fun K hK => ?_
 refine svw hK hF (v_assign rfl) rfl ?_; clear hF a hK K; intro a hF
 refine W_sr rfl fun K hK => ?_
 refine sv3w hK hF (v_move rfl) (v_cv Tryz.underlying25 Tryz.underlying113 rfl (wrap_u64 _ (by omega))) (v_assign rfl) rfl rfl rfl ?_; clear hF a hK K; intro a hF
 replace hF := hF.sub _ (c_ 6 rfl (c_ 5 rfl (c_ 4 rfl (c_ 1 rfl (n_)))))
 refine W_seq ?_
 refine W_block ?_
 refine W_loop (fun m a w1 => ∃ k x o : Nat, Fr 22 [(1, .int .u32 (m : Int)), (5, .int .u64 (o : Int)), (6, .int .u64 (x : Int))] a ∧ w = w1 ∧ m = Y / 2 ^ k ∧ x = X <<< k ∧ o = Px.mul X (Y % 2 ^ k) ∧ k ≤ 32) (Y) ?_ ?_
 ·
  skip
  exact ⟨0, X, 0, hF.sub _ (c_ 1 rfl (c_ 5 rfl (c_ 6 rfl n_))), rfl, by simp, by simp, (mul_none X Y).symm, by omega⟩
 ·
  skip
  clear hF
  rintro m a _ ⟨k, x, o, hF, rfl, hm, hx, ho, hk⟩
  refine W_seq ?_
  have hm32 : m < 4294967296 := by rw [hm]; exact div_lt hY
  refine W_sr rfl fun K hK => ?_
  refine sv2w hK hF (v_move rfl) (v_gtr rfl rfl) rfl rfl ?_; clear hF a hK K; intro a hF
  replace hF := hF.sub _ (c_ 10 rfl (c_ 1 rfl (c_ 5 rfl (c_ 6 rfl (n_)))))
  refine W_if hF rfl (fun hc1 => ?_) (fun hc1 => ?_)
  ·
   skip
   try simp only [dcl] at hc1
   have hk2 : k < 32 := by
    rcases Nat.lt_or_ge k 32 with h | h
    ·
     exact h
    ·
     have h9 : Y / 2 ^ k = 0 := Nat.div_eq_of_lt (Nat.lt_of_lt_of_le hY (Nat.pow_le_pow_right (n := 2) (by decide) h))
     omega
   have hx2 : x < 9223372036854775808 := by
    rw [hx, Nat.shiftLeft_eq]
    exact Nat.lt_of_lt_of_le (shl_lt (m := 32) (i := k) hX) (Nat.pow_le_pow_right (n := 2) (by decide) (show 32 + k ≤ 63 by omega))
   have ho2 : o < 18446744073709551616 := by rw [ho]; exact mul_lt64 hX (Nat.lt_of_le_of_lt (Nat.mod_le _ _) hY)
   have hst := mul_bit X Y k
   rw [bit_of_div, ← hm, ← ho, ← hx] at hst
   have hds := div_succ Y k
   rw [← hm] at hds
   have hxs : 2 * x = X <<< (k + 1) := by rw [hx, Nat.shiftLeft_eq, Nat.shiftLeft_eq, Nat.pow_succ, Nat.mul_comm 2, Nat.mul_assoc]
   refine W_skip ?_
   refine W_block ?_
   refine W_seq ?_
   refine W_sr rfl fun K hK => ?_
   refine sv3w hK hF (v_move rfl) (v_remI rfl rfl (by omega) (by omega)) (v_eql rfl rfl) rfl rfl rfl ?_; clear hF a hK K; intro a hF
   replace hF := hF.sub _ (c_ 13 rfl (c_ 1 rfl (c_ 5 rfl (c_ 6 rfl (n_)))))
   refine W_if hF rfl (fun hc2 => ?_) (fun hc2 => ?_)
   ·
    skip
    try simp only [dcl] at hc2
    rw [if_pos (by simp; omega)] at hst
    refine W_reg rfl fun K hK => ?_
    refine sv4w hK hF (v_move rfl) (v_move rfl) (v_xorN rfl rfl (fits_u64 (by omega)) (fits_u64 (by omega))) (v_assign rfl) rfl rfl rfl rfl ?_; clear hF a hK K; intro a hF
    replace hF := hF.sub _ (c_ 5 rfl (c_ 1 rfl (c_ 6 rfl (n_))))
    refine W_sr rfl fun K hK => ?_
    refine sv3w hK hF (v_move rfl) ((v_mul rfl rfl).as (congrArg _ (wrap_u64 _ (by omega)))) (v_assign rfl) rfl rfl rfl ?_; clear hF a hK K; intro a hF
    replace hF := hF.sub _ (c_ 6 rfl (c_ 5 rfl (c_ 1 rfl (n_))))
    refine W_reg rfl fun K hK => ?_
    refine sv3w hK hF (v_move rfl) (v_quoN (n := 2) rfl rfl (by omega) (fits_u32 (by omega))) (v_assign rfl) rfl rfl rfl ?_; clear hF a hK K; intro a hF
    replace hF := hF.sub _ (c_ 1 rfl (c_ 6 rfl (c_ 5 rfl (n_))))
    exact ⟨m / 2, by omega, k + 1, 2 * x, _, hF.sub _ (c_ 1 rfl (c_ 5 rfl (c_ 6 rfl n_))), rfl, hds.symm, hxs, hst.symm, by omega⟩
   ·
    skip
    try simp only [dcl] at hc2
    rw [if_neg (by simp; omega), Nat.xor_zero] at hst
    refine W_skip ?_
    refine W_sr rfl fun K hK => ?_
    refine sv3w hK hF (v_move rfl) ((v_mul rfl rfl).as (congrArg _ (wrap_u64 _ (by omega)))) (v_assign rfl) rfl rfl rfl ?_; clear hF a hK K; intro a hF
    replace hF := hF.sub _ (c_ 6 rfl (c_ 1 rfl (c_ 5 rfl (n_))))
    refine W_reg rfl fun K hK => ?_
    refine sv3w hK hF (v_move rfl) (v_quoN (n := 2) rfl rfl (by omega) (fits_u32 (by omega))) (v_assign rfl) rfl rfl rfl ?_; clear hF a hK K; intro a hF
    replace hF := hF.sub _ (c_ 1 rfl (c_ 6 rfl (c_ 5 rfl (n_))))
    exact ⟨m / 2, by omega, k + 1, 2 * x, _, hF.sub _ (c_ 1 rfl (c_ 5 rfl (c_ 6 rfl n_))), rfl, hds.symm, hxs, hst.symm, by omega⟩
  ·
   skip
   try simp only [dcl] at hc1
   obtain rfl : m = 0 := by omega
   have hfin : Y % 2 ^ k = Y := by
    have h9 := Nat.div_add_mod Y (2 ^ k)
    rw [← hm, Nat.mul_zero, Nat.zero_add] at h9
    exact h9
   rw [hfin] at ho
   refine W_exit rfl ?_
   refine W_sr rfl fun K hK => ?_
   refine sv2w hK hF (v_move rfl) (v_assign rfl) rfl rfl ?_; clear hF a hK K; intro a hF
   replace hF := hF.sub _ (c_ 4 rfl (c_ 21 rfl (c_ 1 rfl (c_ 5 rfl (c_ 6 rfl (n_))))))
   refine W_ret ?_
   refine ⟨_, _, hF, rfl, ?_⟩
   exact ⟨by rw [ho], hS⟩
set_option maxRecDepth 100000 in
set_option maxHeartbeats 1000000 in
theorem rpow_ok (B n : Nat) (w : World) (hI : Inv FDx B w) (hn : n ≤ 63) : Ret Tryz.prog 128 [.int .i64 (n : Int)] w fun v w' => v = .int .u64 ((2 ^ n : Nat) : Int) ∧ St FDx B w w'  := by
 refine enter 13 [(0, .int .i64 (n : Int))] 2 Tryz.func128 rfl rfl rfl rfl rfl ?_; intro a hF
 have hS := St.refl hI
 refine W_sr rfl fun K hK => ?_
 refine svw hK hF (v_assign rfl) rfl ?_; clear hF a hK K; intro a hF
 refine W_sr rfl fun K hK => ?_
 refine svw hK hF (v_assign rfl) rfl ?_; clear hF a hK K; intro a hF
 refine W_seq ?_
 refine W_sr rfl fun K hK => ?_
 refine svw hK hF (v_assign rfl) rfl ?_; clear hF a hK K; intro a hF
 refine W_block ?_
 refine W_loop (fun m a w1 => ∃ i x : Nat, Fr 13 [(0, .int .i64 (n : Int)), (3, .int .u64 (x : Int)), (4, .int .i64 (i : Int))] a ∧ w = w1 ∧ i ≤ n ∧ x = 2 ^ i ∧ m = n - i) (n) ?_ ?_
 ·
  skip
  exact ⟨0, 1, hF.sub _ (c_ 0 rfl (c_ 3 rfl (c_ 4 rfl n_))), rfl, by omega, by simp, by omega⟩
 ·
  skip
  clear hF
  rintro m a _ ⟨i, x, hF, rfl, hi, hx, rfl⟩
  refine W_seq ?_
  refine W_sr rfl fun K hK => ?_
  refine sv3w hK hF (v_move rfl) (v_move rfl) (v_lss rfl rfl) rfl rfl rfl ?_; clear hF a hK K; intro a hF
  replace hF := hF.sub _ (c_ 7 rfl (c_ 0 rfl (c_ 3 rfl (c_ 4 rfl (n_)))))
  refine W_if hF rfl (fun hc1 => ?_) (fun hc1 => ?_)
  ·
   skip
   try simp only [dcl] at hc1
   have hx2 : x < 9223372036854775808 := by
    rw [hx]; exact Nat.lt_of_lt_of_le (Nat.pow_lt_pow_right (a := 2) (by decide) (show i < 63 by omega)) (by decide)
   refine W_skip ?_
   refine W_seq ?_
   refine W_block ?_
   refine W_reg rfl fun K hK => ?_
   refine sv3w hK hF (v_move rfl) ((v_mul rfl rfl).as (congrArg _ (wrap_u64 _ (by omega)))) (v_assign rfl) rfl rfl rfl ?_; clear hF a hK K; intro a hF
   replace hF := hF.sub _ (c_ 3 rfl (c_ 0 rfl (c_ 4 rfl (n_))))
   refine W_reg rfl fun K hK => ?_
   refine sv3w hK hF (v_move rfl) (v_addI rfl rfl (by omega)) (v_assign rfl) rfl rfl rfl ?_; clear hF a hK K; intro a hF
   exact ⟨n - (i + 1), by omega, i + 1, 2 * x, hF.sub _ (c_ 0 rfl (c_ 3 rfl (c_ 4 rfl n_))), rfl, by omega, by rw [hx, Nat.pow_succ, Nat.mul_comm], rfl⟩
  ·
   skip
   try simp only [dcl] at hc1
   obtain rfl : i = n := by omega
   refine W_exit rfl ?_
   refine W_sr rfl fun K hK => ?_
   refine sv2w hK hF (v_move rfl) (v_assign rfl) rfl rfl ?_; clear hF a hK K; intro a hF
   replace hF := hF.sub _ (c_ 2 rfl (c_ 12 rfl (c_ 0 rfl (c_ 3 rfl (c_ 4 rfl (n_))))))
   refine W_ret ?_
   refine ⟨_, _, hF, rfl, ?_⟩
   exact ⟨by rw [hx], hS⟩
set_option maxRecDepth 100000 in
set_option maxHeartbeats 1000000 in
theorem rMod_ok (B A p : Nat) (w : World) (hI : Inv FDx B w) (hA : A < 18446744073709551616) (hp : p < 4294967296) : Ret Tryz.prog 121 [.int .u64 (A : Int), .int .u32 (p : Int)] w fun v w' => v = .int .u32 (Px.mod A p : Int) ∧ St FDx B w w'  := by
 refine enter 27 [(0, .int .u64 (A : Int)), (1, .int .u32 (p : Int))] 4 Tryz.func121 rfl rfl rfl rfl rfl ?_; intro a hF
 have hS := St.refl hI
 refine W_sr rfl fun K hK => ?_
 refine svw hK hF (v_assign rfl) rfl ?_; clear hF a hK K; intro a hF
 refine W_seq ?_
 refine W_sr rfl fun K hK => ?_
 refine sv2w hK hF (v_move rfl) (v_eql rfl rfl) rfl rfl ?_; clear hF a hK K; intro a hF
 replace hF := hF.sub _ (c_ 7 rfl (c_ 4 rfl (c_ 0 rfl (c_ 1 rfl (n_)))))
 refine W_if hF rfl (fun hc1 => ?_) (fun hc1 => ?_)
 ·
  skip
  try simp only [dcl] at hc1
  obtain rfl : p = 0 := by omega
  refine W_sr rfl fun K hK => ?_
  refine svw hK hF (v_assign rfl) rfl ?_; clear hF a hK K; intro a hF
  replace hF := hF.sub _ (c_ 4 rfl (c_ 0 rfl (c_ 1 rfl (n_))))
  refine W_ret ?_
  refine ⟨_, _, hF, rfl, ?_⟩
  exact ⟨by rw [Px.mod_zero]; rfl, hS⟩
 ·
  skip
  try simp only [dcl] at hc1
  have hp0 : p ≠ 0 := by omega
  have hl := log2_lt hp0 (k := 32) hp
  refine W_skip ?_
  refine W_sr rfl fun K hK => ?_
  refine sv2 hF (v_move rfl) (v_cv Tryz.underlying25 Tryz.underlying113 rfl (wrap_u64 _ (by omega))) rfl rfl ?_; clear hF a; intro a hF
  refine sc hF rfl rfl rfl en127 rfl (rDeg_ok B p _ hS.inv (by omega)) ?_; clear hF a; intro v w' a hv hF
  obtain ⟨rfl, hS'⟩ := hv
  replace hS := hS.trans hS'
  clear hS'
  refine svw hK hF (v_assign rfl) rfl ?_; clear hF a hK K; intro a hF
  replace hF := hF.sub _ (c_ 5 rfl (c_ 4 rfl (c_ 0 rfl (c_ 1 rfl (n_)))))
  rw [deg_pos hp0] at hF
  refine W_seq ?_
  refine W_block ?_
  refine W_loop (fun m a w1 => Fr 27 [(0, .int .u64 (m : Int)), (1, .int .u32 (p : Int)), (5, .int .i64 (Nat.log2 p : Int))] a ∧ St FDx B w w1 ∧ m < 18446744073709551616 ∧ Px.mod m p = Px.mod A p) (A) ?_ ?_
  ·
   skip
   exact ⟨hF.sub _ (c_ 0 rfl (c_ 1 rfl (c_ 5 rfl n_))), hS, hA, rfl⟩
  ·
   skip
   clear hF
   clear hS
   rintro m a w1 ⟨hF, hS, hm, he⟩
   refine W_seq ?_
   refine W_sr rfl fun K hK => ?_
   refine sv hF (v_move rfl) rfl ?_; clear hF a; intro a hF
   refine sc hF rfl rfl rfl en127 rfl (rDeg_ok B m _ hS.inv hm) ?_; clear hF a; intro v w' a hv hF
   obtain ⟨rfl, hS'⟩ := hv
   replace hS := hS.trans hS'
   clear hS'
   refine sv2w hK hF (v_move rfl) (v_geq rfl rfl) rfl rfl ?_; clear hF a hK K; intro a hF
   replace hF := hF.sub _ (c_ 14 rfl (c_ 0 rfl (c_ 1 rfl (c_ 5 rfl (n_)))))
   refine W_if hF rfl (fun hc2 => ?_) (fun hc2 => ?_)
   ·
    skip
    try simp only [dcl] at hc2
    have hm0 : m ≠ 0 := by rintro rfl; rw [deg_zero] at hc2; omega
    rw [deg_pos hm0] at hc2
    have hlt := xor_shift_lt hp0 hm0 (by omega)
    have hl2 := log2_lt hm0 (k := 64) hm
    have hmx := mod_xor_shift m p (Nat.log2 m - Nat.log2 p)
    have hsh := shl_lt64 hp0 hp (j := Nat.log2 m) (by omega) (by omega)
    have hge := (Px.hb_log hm0).1
    refine W_skip ?_
    refine W_block ?_
    refine W_reg rfl fun K hK => ?_
    refine sv4 hF (v_move rfl) (v_move rfl) (v_cv Tryz.underlying25 Tryz.underlying113 rfl (wrap_u64 _ (by omega))) (v_move rfl) rfl rfl rfl rfl ?_; clear hF a; intro a hF
    refine sc hF rfl rfl rfl en127 rfl (rDeg_ok B m _ hS.inv hm) ?_; clear hF a; intro v w' a hv hF
    obtain ⟨rfl, hS'⟩ := hv
    replace hS := hS.trans hS'
    clear hS'
    refine sv hF (v_move rfl) rfl ?_; clear hF a; intro a hF
    rw [deg_pos hm0] at hF
    refine sv hF (v_subN rfl rfl (by omega) (by omega)) rfl ?_; clear hF a; intro a hF
    refine sc hF rfl rfl rfl en128 rfl (rpow_ok B (Nat.log2 m - Nat.log2 p) _ hS.inv (by omega)) ?_; clear hF a; intro v w' a hv hF
    obtain ⟨rfl, hS'⟩ := hv
    replace hS := hS.trans hS'
    clear hS'
    refine sv hF ((v_mul rfl rfl).as (congrArg _ (mul_shift hsh))) rfl ?_; clear hF a; intro a hF
    refine sv hF (v_xorN rfl rfl (fits_u64 hm) (fits_u64 (by rw [Nat.shiftLeft_eq]; exact hsh))) rfl ?_; clear hF a; intro a hF
    refine svw hK hF (v_assign rfl) rfl ?_; clear hF a hK K; intro a hF
    replace hF := hF.sub _ (c_ 0 rfl (c_ 1 rfl (c_ 5 rfl (n_))))
    exact ⟨_, Nat.lt_of_lt_of_le hlt hge, hF.sub _ (c_ 0 rfl (c_ 1 rfl (c_ 5 rfl n_))), hS, by omega, by rw [hmx, he]⟩
   ·
    skip
    try simp only [dcl] at hc2
    have hfin := mod_low (A := m) hp0 (by omega)
    have hlt := mod_lt32 m hp
    rw [hfin] at hlt he
    refine W_exit rfl ?_
    refine W_sr rfl fun K hK => ?_
    refine sv3w hK hF (v_move rfl) (v_cv Tryz.underlying113 Tryz.underlying25 rfl (wrap_u32 _ (by omega))) (v_assign rfl) rfl rfl rfl ?_; clear hF a hK K; intro a hF
    replace hF := hF.sub _ (c_ 4 rfl (c_ 26 rfl (c_ 25 rfl (c_ 0 rfl (c_ 1 rfl (c_ 5 rfl (n_)))))))
    refine W_ret ?_
    refine ⟨_, _, hF, rfl, ?_⟩
    exact ⟨by rw [he], hS⟩
set_option maxRecDepth 100000 in
set_option maxHeartbeats 1000000 in
theorem rMulMod_ok (B x y p : Nat) (w : World) (hI : Inv FDx B w) (hx : x < 4294967296) (hy : y < 4294967296) (hp : p < 4294967296) : Ret Tryz.prog 112 [.int .u32 (x : Int), .int .u32 (y : Int), .int .u32 (p : Int)] w fun v w' => v = .int .u32 (Px.mulMod x y p : Int) ∧ St FDx B w w'  := by
 refine enter 12 [(0, .int .u32 (x : Int)), (1, .int .u32 (y : Int)), (2, .int .u32 (p : Int))] 6 Tryz.func112 rfl rfl rfl rfl rfl ?_; intro a hF
 have hS := St.refl hI
 refine W_sr rfl fun K hK => ?_
 refine svw hK hF (v_assign rfl) rfl ?_; clear hF a hK K; intro a hF
 refine W_sr rfl fun K hK => ?_
 refine sv2 hF (v_move rfl) (v_move rfl) rfl rfl ?_; clear hF a; intro a hF
 refine sc hF rfl rfl rfl en122 rfl (rMul_ok B x y _ hS.inv hx hy) ?_; clear hF a; intro v w' a hv hF
 obtain ⟨rfl, hS'⟩ := hv
 replace hS := hS.trans hS'
 clear hS'
 refine sv hF (v_move rfl) rfl ?_; clear hF a; intro a hF
 refine sc hF rfl rfl rfl en121 rfl (rMod_ok B (Px.mul x y) p _ hS.inv (mul_lt64 hx hy) hp) ?_; clear hF a; intro v w' a hv hF
 obtain ⟨rfl, hS'⟩ := hv
 replace hS := hS.trans hS'
 clear hS'
 refine svw hK hF (v_assign rfl) rfl ?_; clear hF a hK K; intro a hF
 replace hF := hF.sub _ (c_ 6 rfl (n_))
 refine W_ret ?_
 refine ⟨_, _, hF, rfl, ?_⟩
 exact ⟨rfl, hS⟩
set_option maxRecDepth 100000 in
set_option maxHeartbeats 1000000 in
theorem rPower_ok (B X n p : Nat) (w : World) (hI : Inv FDx B w) (hX : X < 4294967296) (hn : n < 18446744073709551616) (hp : p < 4294967296) : Ret Tryz.prog 113 [.int .u32 (X : Int), .int .u64 (n : Int), .int .u32 (p : Int)] w fun v w' => v = .int .u32 (powB X p (Px.mod 1 p) n : Int) ∧ St FDx B w w'  := by
 refine enter 26 [(0, .int .u32 (X : Int)), (1, .int .u64 (n : Int)), (2, .int .u32 (p : Int))] 6 Tryz.func113 rfl rfl rfl rfl rfl ?_; intro a hF
 have hS := St.refl hI
 refine W_sr rfl fun K hK => ?_
 refine svw hK hF (v_assign rfl) rfl ?_; clear hF a hK K; intro a hF
 refine W_sr rfl fun K hK => ?_
 refine sv hF (v_move rfl) rfl ?_; clear hF a; intro a hF
 refine sc hF rfl rfl rfl en121 rfl (rMod_ok B 1 p _ hS.inv (by decide) hp) ?_; clear hF a; intro v w' a hv hF
 obtain ⟨rfl, hS'⟩ := hv
 replace hS := hS.trans hS'
 clear hS'
 refine svw hK hF (v_assign rfl) rfl ?_; clear hF a hK K; intro a hF
 replace hF := hF.sub _ (c_ 7 rfl (c_ 6 rfl (c_ 0 rfl (c_ 1 rfl (c_ 2 rfl (n_))))))
 refine W_seq ?_
 refine W_block ?_
 refine W_loop (fun m a w1 => ∃ x o : Nat, Fr 26 [(0, .int .u32 (x : Int)), (1, .int .u64 (m : Int)), (2, .int .u32 (p : Int)), (7, .int .u32 (o : Int))] a ∧ St FDx B w w1 ∧ powB x p o m = powB X p (Px.mod 1 p) n ∧ x < 4294967296 ∧ o < 4294967296 ∧ m < 18446744073709551616) (n) ?_ ?_
 ·
  skip
  exact ⟨_, _, hF.sub _ (c_ 0 rfl (c_ 1 rfl (c_ 2 rfl (c_ 7 rfl n_)))), hS, rfl, hX, mod_lt32 1 hp, hn⟩
 ·
  skip
  clear hF
  clear hS
  rintro m a w1 ⟨x, o, hF, hS, hg, hx, ho, hm⟩
  refine W_seq ?_
  refine W_sr rfl fun K hK => ?_
  refine sv2w hK hF (v_move rfl) (v_gtr rfl rfl) rfl rfl ?_; clear hF a hK K; intro a hF
  replace hF := hF.sub _ (c_ 11 rfl (c_ 0 rfl (c_ 1 rfl (c_ 2 rfl (c_ 7 rfl (n_))))))
  refine W_if hF rfl (fun hc1 => ?_) (fun hc1 => ?_)
  ·
   skip
   try simp only [dcl] at hc1
   refine W_skip ?_
   refine W_block ?_
   refine W_seq ?_
   refine W_sr rfl fun K hK => ?_
   refine sv3w hK hF (v_move rfl) (v_remI rfl rfl (by omega) (by omega)) (v_eql rfl rfl) rfl rfl rfl ?_; clear hF a hK K; intro a hF
   replace hF := hF.sub _ (c_ 14 rfl (c_ 0 rfl (c_ 1 rfl (c_ 2 rfl (c_ 7 rfl (n_))))))
   refine W_if hF rfl (fun hc2 => ?_) (fun hc2 => ?_)
   ·
    skip
    try simp only [dcl] at hc2
    rw [powB_odd x p o (by omega)] at hg
    refine W_reg rfl fun K hK => ?_
    refine sv3 hF (v_move rfl) (v_move rfl) (v_move rfl) rfl rfl rfl ?_; clear hF a; intro a hF
    refine sc hF rfl rfl rfl en112 rfl (rMulMod_ok B o x p _ hS.inv ho hx hp) ?_; clear hF a; intro v w' a hv hF
    obtain ⟨rfl, hS'⟩ := hv
    replace hS := hS.trans hS'
    clear hS'
    refine svw hK hF (v_assign rfl) rfl ?_; clear hF a hK K; intro a hF
    replace hF := hF.sub _ (c_ 7 rfl (c_ 0 rfl (c_ 1 rfl (c_ 2 rfl (n_)))))
    refine W_sr rfl fun K hK => ?_
    refine sv3 hF (v_move rfl) (v_move rfl) (v_move rfl) rfl rfl rfl ?_; clear hF a; intro a hF
    refine sc hF rfl rfl rfl en112 rfl (rMulMod_ok B x x p _ hS.inv hx hx hp) ?_; clear hF a; intro v w' a hv hF
    obtain ⟨rfl, hS'⟩ := hv
    replace hS := hS.trans hS'
    clear hS'
    refine svw hK hF (v_assign rfl) rfl ?_; clear hF a hK K; intro a hF
    replace hF := hF.sub _ (c_ 0 rfl (c_ 7 rfl (c_ 1 rfl (c_ 2 rfl (n_)))))
    refine W_reg rfl fun K hK => ?_
    refine sv3w hK hF (v_move rfl) (v_quoN (n := 2) rfl rfl (by omega) (fits_u64 (by omega))) (v_assign rfl) rfl rfl rfl ?_; clear hF a hK K; intro a hF
    replace hF := hF.sub _ (c_ 1 rfl (c_ 0 rfl (c_ 7 rfl (c_ 2 rfl (n_)))))
    exact ⟨m / 2, by omega, _, _, hF.sub _ (c_ 0 rfl (c_ 1 rfl (c_ 2 rfl (c_ 7 rfl n_)))), hS, hg, mod_lt32 _ hp, by first | exact mod_lt32 _ hp | exact ho, by omega⟩
   ·
    skip
    try simp only [dcl] at hc2
    rw [powB_even x p o (by omega) (by omega)] at hg
    refine W_skip ?_
    refine W_sr rfl fun K hK => ?_
    refine sv3 hF (v_move rfl) (v_move rfl) (v_move rfl) rfl rfl rfl ?_; clear hF a; intro a hF
    refine sc hF rfl rfl rfl en112 rfl (rMulMod_ok B x x p _ hS.inv hx hx hp) ?_; clear hF a; intro v w' a hv hF
    obtain ⟨rfl, hS'⟩ := hv
    replace hS := hS.trans hS'
    clear hS'
    refine svw hK hF (v_assign rfl) rfl ?_; clear hF a hK K; intro a hF
    replace hF := hF.sub _ (c_ 0 rfl (c_ 1 rfl (c_ 2 rfl (c_ 7 rfl (n_)))))
    refine W_reg rfl fun K hK => ?_
    refine sv3w hK hF (v_move rfl) (v_quoN (n := 2) rfl rfl (by omega) (fits_u64 (by omega))) (v_assign rfl) rfl rfl rfl ?_; clear hF a hK K; intro a hF
    replace hF := hF.sub _ (c_ 1 rfl (c_ 0 rfl (c_ 2 rfl (c_ 7 rfl (n_)))))
    exact ⟨m / 2, by omega, _, _, hF.sub _ (c_ 0 rfl (c_ 1 rfl (c_ 2 rfl (c_ 7 rfl n_)))), hS, hg, mod_lt32 _ hp, by first | exact mod_lt32 _ hp | exact ho, by omega⟩
  ·
   skip
   try simp only [dcl] at hc1
   obtain rfl : m = 0 := by omega
   rw [powB_zero] at hg
   refine W_exit rfl ?_
   refine W_sr rfl fun K hK => ?_
   refine sv2w hK hF (v_move rfl) (v_assign rfl) rfl rfl ?_; clear hF a hK K; intro a hF
   replace hF := hF.sub _ (c_ 6 rfl (c_ 25 rfl (c_ 0 rfl (c_ 1 rfl (c_ 2 rfl (c_ 7 rfl (n_)))))))
   refine W_ret ?_
   refine ⟨_, _, hF, rfl, ?_⟩
   exact ⟨by rw [hg], hS⟩
end Go.Proofs.YtkoiolamnnmokaaGreat

/- The walks of gambrelref02: what the document asks of a field. -/
namespace Go.Proofs.YtkoiolamnnmokaaGreat
open Go Go.Gam
namespace FxFRef02
theorem en90 : Ent Tryz.prog 90 := ent Tryz.func90 (by kernel_rfl) (by kernel_rfl)
theorem en92 : Ent Tryz.prog 92 := ent Tryz.func92 (by kernel_rfl) (by kernel_rfl)
theorem en93 : Ent Tryz.prog 93 := ent Tryz.func93 (by kernel_rfl) (by kernel_rfl)
theorem en94 : Ent Tryz.prog 94 := ent Tryz.func94 (by kernel_rfl) (by kernel_rfl)
theorem en95 : Ent Tryz.prog 95 := ent Tryz.func95 (by kernel_rfl) (by kernel_rfl)
theorem en112 : Ent Tryz.prog 112 := ent Tryz.func112 (by kernel_rfl) (by kernel_rfl)
theorem en113 : Ent Tryz.prog 113 := ent Tryz.func113 (by kernel_rfl) (by kernel_rfl)
end FxFRef02
open FxFRef02
set_option maxRecDepth 100000 in
set_option maxHeartbeats 1000000 in
theorem rsize_ok (wb : Nat) (w : World) (hwb : wb ≤ 16) : Ret Tryz.prog 94 [.int .i64 (wb : Int)] w fun v w' => v = .int .i64 ((2 ^ wb : Nat) : Int) ∧ w' = w := by
 refine enter 13 [(0, .int .i64 (wb : Int))] 2 Tryz.func94 rfl rfl rfl rfl rfl ?_; intro a hF
 refine W_sr rfl fun K hK => ?_
 refine svw hK hF (v_assign rfl) rfl ?_; clear hF a hK K; intro a hF
 refine W_sr rfl fun K hK => ?_
 refine svw hK hF (v_assign rfl) rfl ?_; clear hF a hK K; intro a hF
 refine W_seq ?_
 refine W_sr rfl fun K hK => ?_
 refine svw hK hF (v_assign rfl) rfl ?_; clear hF a hK K; intro a hF
 refine W_block ?_
 refine W_loop (fun m a w1 => ∃ i : Nat, Fr 13 [(0, .int .i64 (wb : Int)), (3, .int .i64 ((2 ^ i : Nat) : Int)), (4, .int .i64 (i : Int))] a ∧ w = w1 ∧ i ≤ wb ∧ m + i = wb) (wb) ?_ ?_
 ·
  skip
  exact ⟨0, hF.sub _ (c_ 0 rfl (c_ 3 rfl (c_ 4 rfl n_))), rfl, by omega, by omega⟩
 ·
  skip
  clear hF
  rintro m a _ ⟨i, hF, rfl, hi, hm⟩
  refine W_seq ?_
  refine W_sr rfl fun K hK => ?_
  refine sv3w hK hF (v_move rfl) (v_move rfl) (v_lss rfl rfl) rfl rfl rfl ?_; clear hF a hK K; intro a hF
  replace hF := hF.sub _ (c_ 7 rfl (c_ 0 rfl (c_ 3 rfl (c_ 4 rfl (n_)))))
  refine W_if hF rfl (fun hc1 => ?_) (fun hc1 => ?_)
  ·
   skip
   try simp only [dcl] at hc1
   refine W_skip ?_
   refine W_seq ?_
   refine W_block ?_
   have h16 := two_pow16 (d := i) (by omega)
   have hs : 2 ^ (i + 1) = 2 * 2 ^ i := by rw [Nat.pow_succ, Nat.mul_comm]
   refine W_reg rfl fun K hK => ?_
   refine sv3w hK hF (v_move rfl) ((v_mulI rfl rfl (by omega)).as (congrArg _ (show (2 : Int) * ((2 ^ i : Nat) : Int) = ((2 ^ (i + 1) : Nat) : Int) by omega))) (v_assign rfl) rfl rfl rfl ?_; clear hF a hK K; intro a hF
   replace hF := hF.sub _ (c_ 3 rfl (c_ 0 rfl (c_ 4 rfl (n_))))
   refine W_reg rfl fun K hK => ?_
   refine sv3w hK hF (v_move rfl) (v_addI rfl rfl (by omega)) (v_assign rfl) rfl rfl rfl ?_; clear hF a hK K; intro a hF
   exact ⟨m - 1, by omega, i + 1, hF.sub _ (c_ 0 rfl (c_ 3 rfl (c_ 4 rfl n_))), rfl, by omega, by omega⟩
  ·
   skip
   try simp only [dcl] at hc1
   refine W_exit rfl ?_
   refine W_sr rfl fun K hK => ?_
   refine sv2w hK hF (v_move rfl) (v_assign rfl) rfl rfl ?_; clear hF a hK K; intro a hF
   replace hF := hF.sub _ (c_ 2 rfl (c_ 12 rfl (c_ 0 rfl (c_ 3 rfl (c_ 4 rfl (n_))))))
   refine W_ret ?_
   refine ⟨_, _, hF, rfl, ?_⟩
   obtain rfl : i = wb := by omega
   exact ⟨rfl, rfl⟩
set_option maxRecDepth 100000 in
set_option maxHeartbeats 1000000 in
theorem rIn_ok (B wb p : Nat) (ia : Int) (w : World) (hI : Inv FDx B w) (hwb : wb ≤ 16) : Ret Tryz.prog 92 [.int .i64 (wb : Int), .int .i64 ia] w fun v w' => v = .bool (inF (some (wb, p)) ia) ∧ w' = w := by
 refine enter 13 [(0, .int .i64 (wb : Int)), (1, .int .i64 ia)] 4 Tryz.func92 rfl rfl rfl rfl rfl ?_; intro a hF
 refine W_sr rfl fun K hK => ?_
 refine svw hK hF (v_assign rfl) rfl ?_; clear hF a hK K; intro a hF
 refine W_sr rfl fun K hK => ?_
 refine sv hF (v_move rfl) rfl ?_; clear hF a; intro a hF
 refine sb hF (v_geq rfl rfl) rfl ?_ ?_
 ·
  clear hF a; intro hc1 a hF
  try simp only [dcl] at hc1
  refine sv hF (v_move rfl) rfl ?_; clear hF a; intro a hF
  refine svg hF rfl ?_
  refine sv hF (v_move rfl) rfl ?_; clear hF a; intro a hF
  refine svg hF rfl ?_
  refine sv hF (v_move rfl) rfl ?_; clear hF a; intro a hF
  refine svg hF rfl ?_
  refine sc hF rfl rfl rfl en94 rfl (rsize_ok wb _ (by omega)) ?_; clear hF a; intro v w' a hv hF
  obtain ⟨rfl, rfl⟩ := hv
  skip
  refine svg hF rfl ?_
  refine sv3w hK hF (v_lss rfl rfl) (v_pickT rfl rfl) (v_assign rfl) rfl rfl rfl ?_; clear hF a hK K; intro a hF
  replace hF := hF.sub _ (c_ 4 rfl (n_))
  refine W_ret ?_
  refine ⟨_, _, hF, rfl, ?_⟩
  refine ⟨congrArg _ ?_, rfl⟩
  rw [Bool.eq_iff_iff, inF_some, decide_eq_true_iff]; omega
 ·
  clear hF a; intro hc1 a hF
  try simp only [dcl] at hc1
  refine sv hF (v_move rfl) rfl ?_; clear hF a; intro a hF
  refine svn4 hF rfl rfl rfl rfl rfl rfl rfl rfl rfl rfl rfl rfl ?_; clear hF a; intro a hF
  refine sv2w hK hF (v_pickF rfl rfl) (v_assign rfl) rfl rfl ?_; clear hF a hK K; intro a hF
  replace hF := hF.sub _ (c_ 4 rfl (n_))
  refine W_ret ?_
  refine ⟨_, _, hF, rfl, ?_⟩
  refine ⟨congrArg _ (Eq.symm ?_), rfl⟩
  rw [Bool.eq_false_iff, Ne, inF_some]; omega
set_option maxRecDepth 100000 in
set_option maxHeartbeats 1000000 in
theorem rMul_gf (B wb p : Nat) (ia ib : Int) (w : World) (hI : Inv FDx B w) (hp : Prm wb p) : Ret Tryz.prog 90 [.int .i64 (wb : Int), .int .u32 (p : Int), .int .i64 ia, .int .i64 ib] w fun v w' => v = .int .i64 (gmul (some (wb, p)) ia ib) ∧ St FDx B w w' := by
 refine enter 26 [(0, .int .i64 (wb : Int)), (1, .int .u32 (p : Int)), (2, .int .i64 ia), (3, .int .i64 ib)] 8 Tryz.func90 rfl rfl rfl rfl rfl ?_; intro a hF
 have hS := St.refl hI
 have hsz := hp.size
 have hwb : wb ≤ 16 := by have := hp.w; omega
 have hplt := hp.lt
 refine W_sr rfl fun K hK => ?_
 refine svw hK hF (v_assign rfl) rfl ?_; clear hF a hK K; intro a hF
 refine W_seq ?_
 refine W_sr rfl fun K hK => ?_
 refine sv2 hF (v_move rfl) (v_move rfl) rfl rfl ?_; clear hF a; intro a hF
 refine sc hF rfl rfl rfl en92 rfl (rIn_ok B wb p ia _ hS.inv (by omega)) ?_; clear hF a; intro v w' a hv hF
 obtain ⟨rfl, hw⟩ := hv
 obtain rfl := hw.symm
 have hS' := St.refl hS.inv
 replace hS := hS.trans hS'
 clear hS'
 refine sb hF (v_not rfl) rfl ?_ ?_
 ·
  clear hF a; intro hc1 a hF
  try simp only [dcl] at hc1
  refine sv hF (v_move rfl) rfl ?_; clear hF a; intro a hF
  refine svn4 hF rfl rfl rfl rfl rfl rfl rfl rfl rfl rfl rfl rfl ?_; clear hF a; intro a hF
  refine svw hK hF (v_pickT rfl rfl) rfl ?_; clear hF a hK K; intro a hF
  replace hF := hF.sub _ (c_ 18 rfl (c_ 8 rfl (c_ 1 rfl (c_ 2 rfl (c_ 3 rfl (n_))))))
  refine W_ifT hF rfl ?_
  refine W_sr rfl fun K hK => ?_
  refine svw hK hF (v_assign rfl) rfl ?_; clear hF a hK K; intro a hF
  replace hF := hF.sub _ (c_ 8 rfl (c_ 1 rfl (c_ 2 rfl (c_ 3 rfl (n_)))))
  refine W_ret ?_
  refine ⟨_, _, hF, rfl, ?_⟩
  exact ⟨by rw [gmul_out (by rw [all2, hc1]; rfl)], hS⟩
 ·
  clear hF a; intro hc1 a hF
  try simp only [dcl] at hc1
  refine sv hF (v_move rfl) rfl ?_; clear hF a; intro a hF
  refine svg hF rfl ?_
  refine sv hF (v_move rfl) rfl ?_; clear hF a; intro a hF
  refine svg hF rfl ?_
  refine sv hF (v_move rfl) rfl ?_; clear hF a; intro a hF
  refine svg hF rfl ?_
  refine sc hF rfl rfl rfl en92 rfl (rIn_ok B wb p ib _ hS.inv (by omega)) ?_; clear hF a; intro v w' a hv hF
  obtain ⟨rfl, hw⟩ := hv
  obtain rfl := hw.symm
  have hS' := St.refl hS.inv
  replace hS := hS.trans hS'
  clear hS'
  refine svg hF rfl ?_
  refine sv2w hK hF (v_not rfl) (v_pickF rfl rfl) rfl rfl ?_; clear hF a hK K; intro a hF
  replace hF := hF.sub _ (c_ 18 rfl (c_ 8 rfl (c_ 1 rfl (c_ 2 rfl (c_ 3 rfl (n_))))))
  refine W_if hF rfl (fun hc2 => ?_) (fun hc2 => ?_)
  ·
   skip
   try simp only [dcl] at hc2
   refine W_sr rfl fun K hK => ?_
   refine svw hK hF (v_assign rfl) rfl ?_; clear hF a hK K; intro a hF
   replace hF := hF.sub _ (c_ 8 rfl (c_ 1 rfl (c_ 2 rfl (c_ 3 rfl (n_)))))
   refine W_ret ?_
   refine ⟨_, _, hF, rfl, ?_⟩
   exact ⟨by rw [gmul_out (by rw [all2, hc2]; simp)], hS⟩
  ·
   skip
   try simp only [dcl] at hc2
   refine W_skip ?_
   obtain ⟨x, rfl, hx⟩ := inF_nat hc1
   obtain ⟨y, rfl, hy⟩ := inF_nat hc2
   have hml := hp.mulMod_lt x y
   refine W_sr rfl fun K hK => ?_
   refine sv5 hF (v_move rfl) (v_cv Tryz.underlying3 Tryz.underlying25 rfl (wrap_u32 _ (by omega))) (v_move rfl) (v_cv Tryz.underlying3 Tryz.underlying25 rfl (wrap_u32 _ (by omega))) (v_move rfl) rfl rfl rfl rfl rfl ?_; clear hF a; intro a hF
   refine sc hF rfl rfl rfl en112 rfl (rMulMod_ok B x y p _ hS.inv (by omega) (by omega) (by omega)) ?_; clear hF a; intro v w' a hv hF
   obtain ⟨rfl, hS'⟩ := hv
   replace hS := hS.trans hS'
   clear hS'
   refine sv2w hK hF (v_cv Tryz.underlying25 Tryz.underlying3 rfl (wrap_i64 _ (by omega))) (v_assign rfl) rfl rfl ?_; clear hF a hK K; intro a hF
   replace hF := hF.sub _ (c_ 8 rfl (n_))
   refine W_ret ?_
   refine ⟨_, _, hF, rfl, ?_⟩
   exact ⟨by rw [gmul_in hx hy], hS⟩
set_option maxRecDepth 100000 in
set_option maxHeartbeats 1000000 in
theorem rPow_gf (B wb p : Nat) (ia n : Int) (w : World) (hI : Inv FDx B w) (hp : Prm wb p) (hn : -9223372036854775808 ≤ n ∧ n < 9223372036854775808) : Ret Tryz.prog 95 [.int .i64 (wb : Int), .int .u32 (p : Int), .int .i64 ia, .int .i64 n] w fun v w' => v = .int .i64 (gpow (some (wb, p)) ia n) ∧ St FDx B w w' := by
 refine enter 24 [(0, .int .i64 (wb : Int)), (1, .int .u32 (p : Int)), (2, .int .i64 ia), (3, .int .i64 n)] 8 Tryz.func95 rfl rfl rfl rfl rfl ?_; intro a hF
 have hS := St.refl hI
 have hsz := hp.size
 have hwb : wb ≤ 16 := by have := hp.w; omega
 have hplt := hp.lt
 refine W_sr rfl fun K hK => ?_
 refine svw hK hF (v_assign rfl) rfl ?_; clear hF a hK K; intro a hF
 refine W_seq ?_
 refine W_sr rfl fun K hK => ?_
 refine sv2 hF (v_move rfl) (v_move rfl) rfl rfl ?_; clear hF a; intro a hF
 refine sc hF rfl rfl rfl en92 rfl (rIn_ok B wb p ia _ hS.inv (by omega)) ?_; clear hF a; intro v w' a hv hF
 obtain ⟨rfl, hw⟩ := hv
 obtain rfl := hw.symm
 have hS' := St.refl hS.inv
 replace hS := hS.trans hS'
 clear hS'
 refine sb hF (v_not rfl) rfl ?_ ?_
 ·
  clear hF a; intro hc1 a hF
  try simp only [dcl] at hc1
  refine sv hF (v_move rfl) rfl ?_; clear hF a; intro a hF
  refine svn2 hF rfl rfl rfl rfl rfl rfl ?_; clear hF a; intro a hF
  refine svw hK hF (v_pickT rfl rfl) rfl ?_; clear hF a hK K; intro a hF
  replace hF := hF.sub _ (c_ 16 rfl (c_ 8 rfl (c_ 1 rfl (c_ 2 rfl (c_ 3 rfl (n_))))))
  refine W_ifT hF rfl ?_
  refine W_sr rfl fun K hK => ?_
  refine svw hK hF (v_assign rfl) rfl ?_; clear hF a hK K; intro a hF
  replace hF := hF.sub _ (c_ 8 rfl (c_ 1 rfl (c_ 2 rfl (c_ 3 rfl (n_)))))
  refine W_ret ?_
  refine ⟨_, _, hF, rfl, ?_⟩
  exact ⟨by rw [gpow_out (.inl hc1)], hS⟩
 ·
  clear hF a; intro hc1 a hF
  try simp only [dcl] at hc1
  refine sv hF (v_move rfl) rfl ?_; clear hF a; intro a hF
  refine svg hF rfl ?_
  refine sv hF (v_move rfl) rfl ?_; clear hF a; intro a hF
  refine svg hF rfl ?_
  refine sv2w hK hF (v_lss rfl rfl) (v_pickF rfl rfl) rfl rfl ?_; clear hF a hK K; intro a hF
  replace hF := hF.sub _ (c_ 16 rfl (c_ 8 rfl (c_ 1 rfl (c_ 2 rfl (c_ 3 rfl (n_))))))
  refine W_if hF rfl (fun hc2 => ?_) (fun hc2 => ?_)
  ·
   skip
   try simp only [dcl] at hc2
   refine W_sr rfl fun K hK => ?_
   refine svw hK hF (v_assign rfl) rfl ?_; clear hF a hK K; intro a hF
   replace hF := hF.sub _ (c_ 8 rfl (c_ 1 rfl (c_ 2 rfl (c_ 3 rfl (n_)))))
   refine W_ret ?_
   refine ⟨_, _, hF, rfl, ?_⟩
   exact ⟨by rw [gpow_out (.inr (by omega))], hS⟩
  ·
   skip
   try simp only [dcl] at hc2
   refine W_skip ?_
   obtain ⟨x, rfl, hx⟩ := inF_nat hc1
   obtain ⟨m, rfl⟩ : ∃ m : Nat, n = (m : Int) := ⟨n.toNat, by omega⟩
   have hml := hp.pow_lt x m
   refine W_sr rfl fun K hK => ?_
   refine sv5 hF (v_move rfl) (v_cv Tryz.underlying3 Tryz.underlying25 rfl (wrap_u32 _ (by omega))) (v_move rfl) (v_cv Tryz.underlying3 Tryz.underlying113 rfl (wrap_u64 _ (by omega))) (v_move rfl) rfl rfl rfl rfl rfl ?_; clear hF a; intro a hF
   refine sc hF rfl rfl rfl en113 rfl (rPower_ok B x m p _ hS.inv (by omega) (by omega) (by omega)) ?_; clear hF a; intro v w' a hv hF
   obtain ⟨rfl, hS'⟩ := hv
   replace hS := hS.trans hS'
   clear hS'
   rw [powB_one] at hF
   refine sv2w hK hF (v_cv Tryz.underlying25 Tryz.underlying3 rfl (wrap_i64 _ (by omega))) (v_assign rfl) rfl rfl ?_; clear hF a hK K; intro a hF
   replace hF := hF.sub _ (c_ 8 rfl (n_))
   refine W_ret ?_
   refine ⟨_, _, hF, rfl, ?_⟩
   exact ⟨by rw [gpow_in hx], hS⟩
set_option maxRecDepth 100000 in
set_option maxHeartbeats 1000000 in
theorem rInv_gf (B wb p : Nat) (ia : Int) (w : World) (hI : Inv FDx B w) (hp : Prm wb p) : Ret Tryz.prog 93 [.int .i64 (wb : Int), .int .u32 (p : Int), .int .i64 ia] w fun v w' => v = .tuple #[.int .i64 (ginv (some (wb, p)) ia), .bool (ginvb (some (wb, p)) ia)] ∧ St FDx B w w' := by
 refine enter2 23 [(0, .int .i64 (wb : Int)), (1, .int .u32 (p : Int)), (2, .int .i64 ia)] 6 7 Tryz.func93 rfl rfl rfl rfl rfl ?_; intro a hF
 have hS := St.refl hI
 have hsz := hp.size
 have hwb : wb ≤ 16 := by have := hp.w; omega
 have hplt := hp.lt
 refine W_sr rfl fun K hK => ?_
 refine sv2w hK hF (v_assign rfl) (v_assign rfl) rfl rfl ?_; clear hF a hK K; intro a hF
 refine W_seq ?_
 refine W_sr rfl fun K hK => ?_
 refine sv2 hF (v_move rfl) (v_move rfl) rfl rfl ?_; clear hF a; intro a hF
 refine sc hF rfl rfl rfl en92 rfl (rIn_ok B wb p ia _ hS.inv (by omega)) ?_; clear hF a; intro v w' a hv hF
 obtain ⟨rfl, hw⟩ := hv
 obtain rfl := hw.symm
 have hS' := St.refl hS.inv
 replace hS := hS.trans hS'
 clear hS'
 refine sb hF (v_not rfl) rfl ?_ ?_
 ·
  clear hF a; intro hc1 a hF
  try simp only [dcl] at hc1
  refine sv hF (v_move rfl) rfl ?_; clear hF a; intro a hF
  refine svn2 hF rfl rfl rfl rfl rfl rfl ?_; clear hF a; intro a hF
  refine svw hK hF (v_pickT rfl rfl) rfl ?_; clear hF a hK K; intro a hF
  replace hF := hF.sub _ (c_ 15 rfl (c_ 7 rfl (c_ 6 rfl (c_ 0 rfl (c_ 1 rfl (c_ 2 rfl (n_)))))))
  refine W_ifT hF rfl ?_
  refine W_sr rfl fun K hK => ?_
  refine sv2w hK hF (v_assign rfl) (v_assign rfl) rfl rfl ?_; clear hF a hK K; intro a hF
  replace hF := hF.sub _ (c_ 7 rfl (c_ 6 rfl (c_ 0 rfl (c_ 1 rfl (c_ 2 rfl (n_))))))
  refine W_ret ?_
  refine ⟨_, _, _, hF, rfl, rfl, ?_⟩
  exact ⟨by rw [ginv_out (.inl hc1), ginvb_out (.inl hc1)], hS⟩
 ·
  clear hF a; intro hc1 a hF
  try simp only [dcl] at hc1
  refine sv hF (v_move rfl) rfl ?_; clear hF a; intro a hF
  refine svg hF rfl ?_
  refine sv hF (v_move rfl) rfl ?_; clear hF a; intro a hF
  refine svg hF rfl ?_
  refine sv2w hK hF (v_eql rfl rfl) (v_pickF rfl rfl) rfl rfl ?_; clear hF a hK K; intro a hF
  replace hF := hF.sub _ (c_ 15 rfl (c_ 7 rfl (c_ 6 rfl (c_ 0 rfl (c_ 1 rfl (c_ 2 rfl (n_)))))))
  refine W_if hF rfl (fun hc2 => ?_) (fun hc2 => ?_)
  ·
   skip
   try simp only [dcl] at hc2
   refine W_sr rfl fun K hK => ?_
   refine sv2w hK hF (v_assign rfl) (v_assign rfl) rfl rfl ?_; clear hF a hK K; intro a hF
   replace hF := hF.sub _ (c_ 7 rfl (c_ 6 rfl (c_ 0 rfl (c_ 1 rfl (c_ 2 rfl (n_))))))
   refine W_ret ?_
   refine ⟨_, _, _, hF, rfl, rfl, ?_⟩
   exact ⟨by rw [ginv_out (.inr (by omega)), ginvb_out (.inr (by omega))], hS⟩
  ·
   skip
   try simp only [dcl] at hc2
   refine W_skip ?_
   refine W_sr rfl fun K hK => ?_
   refine sv4 hF (v_move rfl) (v_move rfl) (v_move rfl) (v_move rfl) rfl rfl rfl rfl ?_; clear hF a; intro a hF
   refine sc hF rfl rfl rfl en94 rfl (rsize_ok wb _ (by omega)) ?_; clear hF a; intro v w' a hv hF
   obtain ⟨rfl, hw⟩ := hv
   obtain rfl := hw.symm
   have hS' := St.refl hS.inv
   replace hS := hS.trans hS'
   clear hS'
   refine sv hF (v_subI rfl rfl (by omega)) rfl ?_; clear hF a; intro a hF
   refine sc hF rfl rfl rfl en95 rfl (rPow_gf B wb p ia _ _ hS.inv hp (by omega)) ?_; clear hF a; intro v w' a hv hF
   obtain ⟨rfl, hS'⟩ := hv
   replace hS := hS.trans hS'
   clear hS'
   refine sv2w hK hF (v_assign rfl) (v_assign rfl) rfl rfl ?_; clear hF a hK K; intro a hF
   replace hF := hF.sub _ (c_ 7 rfl (c_ 6 rfl (n_)))
   refine W_ret ?_
   refine ⟨_, _, _, hF, rfl, rfl, ?_⟩
   exact ⟨by rw [ginv_in hc1 (by omega), ginvb_in hc1 (by omega)]; rfl, hS⟩
set_option maxRecDepth 100000 in
set_option maxHeartbeats 1000000 in
theorem rDiv_gf (B wb p : Nat) (ia ib : Int) (w : World) (hI : Inv FDx B w) (hp : Prm wb p) : Ret Tryz.prog 91 [.int .i64 (wb : Int), .int .u32 (p : Int), .int .i64 ia, .int .i64 ib] w fun v w' => v = .tuple #[.int .i64 (gdiv (some (wb, p)) ia ib), .bool (gdivb (some (wb, p)) ia ib)] ∧ St FDx B w w' := by
 refine enter2 32 [(0, .int .i64 (wb : Int)), (1, .int .u32 (p : Int)), (2, .int .i64 ia), (3, .int .i64 ib)] 8 9 Tryz.func91 rfl rfl rfl rfl rfl ?_; intro a hF
 have hS := St.refl hI
 have hsz := hp.size
 have hwb : wb ≤ 16 := by have := hp.w; omega
 have hplt := hp.lt
 refine W_sr rfl fun K hK => ?_
 refine sv2w hK hF (v_assign rfl) (v_assign rfl) rfl rfl ?_; clear hF a hK K; intro a hF
 refine W_sr rfl fun K hK => ?_
 refine sv3 hF (v_move rfl) (v_move rfl) (v_move rfl) rfl rfl rfl ?_; clear hF a; intro a hF
 refine sc hF rfl rfl rfl en93 rfl (rInv_gf B wb p ib _ hS.inv hp) ?_; clear hF a; intro v w' a hv hF
 obtain ⟨rfl, hS'⟩ := hv
 replace hS := hS.trans hS'
 clear hS'
 refine sv5w hK hF (v_move rfl) (v_ext rfl rfl) (v_ext rfl rfl) (v_assign rfl) (v_assign rfl) rfl rfl rfl rfl rfl ?_; clear hF a hK K; intro a hF
 replace hF := hF.sub _ (c_ 11 rfl (c_ 10 rfl (c_ 9 rfl (c_ 8 rfl (c_ 0 rfl (c_ 1 rfl (c_ 2 rfl (n_))))))))
 refine W_seq ?_
 refine W_sr rfl fun K hK => ?_
 refine sv hF (v_move rfl) rfl ?_; clear hF a; intro a hF
 refine sb hF (v_not rfl) rfl ?_ ?_
 ·
  clear hF a; intro hc1 a hF
  try simp only [dcl] at hc1
  refine sv hF (v_move rfl) rfl ?_; clear hF a; intro a hF
  refine svn4 hF rfl rfl rfl rfl rfl rfl rfl rfl rfl rfl rfl rfl ?_; clear hF a; intro a hF
  refine svw hK hF (v_pickT rfl rfl) rfl ?_; clear hF a hK K; intro a hF
  replace hF := hF.sub _ (c_ 26 rfl (c_ 10 rfl (c_ 9 rfl (c_ 8 rfl (c_ 0 rfl (c_ 1 rfl (c_ 2 rfl (n_))))))))
  refine W_ifT hF rfl ?_
  refine W_sr rfl fun K hK => ?_
  refine sv2w hK hF (v_assign rfl) (v_assign rfl) rfl rfl ?_; clear hF a hK K; intro a hF
  replace hF := hF.sub _ (c_ 9 rfl (c_ 8 rfl (c_ 10 rfl (c_ 0 rfl (c_ 1 rfl (c_ 2 rfl (n_)))))))
  refine W_ret ?_
  refine ⟨_, _, _, hF, rfl, rfl, ?_⟩
  have hd : gdivb (some (wb, p)) ia ib = false := by rw [gdivb_eq, hc1]; rfl
  exact ⟨by rw [gdiv_out hd, hd], hS⟩
 ·
  clear hF a; intro hc1 a hF
  try simp only [dcl] at hc1
  refine sv hF (v_move rfl) rfl ?_; clear hF a; intro a hF
  refine svg hF rfl ?_
  refine sv hF (v_move rfl) rfl ?_; clear hF a; intro a hF
  refine svg hF rfl ?_
  refine sv hF (v_move rfl) rfl ?_; clear hF a; intro a hF
  refine svg hF rfl ?_
  refine sc hF rfl rfl rfl en92 rfl (rIn_ok B wb p ia _ hS.inv (by omega)) ?_; clear hF a; intro v w' a hv hF
  obtain ⟨rfl, hw⟩ := hv
  obtain rfl := hw.symm
  have hS' := St.refl hS.inv
  replace hS := hS.trans hS'
  clear hS'
  refine svg hF rfl ?_
  refine sv2w hK hF (v_not rfl) (v_pickF rfl rfl) rfl rfl ?_; clear hF a hK K; intro a hF
  replace hF := hF.sub _ (c_ 26 rfl (c_ 10 rfl (c_ 9 rfl (c_ 8 rfl (c_ 0 rfl (c_ 1 rfl (c_ 2 rfl (n_))))))))
  refine W_if hF rfl (fun hc2 => ?_) (fun hc2 => ?_)
  ·
   skip
   try simp only [dcl] at hc2
   refine W_sr rfl fun K hK => ?_
   refine sv2w hK hF (v_assign rfl) (v_assign rfl) rfl rfl ?_; clear hF a hK K; intro a hF
   replace hF := hF.sub _ (c_ 9 rfl (c_ 8 rfl (c_ 10 rfl (c_ 0 rfl (c_ 1 rfl (c_ 2 rfl (n_)))))))
   refine W_ret ?_
   refine ⟨_, _, _, hF, rfl, rfl, ?_⟩
   have hd : gdivb (some (wb, p)) ia ib = false := by rw [gdivb_eq, hc2]; simp
   exact ⟨by rw [gdiv_out hd, hd], hS⟩
  ·
   skip
   try simp only [dcl] at hc2
   refine W_skip ?_
   refine W_sr rfl fun K hK => ?_
   refine sv4 hF (v_move rfl) (v_move rfl) (v_move rfl) (v_move rfl) rfl rfl rfl rfl ?_; clear hF a; intro a hF
   refine sc hF rfl rfl rfl en90 rfl (rMul_gf B wb p ia _ _ hS.inv hp) ?_; clear hF a; intro v w' a hv hF
   obtain ⟨rfl, hS'⟩ := hv
   replace hS := hS.trans hS'
   clear hS'
   refine sv2w hK hF (v_assign rfl) (v_assign rfl) rfl rfl ?_; clear hF a hK K; intro a hF
   replace hF := hF.sub _ (c_ 9 rfl (c_ 8 rfl (n_)))
   refine W_ret ?_
   refine ⟨_, _, _, hF, rfl, rfl, ?_⟩
   have hd : gdivb (some (wb, p)) ia ib = true := by rw [gdivb_eq, hc1, hc2]; rfl
   exact ⟨by rw [gdiv_in hd, hd], hS⟩
set_option maxRecDepth 100000 in
set_option maxHeartbeats 1000000 in
theorem rExp_gf (B wb p : Nat) (n : Int) (w : World) (hI : Inv FDx B w) (hp : Prm wb p) (hn : -9223372036854775808 ≤ n ∧ n < 9223372036854775808) : Ret Tryz.prog 67 [.int .i64 (wb : Int), .int .u32 (p : Int), .int .i64 n] w fun v w' => v = .int .i64 (gexp (some (wb, p)) n) ∧ St FDx B w w' := by
 refine enter 23 [(0, .int .i64 (wb : Int)), (1, .int .u32 (p : Int)), (2, .int .i64 n)] 6 Tryz.func67 rfl rfl rfl rfl rfl ?_; intro a hF
 have hS := St.refl hI
 have hsz := hp.size
 have hwb : wb ≤ 16 := by have := hp.w; omega
 have hplt := hp.lt
 have horder := hp.order
 have htm := tmod_bd n (m := 2 ^ wb - 1) (by omega)
 have hidx := exp_index n (m := 2 ^ wb - 1) (by omega)
 refine W_sr rfl fun K hK => ?_
 refine svw hK hF (v_assign rfl) rfl ?_; clear hF a hK K; intro a hF
 refine W_sr rfl fun K hK => ?_
 refine sv hF (v_move rfl) rfl ?_; clear hF a; intro a hF
 refine sc hF rfl rfl rfl en94 rfl (rsize_ok wb _ (by omega)) ?_; clear hF a; intro v w' a hv hF
 obtain ⟨rfl, hw⟩ := hv
 obtain rfl := hw.symm
 have hS' := St.refl hS.inv
 replace hS := hS.trans hS'
 clear hS'
 refine sv2w hK hF (v_subN (m := 2 ^ wb) (n := 1) rfl rfl (by omega) (by omega)) (v_assign rfl) rfl rfl ?_; clear hF a hK K; intro a hF
 replace hF := hF.sub _ (c_ 7 rfl (c_ 6 rfl (c_ 0 rfl (c_ 1 rfl (c_ 2 rfl (n_))))))
 refine W_sr rfl fun K hK => ?_
 refine sv4w hK hF (v_move rfl) (v_move rfl) (v_rem rfl rfl (by omega)) (v_assign rfl) rfl rfl rfl rfl ?_; clear hF a hK K; intro a hF
 replace hF := hF.sub _ (c_ 2 rfl (c_ 7 rfl (c_ 6 rfl (c_ 0 rfl (c_ 1 rfl (n_))))))
 refine W_seq ?_
 refine W_sr rfl fun K hK => ?_
 refine sv2w hK hF (v_move rfl) (v_lss rfl rfl) rfl rfl ?_; clear hF a hK K; intro a hF
 replace hF := hF.sub _ (c_ 15 rfl (c_ 2 rfl (c_ 7 rfl (c_ 6 rfl (c_ 0 rfl (c_ 1 rfl (n_)))))))
 refine W_if hF rfl (fun hc1 => ?_) (fun hc1 => ?_)
 ·
  skip
  try simp only [dcl] at hc1
  rw [Int.emod_eq_of_lt (by omega) (by omega)] at hidx
  refine W_reg rfl fun K hK => ?_
  refine sv4w hK hF (v_move rfl) (v_move rfl) (v_addI rfl rfl (by omega)) (v_assign rfl) rfl rfl rfl rfl ?_; clear hF a hK K; intro a hF
  replace hF := hF.sub _ (c_ 2 rfl (c_ 6 rfl (c_ 0 rfl (c_ 1 rfl (n_)))))
  rw [hidx] at hF
  obtain ⟨i, hi⟩ : ∃ i : Nat, n % ((2 ^ wb - 1 : Nat) : Int) = (i : Int) := ⟨(n % ((2 ^ wb - 1 : Nat) : Int)).toNat, by have := Int.emod_nonneg n (show ((2 ^ wb - 1 : Nat) : Int) ≠ 0 by omega); omega⟩
  rw [hi] at hF
  have hi2 := Int.emod_lt_of_pos n (show (0 : Int) < ((2 ^ wb - 1 : Nat) : Int) by omega)
  rw [hi] at hi2
  refine W_sr rfl fun K hK => ?_
  refine sv3 hF (v_move rfl) (v_move rfl) (v_move rfl) rfl rfl rfl ?_; clear hF a; intro a hF
  refine sc hF rfl rfl rfl en95 rfl (rPow_gf B wb p 2 _ _ hS.inv hp (by omega)) ?_; clear hF a; intro v w' a hv hF
  obtain ⟨rfl, hS'⟩ := hv
  replace hS := hS.trans hS'
  clear hS'
  refine svw hK hF (v_assign rfl) rfl ?_; clear hF a hK K; intro a hF
  replace hF := hF.sub _ (c_ 6 rfl (n_))
  refine W_ret ?_
  refine ⟨_, _, hF, rfl, ?_⟩
  refine ⟨?_, hS⟩
  rw [show (2 : Int) = ((2 : Nat) : Int) from rfl, gpow_in (by omega), hp.pw_x]
  rw [show gexp (some (wb, p)) n = (Px.pw p (n % ((2 ^ wb - 1 : Nat) : Int)).toNat : Int) from rfl, hi]; rfl
 ·
  skip
  try simp only [dcl] at hc1
  rw [Int.add_emod_right, Int.emod_eq_of_lt (by omega) (by omega)] at hidx
  refine W_skip ?_
  rw [hidx] at hF
  obtain ⟨i, hi⟩ : ∃ i : Nat, n % ((2 ^ wb - 1 : Nat) : Int) = (i : Int) := ⟨(n % ((2 ^ wb - 1 : Nat) : Int)).toNat, by have := Int.emod_nonneg n (show ((2 ^ wb - 1 : Nat) : Int) ≠ 0 by omega); omega⟩
  rw [hi] at hF
  have hi2 := Int.emod_lt_of_pos n (show (0 : Int) < ((2 ^ wb - 1 : Nat) : Int) by omega)
  rw [hi] at hi2
  refine W_sr rfl fun K hK => ?_
  refine sv3 hF (v_move rfl) (v_move rfl) (v_move rfl) rfl rfl rfl ?_; clear hF a; intro a hF
  refine sc hF rfl rfl rfl en95 rfl (rPow_gf B wb p 2 _ _ hS.inv hp (by omega)) ?_; clear hF a; intro v w' a hv hF
  obtain ⟨rfl, hS'⟩ := hv
  replace hS := hS.trans hS'
  clear hS'
  refine svw hK hF (v_assign rfl) rfl ?_; clear hF a hK K; intro a hF
  replace hF := hF.sub _ (c_ 6 rfl (n_))
  refine W_ret ?_
  refine ⟨_, _, hF, rfl, ?_⟩
  refine ⟨?_, hS⟩
  rw [show (2 : Int) = ((2 : Nat) : Int) from rfl, gpow_in (by omega), hp.pw_x]
  rw [show gexp (some (wb, p)) n = (Px.pw p (n % ((2 ^ wb - 1 : Nat) : Int)).toNat : Int) from rfl, hi]; rfl
noncomputable def knownB (W : Int) (p : Nat) : Bool := (newF W p).isSome
end Go.Proofs.YtkoiolamnnmokaaGreat

/- The walks of gambrelref04: what the document asks of matrices. -/
namespace Go.Proofs.YtkoiolamnnmokaaGreat
open Go Go.Gam
namespace FxFRef04
theorem en92 : Ent Tryz.prog 92 := ent Tryz.func92 (by kernel_rfl) (by kernel_rfl)
theorem hmix : Tryz.prog.follows .mixedOrders = true := by kernel_rfl
theorem sc3 : Scalar Tryz.prog 3 := ⟨_, Tryz.underlying3, by simp, by simp⟩
theorem sc53 : Scalar Tryz.prog 53 := ⟨_, Tryz.underlying53, by simp, by simp⟩
theorem sl35 : Sl Tryz.prog 35 53 (.slice none 0 0) 24 := sl_of Tryz.underlying35 rfl (by kernel_rfl)
theorem sl53 : Sl Tryz.prog 53 3 (.int .i64 0) 8 := sl_of Tryz.underlying53 rfl (by kernel_rfl)
end FxFRef04
open FxFRef04
set_option maxRecDepth 100000 in
set_option maxHeartbeats 1000000 in
theorem rMay_ok (B M wb p : Nat) (hp : Prm wb p) (pmt : Option Addr) (cmt : Nat) (mt : Mtx) (w : World) (hI : Inv FDx B w) (hAmt : Mat FDx B M w pmt cmt mt) (hlmt : mt.length ≤ maxLen) (hbmt : ∀ r ∈ mt, r.length ≤ maxLen) : Ret Tryz.prog 88 [.int .i64 (wb : Int), .slice pmt mt.length cmt] w fun v w' => v = .bool (mayM (some (wb, p)) mt) ∧ St FDx B w w' := by
 refine enter 64 [(0, .int .i64 (wb : Int)), (1, .slice pmt mt.length cmt)] 4 Tryz.func88 rfl rfl rfl rfl rfl ?_; intro a hF
 have hS := St.refl hI
 have hl2 := hlmt
 simp only [maxLen] at hl2
 have hwb : wb ≤ 16 := by have := hp.w; omega
 refine W_sr rfl fun K hK => ?_
 refine svw hK hF (v_assign rfl) rfl ?_; clear hF a hK K; intro a hF
 refine W_seq ?_
 refine W_sr rfl fun K hK => ?_
 refine sv2 hF (v_move rfl) (v_lenS rfl sl35 rfl) rfl rfl ?_; clear hF a; intro a hF
 refine sb hF (v_lss rfl rfl) rfl ?_ ?_
 ·
  clear hF a; intro hc1 a hF
  try simp only [dcl] at hc1
  refine sv hF (v_move rfl) rfl ?_; clear hF a; intro a hF
  refine svn3 hF rfl rfl rfl rfl rfl rfl rfl rfl rfl ?_; clear hF a; intro a hF
  refine sv2 hF (v_pickT rfl rfl) (v_move rfl) rfl rfl ?_; clear hF a; intro a hF
  refine svn5 hF rfl rfl rfl rfl rfl rfl rfl rfl rfl rfl rfl rfl rfl rfl rfl ?_; clear hF a; intro a hF
  refine sv2 hF (v_pickT rfl rfl) (v_move rfl) rfl rfl ?_; clear hF a; intro a hF
  refine svn5 hF rfl rfl rfl rfl rfl rfl rfl rfl rfl rfl rfl rfl rfl rfl rfl ?_; clear hF a; intro a hF
  refine svw hK hF (v_pickT rfl rfl) rfl ?_; clear hF a hK K; intro a hF
  replace hF := hF.sub _ (c_ 28 rfl (c_ 4 rfl (c_ 0 rfl (c_ 1 rfl (n_)))))
  refine W_ifT hF rfl ?_
  refine W_sr rfl fun K hK => ?_
  refine svw hK hF (v_assign rfl) rfl ?_; clear hF a hK K; intro a hF
  replace hF := hF.sub _ (c_ 4 rfl (c_ 0 rfl (c_ 1 rfl (n_))))
  refine W_ret ?_
  refine ⟨_, _, hF, rfl, ?_⟩
  rw [mayM_no (fun h => by omega)]
  exact ⟨rfl, hS⟩
 ·
  clear hF a; intro hc1 a hF
  try simp only [dcl] at hc1
  refine sv hF (v_move rfl) rfl ?_; clear hF a; intro a hF
  refine svg hF rfl ?_
  refine sv hF (v_move rfl) rfl ?_; clear hF a; intro a hF
  refine svg hF rfl ?_
  refine sv hF (v_lenS rfl sl35 rfl) rfl ?_; clear hF a; intro a hF
  refine svg hF rfl ?_
  refine sb hF (v_gtr rfl rfl) rfl ?_ ?_
  ·
   clear hF a; intro hc2 a hF
   try simp only [dcl] at hc2
   refine sv2 hF (v_pickF rfl rfl) (v_move rfl) rfl rfl ?_; clear hF a; intro a hF
   refine svn5 hF rfl rfl rfl rfl rfl rfl rfl rfl rfl rfl rfl rfl rfl rfl rfl ?_; clear hF a; intro a hF
   refine sv2 hF (v_pickT rfl rfl) (v_move rfl) rfl rfl ?_; clear hF a; intro a hF
   refine svn5 hF rfl rfl rfl rfl rfl rfl rfl rfl rfl rfl rfl rfl rfl rfl rfl ?_; clear hF a; intro a hF
   refine svw hK hF (v_pickT rfl rfl) rfl ?_; clear hF a hK K; intro a hF
   replace hF := hF.sub _ (c_ 28 rfl (c_ 4 rfl (c_ 0 rfl (c_ 1 rfl (n_)))))
   refine W_ifT hF rfl ?_
   refine W_sr rfl fun K hK => ?_
   refine svw hK hF (v_assign rfl) rfl ?_; clear hF a hK K; intro a hF
   replace hF := hF.sub _ (c_ 4 rfl (c_ 0 rfl (c_ 1 rfl (n_))))
   refine W_ret ?_
   refine ⟨_, _, hF, rfl, ?_⟩
   rw [mayM_no (fun h => by omega)]
   exact ⟨rfl, hS⟩
  ·
   clear hF a; intro hc2 a hF
   try simp only [dcl] at hc2
   refine sv2 hF (v_pickF rfl rfl) (v_move rfl) rfl rfl ?_; clear hF a; intro a hF
   refine svg hF rfl ?_
   refine sv hF (v_move rfl) rfl ?_; clear hF a; intro a hF
   refine svg hF rfl ?_
   obtain ⟨gmt, omt, rfl⟩ := hAmt.at1 (by omega)
   obtain ⟨r0mt, h0mt⟩ : ∃ r, mt[0]? = some r := ⟨_, List.getElem?_eq_getElem (by omega)⟩
   obtain ⟨p0mt, c0mt, hk0mt, hrow0mt, -⟩ := hAmt.row2 h0mt
   have hwmt := wid_at h0mt
   refine sv hF (v_ixS sl35 rfl rfl (by decide) (by omega)) rfl ?_; clear hF a; intro a hF
   refine svg hF rfl ?_
   refine sv hF (v_load sc53 rfl hk0mt.c) rfl ?_; clear hF a; intro a hF
   refine svg hF rfl ?_
   refine sv hF (v_lenS rfl sl53 rfl) rfl ?_; clear hF a; intro a hF
   refine svg hF rfl ?_
   refine sb hF (v_lss rfl rfl) rfl ?_ ?_
   ·
    clear hF a; intro hc3 a hF
    try simp only [dcl] at hc3
    refine sv2 hF (v_pickF rfl rfl) (v_move rfl) rfl rfl ?_; clear hF a; intro a hF
    refine svn5 hF rfl rfl rfl rfl rfl rfl rfl rfl rfl rfl rfl rfl rfl rfl rfl ?_; clear hF a; intro a hF
    refine svw hK hF (v_pickT rfl rfl) rfl ?_; clear hF a hK K; intro a hF
    replace hF := hF.sub _ (c_ 28 rfl (c_ 4 rfl (c_ 0 rfl (c_ 1 rfl (n_)))))
    refine W_ifT hF rfl ?_
    refine W_sr rfl fun K hK => ?_
    refine svw hK hF (v_assign rfl) rfl ?_; clear hF a hK K; intro a hF
    replace hF := hF.sub _ (c_ 4 rfl (c_ 0 rfl (c_ 1 rfl (n_))))
    refine W_ret ?_
    refine ⟨_, _, hF, rfl, ?_⟩
    rw [mayM_no (fun h => by omega)]
    exact ⟨rfl, hS⟩
   ·
    clear hF a; intro hc3 a hF
    try simp only [dcl] at hc3
    refine sv2 hF (v_pickF rfl rfl) (v_move rfl) rfl rfl ?_; clear hF a; intro a hF
    refine svg hF rfl ?_
    refine sv hF (v_move rfl) rfl ?_; clear hF a; intro a hF
    refine svg hF rfl ?_
    refine sv hF (v_ixS sl35 rfl rfl (by decide) (by omega)) rfl ?_; clear hF a; intro a hF
    refine svg hF rfl ?_
    refine sv hF (v_load sc53 rfl hk0mt.c) rfl ?_; clear hF a; intro a hF
    refine svg hF rfl ?_
    refine sv hF (v_lenS rfl sl53 rfl) rfl ?_; clear hF a; intro a hF
    refine svg hF rfl ?_
    refine sv2w hK hF (v_gtr rfl rfl) (v_pickF rfl rfl) rfl rfl ?_; clear hF a hK K; intro a hF
    replace hF := hF.sub _ (c_ 28 rfl (c_ 4 rfl (c_ 0 rfl (c_ 1 rfl (n_)))))
    refine W_if hF rfl (fun hc4 => ?_) (fun hc4 => ?_)
    ·
     skip
     try simp only [dcl] at hc4
     refine W_sr rfl fun K hK => ?_
     refine svw hK hF (v_assign rfl) rfl ?_; clear hF a hK K; intro a hF
     replace hF := hF.sub _ (c_ 4 rfl (c_ 0 rfl (c_ 1 rfl (n_))))
     refine W_ret ?_
     refine ⟨_, _, hF, rfl, ?_⟩
     rw [mayM_no (fun h => by omega)]
     exact ⟨rfl, hS⟩
    ·
     skip
     try simp only [dcl] at hc4
     refine W_skip ?_
     refine W_seq ?_
     refine W_sr rfl fun K hK => ?_
     refine svw hK hF (v_assign rfl) rfl ?_; clear hF a hK K; intro a hF
     replace hF := hF.sub _ (c_ 5 rfl (c_ 4 rfl (c_ 0 rfl (c_ 1 rfl (n_)))))
     refine W_block ?_
     refine W_loop (fun m a w1 => ∃ (i : Nat), Fr 64 [(0, .int .i64 (wb : Int)), (1, .slice (some ⟨gmt, omt, none⟩) mt.length cmt), (5, .int .i64 (i : Int))] a ∧ (St FDx B w w1) ∧ (Mat FDx B M w1 (some ⟨gmt, omt, none⟩) cmt mt) ∧ (i ≤ mt.length) ∧ (∀ r ∈ mt.take i, r.length = wid mt ∧ ∀ x ∈ r, inF (some (wb, p)) x = true) ∧ (m + i = mt.length)) (mt.length) ?_ ?_
     ·
      skip
      exact ⟨0, hF.sub _ (c_ 0 rfl (c_ 1 rfl (c_ 5 rfl (n_)))), hS, hAmt, by omega, by simp, by omega⟩
     ·
      skip
      clear hF
      clear hS hAmt hk0mt hrow0mt
      rintro m a w1 ⟨i, hF, hS, hAmt, hi, hn, hm⟩
      refine W_seq ?_
      refine W_sr rfl fun K hK => ?_
      refine sv4w hK hF (v_move rfl) (v_move rfl) (v_lenS rfl sl35 rfl) (v_lss rfl rfl) rfl rfl rfl rfl ?_; clear hF a hK K; intro a hF
      replace hF := hF.sub _ (c_ 32 rfl (c_ 0 rfl (c_ 1 rfl (c_ 5 rfl (n_)))))
      refine W_if hF rfl (fun hc5 => ?_) (fun hc5 => ?_)
      ·
       skip
       try simp only [dcl] at hc5
       have hlt : i < mt.length := by omega
       obtain ⟨r, hr⟩ : ∃ z, mt[i]? = some z := ⟨_, List.getElem?_eq_getElem (by omega)⟩
       obtain ⟨pr, cr, hkr, hrowr, -⟩ := hAmt.row2 hr
       obtain ⟨p0, c0, hk0, -⟩ := hAmt.row2 h0mt
       refine W_skip ?_
       refine W_seq ?_
       refine W_block ?_
       refine W_seq ?_
       refine W_sd (m := 10) rfl hmix hS.inv (fun K hK w1 hS' hh => ?_)
       replace hAmt := hAmt.st hS'
       replace hkr := hkr.st hS'
       replace hk0 := hk0.st hS'
       replace hrowr := hrowr.st hS'
       replace hS := hS.trans hS'
       clear hS'
       clear hh
       refine a_v (i := 0) rfl (by kernel_rfl) hF (fun w2 hx => v_move rfl) rfl ?_; clear hF a; intro a hF
       refine a_v (i := 1) rfl (by kernel_rfl) hF (fun w2 hx => v_move rfl) rfl ?_; clear hF a; intro a hF
       refine a_v (i := 2) rfl (by kernel_rfl) hF (fun w2 hx => v_ixS sl35 rfl rfl (by omega) (by omega)) rfl ?_; clear hF a; intro a hF
       refine a_v (i := 3) rfl (by kernel_rfl) hF (fun w2 hx => v_load sc53 rfl (by rw [toNat_c]; exact hkr.ld hx)) rfl ?_; clear hF a; intro a hF
       refine a_v (i := 4) rfl (by kernel_rfl) hF (fun w2 hx => v_lenS rfl sl53 rfl) rfl ?_; clear hF a; intro a hF
       refine a_v (i := 5) rfl (by kernel_rfl) hF (fun w2 hx => v_move rfl) rfl ?_; clear hF a; intro a hF
       refine a_v (i := 6) rfl (by kernel_rfl) hF (fun w2 hx => v_ixS sl35 rfl rfl (by decide) (by omega)) rfl ?_; clear hF a; intro a hF
       refine a_v (i := 7) rfl (by kernel_rfl) hF (fun w2 hx => v_load sc53 rfl (hk0.ld hx)) rfl ?_; clear hF a; intro a hF
       refine a_v (i := 8) rfl (by kernel_rfl) hF (fun w2 hx => v_lenS rfl sl53 rfl) rfl ?_; clear hF a; intro a hF
       refine a_v (i := 9) rfl (by kernel_rfl) hF (fun w2 hx => v_neq rfl rfl) rfl ?_; clear hF a; intro a hF
       refine a_done (by kernel_rfl) (hK _ _ ?_)
       clear hK K
       replace hF := hF.sub _ (c_ 44 rfl (c_ 0 rfl (c_ 1 rfl (c_ 5 rfl (n_)))))
       refine W_if hF rfl (fun hc6 => ?_) (fun hc6 => ?_)
       ·
        skip
        try simp only [dcl] at hc6
        refine W_sr rfl fun K hK => ?_
        refine svw hK hF (v_assign rfl) rfl ?_; clear hF a hK K; intro a hF
        replace hF := hF.sub _ (c_ 4 rfl (c_ 0 rfl (c_ 1 rfl (c_ 5 rfl (n_)))))
        refine W_ret ?_
        refine ⟨_, _, hF, rfl, ?_⟩
        rw [mayM_no (fun h => by have := (h.2.2.2.2 r (List.mem_of_getElem? hr)).1; omega)]
        exact ⟨rfl, hS⟩
       ·
        skip
        try simp only [dcl] at hc6
        refine W_skip ?_
        refine W_sr rfl fun K hK => ?_
        refine svw hK hF (v_assign rfl) rfl ?_; clear hF a hK K; intro a hF
        replace hF := hF.sub _ (c_ 6 rfl (c_ 0 rfl (c_ 1 rfl (c_ 5 rfl (n_)))))
        refine W_block ?_
        refine W_loop (fun m2 a w2 => ∃ (j : Nat), Fr 64 [(0, .int .i64 (wb : Int)), (1, .slice (some ⟨gmt, omt, none⟩) mt.length cmt), (5, .int .i64 (i : Int)), (6, .int .i64 (j : Int))] a ∧ (St FDx B w w2) ∧ (Mat FDx B M w2 (some ⟨gmt, omt, none⟩) cmt mt) ∧ (j ≤ r.length) ∧ (∀ x ∈ r.take j, inF (some (wb, p)) x = true) ∧ (m2 + j = r.length)) (r.length) ?_ ?_
        ·
         skip
         exact ⟨0, hF.sub _ (c_ 0 rfl (c_ 1 rfl (c_ 5 rfl (c_ 6 rfl (n_))))), hS, hAmt, by omega, by simp, by omega⟩
        ·
         skip
         clear hF
         clear hS hAmt hkr hrowr
         rintro m2 a w2 ⟨j, hF, hS, hAmt, hj, hn2, hm2⟩
         refine W_seq ?_
         obtain ⟨pr, cr, hkr, hrowr, -⟩ := hAmt.row2 hr
         refine W_sr rfl fun K hK => ?_
         refine sv4 hF (v_move rfl) (v_move rfl) (v_move rfl) (v_ixS sl35 rfl rfl (by omega) (by omega)) rfl rfl rfl rfl ?_; clear hF a; intro a hF
         refine sv hF (v_load sc53 rfl (by rw [toNat_c]; exact hkr.c)) rfl ?_; clear hF a; intro a hF
         refine sv2w hK hF (v_lenS rfl sl53 rfl) (v_lss rfl rfl) rfl rfl ?_; clear hF a hK K; intro a hF
         replace hF := hF.sub _ (c_ 51 rfl (c_ 0 rfl (c_ 1 rfl (c_ 5 rfl (c_ 6 rfl (n_))))))
         refine W_if hF rfl (fun hc7 => ?_) (fun hc7 => ?_)
         ·
          skip
          try simp only [dcl] at hc7
          have hlt2 : j < r.length := by omega
          obtain ⟨x, hx⟩ : ∃ z, r[j]? = some z := ⟨_, List.getElem?_eq_getElem (by omega)⟩
          obtain ⟨gxx, oxx, hgxx, hkx, -⟩ := hrowr.kat (zints_at hx)
          subst hgxx
          refine W_skip ?_
          refine W_seq ?_
          refine W_block ?_
          refine W_sr rfl fun K hK => ?_
          refine sv4 hF (v_move rfl) (v_move rfl) (v_move rfl) (v_ixS sl35 rfl rfl (by omega) (by omega)) rfl rfl rfl rfl ?_; clear hF a; intro a hF
          refine sv hF (v_load sc53 rfl (by rw [toNat_c]; exact hkr.c)) rfl ?_; clear hF a; intro a hF
          refine sv2 hF (v_move rfl) (v_ixS sl53 rfl rfl (by omega) (by omega)) rfl rfl ?_; clear hF a; intro a hF
          refine sv hF (v_load sc3 rfl (by rw [toNat_c]; exact hkx.c)) rfl ?_; clear hF a; intro a hF
          refine sc hF rfl rfl rfl en92 rfl (rIn_ok B wb p x _ hS.inv (by omega)) ?_; clear hF a; intro v w' a hv hF
          obtain ⟨rfl, hw⟩ := hv
          obtain rfl := hw.symm
          have hS' := St.refl hS.inv
          replace hAmt := hAmt.st hS'
          replace hS := hS.trans hS'
          clear hS'
          refine svw hK hF (v_not rfl) rfl ?_; clear hF a hK K; intro a hF
          replace hF := hF.sub _ (c_ 63 rfl (c_ 0 rfl (c_ 1 rfl (c_ 5 rfl (c_ 6 rfl (n_))))))
          refine W_if hF rfl (fun hc8 => ?_) (fun hc8 => ?_)
          ·
           skip
           try simp only [dcl] at hc8
           refine W_sr rfl fun K hK => ?_
           refine svw hK hF (v_assign rfl) rfl ?_; clear hF a hK K; intro a hF
           replace hF := hF.sub _ (c_ 4 rfl (c_ 0 rfl (c_ 1 rfl (c_ 5 rfl (c_ 6 rfl (n_))))))
           refine W_ret ?_
           refine ⟨_, _, hF, rfl, ?_⟩
           rw [mayM_no (fun h => by have := (h.2.2.2.2 r (List.mem_of_getElem? hr)).2 x (List.mem_of_getElem? hx); rw [hc8] at this; cases this)]
           exact ⟨rfl, hS⟩
          ·
           skip
           try simp only [dcl] at hc8
           refine W_skip ?_
           refine W_reg rfl fun K hK => ?_
           refine sv3w hK hF (v_move rfl) (v_addI rfl rfl (by omega)) (v_assign rfl) rfl rfl rfl ?_; clear hF a hK K; intro a hF
           replace hF := hF.sub _ (c_ 6 rfl (c_ 53 rfl (c_ 52 rfl (c_ 0 rfl (c_ 1 rfl (c_ 5 rfl (n_)))))))
           exact ⟨m2 - 1, by omega, j + 1, hF.sub _ (c_ 0 rfl (c_ 1 rfl (c_ 5 rfl (c_ 6 rfl (n_))))), hS, hAmt, by omega, take_snoc_all hn2 hx (by assumption), by omega⟩
         ·
          skip
          try simp only [dcl] at hc7
          obtain rfl : j = r.length := by omega
          rw [List.take_length] at hn2
          refine W_exit rfl ?_
          refine W_reg rfl fun K hK => ?_
          refine sv3w hK hF (v_move rfl) (v_addI rfl rfl (by omega)) (v_assign rfl) rfl rfl rfl ?_; clear hF a hK K; intro a hF
          replace hF := hF.sub _ (c_ 5 rfl (c_ 34 rfl (c_ 33 rfl (c_ 0 rfl (c_ 1 rfl (c_ 6 rfl (n_)))))))
          exact ⟨m - 1, by omega, i + 1, hF.sub _ (c_ 0 rfl (c_ 1 rfl (c_ 5 rfl (n_)))), hS, hAmt, by omega, take_snoc_all hn hr ⟨by omega, hn2⟩, by omega⟩
      ·
       skip
       try simp only [dcl] at hc5
       refine W_exit rfl ?_
       refine W_sr rfl fun K hK => ?_
       refine svw hK hF (v_assign rfl) rfl ?_; clear hF a hK K; intro a hF
       replace hF := hF.sub _ (c_ 4 rfl (c_ 0 rfl (c_ 1 rfl (c_ 5 rfl (n_)))))
       refine W_ret ?_
       refine ⟨_, _, hF, rfl, ?_⟩
       obtain rfl : i = mt.length := by omega
       rw [List.take_length] at hn
       rw [mayM_of (by omega) (by omega) (by omega) (by omega) hn]
       exact ⟨rfl, hS⟩
set_option maxRecDepth 100000 in
set_option maxHeartbeats 1000000 in
theorem Same04_ok (B M : Nat) (pma : Option Addr) (cma : Nat) (ma : Mtx) (pmb : Option Addr) (cmb : Nat) (mb : Mtx) (w : World) (hI : Inv FDx B w) (hAma : Mat FDx B M w pma cma ma) (hAmb : Mat FDx B M w pmb cmb mb) (hlma : ma.length ≤ 1000) (hbma : ∀ r ∈ ma, r.length ≤ 1000) : Ret Tryz.prog 16 [.slice pma ma.length cma, .slice pmb mb.length cmb] w fun v w' => v = .bool (decide (ma = mb)) ∧ St FDx B w w' := by
 refine enter 53 [(0, .slice pma ma.length cma), (1, .slice pmb mb.length cmb)] 4 Tryz.func16 rfl rfl rfl rfl rfl ?_; intro a hF
 have hS := St.refl hI
 refine W_sr rfl fun K hK => ?_
 refine svw hK hF (v_assign rfl) rfl ?_; clear hF a hK K; intro a hF
 refine W_seq ?_
 refine W_sr rfl fun K hK => ?_
 refine sv5w hK hF (v_move rfl) (v_lenS rfl sl35 rfl) (v_move rfl) (v_lenS rfl sl35 rfl) (v_neq rfl rfl) rfl rfl rfl rfl rfl ?_; clear hF a hK K; intro a hF
 replace hF := hF.sub _ (c_ 11 rfl (c_ 4 rfl (c_ 0 rfl (c_ 1 rfl (n_)))))
 refine W_if hF rfl (fun hc1 => ?_) (fun hc1 => ?_)
 ·
  skip
  try simp only [dcl] at hc1
  refine W_sr rfl fun K hK => ?_
  refine svw hK hF (v_assign rfl) rfl ?_; clear hF a hK K; intro a hF
  replace hF := hF.sub _ (c_ 4 rfl (c_ 0 rfl (c_ 1 rfl (n_))))
  refine W_ret ?_
  refine ⟨_, _, hF, rfl, ?_⟩
  refine ⟨congrArg _ (Eq.symm (decide_eq_false ?_)), hS⟩
  rintro rfl
  omega
 ·
  skip
  try simp only [dcl] at hc1
  refine W_skip ?_
  refine W_seq ?_
  have hle : ma.length = mb.length := by omega
  refine W_sr rfl fun K hK => ?_
  refine svw hK hF (v_assign rfl) rfl ?_; clear hF a hK K; intro a hF
  replace hF := hF.sub _ (c_ 5 rfl (c_ 4 rfl (c_ 0 rfl (c_ 1 rfl (n_)))))
  refine W_block ?_
  refine W_loop (fun m a w1 => ∃ (i : Nat), Fr 53 [(0, .slice pma ma.length cma), (1, .slice pmb mb.length cmb), (5, .int .i64 (i : Int))] a ∧ (St FDx B w w1) ∧ (Mat FDx B M w1 pma cma ma) ∧ (Mat FDx B M w1 pmb cmb mb) ∧ (i ≤ ma.length) ∧ (ma.take i = mb.take i) ∧ (m + i = ma.length)) (ma.length) ?_ ?_
  ·
   skip
   exact ⟨0, hF.sub _ (c_ 0 rfl (c_ 1 rfl (c_ 5 rfl (n_)))), hS, hAma, hAmb, by omega, by simp, by omega⟩
  ·
   skip
   clear hF
   clear hS hAma hAmb
   rintro m a w1 ⟨i, hF, hS, hAma, hAmb, hi, hn, hm⟩
   refine W_seq ?_
   refine W_sr rfl fun K hK => ?_
   refine sv4w hK hF (v_move rfl) (v_move rfl) (v_lenS rfl sl35 rfl) (v_lss rfl rfl) rfl rfl rfl rfl ?_; clear hF a hK K; intro a hF
   replace hF := hF.sub _ (c_ 15 rfl (c_ 0 rfl (c_ 1 rfl (c_ 5 rfl (n_)))))
   refine W_if hF rfl (fun hc2 => ?_) (fun hc2 => ?_)
   ·
    skip
    try simp only [dcl] at hc2
    have hlt : i < ma.length := by omega
    obtain ⟨gma, oma, rfl⟩ := hAma.at1 (by omega)
    obtain ⟨gmb, omb, rfl⟩ := hAmb.at1 (by omega)
    obtain ⟨r, hr⟩ : ∃ z, ma[i]? = some z := ⟨_, List.getElem?_eq_getElem (by omega)⟩
    obtain ⟨pr, cr, hkr, hrowr, -⟩ := hAma.row2 hr
    obtain ⟨s, hs⟩ : ∃ z, mb[i]? = some z := ⟨_, List.getElem?_eq_getElem (by omega)⟩
    obtain ⟨ps, cs, hks, hrows, -⟩ := hAmb.row2 hs
    have hrl := hbma r (List.mem_of_getElem? hr)
    refine W_skip ?_
    refine W_seq ?_
    refine W_block ?_
    refine W_seq ?_
    refine W_sd (m := 11) rfl hmix hS.inv (fun K hK w1 hS' hh => ?_)
    replace hAma := hAma.st hS'
    replace hAmb := hAmb.st hS'
    replace hkr := hkr.st hS'
    replace hks := hks.st hS'
    replace hS := hS.trans hS'
    clear hS'
    clear hh
    refine a_v (i := 0) rfl (by kernel_rfl) hF (fun w2 hx => v_move rfl) rfl ?_; clear hF a; intro a hF
    refine a_v (i := 1) rfl (by kernel_rfl) hF (fun w2 hx => v_move rfl) rfl ?_; clear hF a; intro a hF
    refine a_v (i := 2) rfl (by kernel_rfl) hF (fun w2 hx => v_ixS sl35 rfl rfl (by omega) (by omega)) rfl ?_; clear hF a; intro a hF
    refine a_v (i := 3) rfl (by kernel_rfl) hF (fun w2 hx => v_load sc53 rfl (by rw [toNat_c]; exact hkr.ld hx)) rfl ?_; clear hF a; intro a hF
    refine a_v (i := 4) rfl (by kernel_rfl) hF (fun w2 hx => v_lenS rfl sl53 rfl) rfl ?_; clear hF a; intro a hF
    refine a_v (i := 5) rfl (by kernel_rfl) hF (fun w2 hx => v_move rfl) rfl ?_; clear hF a; intro a hF
    refine a_v (i := 6) rfl (by kernel_rfl) hF (fun w2 hx => v_move rfl) rfl ?_; clear hF a; intro a hF
    refine a_v (i := 7) rfl (by kernel_rfl) hF (fun w2 hx => v_ixS sl35 rfl rfl (by omega) (by omega)) rfl ?_; clear hF a; intro a hF
    refine a_v (i := 8) rfl (by kernel_rfl) hF (fun w2 hx => v_load sc53 rfl (by rw [toNat_c]; exact hks.ld hx)) rfl ?_; clear hF a; intro a hF
    refine a_v (i := 9) rfl (by kernel_rfl) hF (fun w2 hx => v_lenS rfl sl53 rfl) rfl ?_; clear hF a; intro a hF
    refine a_v (i := 10) rfl (by kernel_rfl) hF (fun w2 hx => v_neq rfl rfl) rfl ?_; clear hF a; intro a hF
    refine a_done (by kernel_rfl) (hK _ _ ?_)
    clear hK K
    replace hF := hF.sub _ (c_ 28 rfl (c_ 0 rfl (c_ 1 rfl (c_ 5 rfl (n_)))))
    refine W_if hF rfl (fun hc3 => ?_) (fun hc3 => ?_)
    ·
     skip
     try simp only [dcl] at hc3
     refine W_sr rfl fun K hK => ?_
     refine svw hK hF (v_assign rfl) rfl ?_; clear hF a hK K; intro a hF
     replace hF := hF.sub _ (c_ 4 rfl (c_ 0 rfl (c_ 1 rfl (c_ 5 rfl (n_)))))
     refine W_ret ?_
     refine ⟨_, _, hF, rfl, ?_⟩
     refine ⟨congrArg _ (Eq.symm (decide_eq_false ?_)), hS⟩
     rintro rfl
     rw [hr] at hs
     obtain rfl := Option.some.inj hs
     omega
    ·
     skip
     try simp only [dcl] at hc3
     refine W_skip ?_
     have hls : r.length = s.length := by omega
     refine W_sr rfl fun K hK => ?_
     refine svw hK hF (v_assign rfl) rfl ?_; clear hF a hK K; intro a hF
     replace hF := hF.sub _ (c_ 6 rfl (c_ 0 rfl (c_ 1 rfl (c_ 5 rfl (n_)))))
     refine W_block ?_
     refine W_loop (fun m2 a w2 => ∃ (j : Nat), Fr 53 [(0, .slice (some ⟨gma, oma, none⟩) ma.length cma), (1, .slice (some ⟨gmb, omb, none⟩) mb.length cmb), (5, .int .i64 (i : Int)), (6, .int .i64 (j : Int))] a ∧ (St FDx B w w2) ∧ (Mat FDx B M w2 (some ⟨gma, oma, none⟩) cma ma) ∧ (Mat FDx B M w2 (some ⟨gmb, omb, none⟩) cmb mb) ∧ (j ≤ r.length) ∧ (r.take j = s.take j) ∧ (m2 + j = r.length)) (r.length) ?_ ?_
     ·
      skip
      exact ⟨0, hF.sub _ (c_ 0 rfl (c_ 1 rfl (c_ 5 rfl (c_ 6 rfl (n_))))), hS, hAma, hAmb, by omega, by simp, by omega⟩
     ·
      skip
      clear hF
      clear hS hAma hAmb hkr hrowr hks hrows
      rintro m2 a w2 ⟨j, hF, hS, hAma, hAmb, hj, hn2, hm2⟩
      refine W_seq ?_
      obtain ⟨pr, cr, hkr, hrowr, -⟩ := hAma.row2 hr
      obtain ⟨ps, cs, hks, hrows, -⟩ := hAmb.row2 hs
      refine W_sr rfl fun K hK => ?_
      refine sv4 hF (v_move rfl) (v_move rfl) (v_move rfl) (v_ixS sl35 rfl rfl (by omega) (by omega)) rfl rfl rfl rfl ?_; clear hF a; intro a hF
      refine sv hF (v_load sc53 rfl (by rw [toNat_c]; exact hkr.c)) rfl ?_; clear hF a; intro a hF
      refine sv2w hK hF (v_lenS rfl sl53 rfl) (v_lss rfl rfl) rfl rfl ?_; clear hF a hK K; intro a hF
      replace hF := hF.sub _ (c_ 35 rfl (c_ 0 rfl (c_ 1 rfl (c_ 5 rfl (c_ 6 rfl (n_))))))
      refine W_if hF rfl (fun hc4 => ?_) (fun hc4 => ?_)
      ·
       skip
       try simp only [dcl] at hc4
       have hlt2 : j < r.length := by omega
       obtain ⟨x, hx⟩ : ∃ z, r[j]? = some z := ⟨_, List.getElem?_eq_getElem (by omega)⟩
       obtain ⟨gxx, oxx, hgxx, hkx, -⟩ := hrowr.kat (zints_at hx)
       subst hgxx
       obtain ⟨y, hy⟩ : ∃ z, s[j]? = some z := ⟨_, List.getElem?_eq_getElem (by omega)⟩
       obtain ⟨gxy, oxy, hgxy, hky, -⟩ := hrows.kat (zints_at hy)
       subst hgxy
       refine W_skip ?_
       refine W_seq ?_
       refine W_block ?_
       refine W_sd (m := 15) rfl hmix hS.inv (fun K hK w1 hS' hh => ?_)
       replace hAma := hAma.st hS'
       replace hAmb := hAmb.st hS'
       replace hkr := hkr.st hS'
       replace hks := hks.st hS'
       replace hkx := hkx.st hS'
       replace hky := hky.st hS'
       replace hS := hS.trans hS'
       clear hS'
       clear hh
       refine a_v (i := 0) rfl (by kernel_rfl) hF (fun w2 hx => v_move rfl) rfl ?_; clear hF a; intro a hF
       refine a_v (i := 1) rfl (by kernel_rfl) hF (fun w2 hx => v_move rfl) rfl ?_; clear hF a; intro a hF
       refine a_v (i := 2) rfl (by kernel_rfl) hF (fun w2 hx => v_ixS sl35 rfl rfl (by omega) (by omega)) rfl ?_; clear hF a; intro a hF
       refine a_v (i := 3) rfl (by kernel_rfl) hF (fun w2 hx => v_load sc53 rfl (by rw [toNat_c]; exact hkr.ld hx)) rfl ?_; clear hF a; intro a hF
       refine a_v (i := 4) rfl (by kernel_rfl) hF (fun w2 hx => v_move rfl) rfl ?_; clear hF a; intro a hF
       refine a_v (i := 5) rfl (by kernel_rfl) hF (fun w2 hx => v_ixS sl53 rfl rfl (by omega) (by omega)) rfl ?_; clear hF a; intro a hF
       refine a_v (i := 6) rfl (by kernel_rfl) hF (fun w2 hx => v_load sc3 rfl (by rw [toNat_c]; exact hkx.ld hx)) rfl ?_; clear hF a; intro a hF
       refine a_v (i := 7) rfl (by kernel_rfl) hF (fun w2 hx => v_move rfl) rfl ?_; clear hF a; intro a hF
       refine a_v (i := 8) rfl (by kernel_rfl) hF (fun w2 hx => v_move rfl) rfl ?_; clear hF a; intro a hF
       refine a_v (i := 9) rfl (by kernel_rfl) hF (fun w2 hx => v_ixS sl35 rfl rfl (by omega) (by omega)) rfl ?_; clear hF a; intro a hF
       refine a_v (i := 10) rfl (by kernel_rfl) hF (fun w2 hx => v_load sc53 rfl (by rw [toNat_c]; exact hks.ld hx)) rfl ?_; clear hF a; intro a hF
       refine a_v (i := 11) rfl (by kernel_rfl) hF (fun w2 hx => v_move rfl) rfl ?_; clear hF a; intro a hF
       refine a_v (i := 12) rfl (by kernel_rfl) hF (fun w2 hx => v_ixS sl53 rfl rfl (by omega) (by omega)) rfl ?_; clear hF a; intro a hF
       refine a_v (i := 13) rfl (by kernel_rfl) hF (fun w2 hx => v_load sc3 rfl (by rw [toNat_c]; exact hky.ld hx)) rfl ?_; clear hF a; intro a hF
       refine a_v (i := 14) rfl (by kernel_rfl) hF (fun w2 hx => v_neq rfl rfl) rfl ?_; clear hF a; intro a hF
       refine a_done (by kernel_rfl) (hK _ _ ?_)
       clear hK K
       replace hF := hF.sub _ (c_ 52 rfl (c_ 0 rfl (c_ 1 rfl (c_ 5 rfl (c_ 6 rfl (n_))))))
       refine W_if hF rfl (fun hc5 => ?_) (fun hc5 => ?_)
       ·
        skip
        try simp only [dcl] at hc5
        refine W_sr rfl fun K hK => ?_
        refine svw hK hF (v_assign rfl) rfl ?_; clear hF a hK K; intro a hF
        replace hF := hF.sub _ (c_ 4 rfl (c_ 0 rfl (c_ 1 rfl (c_ 5 rfl (c_ 6 rfl (n_))))))
        refine W_ret ?_
        refine ⟨_, _, hF, rfl, ?_⟩
        refine ⟨congrArg _ (Eq.symm (decide_eq_false ?_)), hS⟩
        rintro rfl
        rw [hr] at hs
        obtain rfl := Option.some.inj hs
        rw [hx] at hy
        obtain rfl := Option.some.inj hy
        omega
       ·
        skip
        try simp only [dcl] at hc5
        refine W_skip ?_
        refine W_reg rfl fun K hK => ?_
        refine sv3w hK hF (v_move rfl) (v_addI rfl rfl (by omega)) (v_assign rfl) rfl rfl rfl ?_; clear hF a hK K; intro a hF
        replace hF := hF.sub _ (c_ 6 rfl (c_ 37 rfl (c_ 36 rfl (c_ 0 rfl (c_ 1 rfl (c_ 5 rfl (n_)))))))
        exact ⟨m2 - 1, by omega, j + 1, hF.sub _ (c_ 0 rfl (c_ 1 rfl (c_ 5 rfl (c_ 6 rfl (n_))))), hS, hAma, hAmb, by omega, take_snoc_eq hn2 hx (by rw [hy]; congr 1; omega), by omega⟩
      ·
       skip
       try simp only [dcl] at hc4
       obtain rfl : j = r.length := by omega
       obtain rfl : r = s := by rw [List.take_length, List.take_of_length_le (by omega)] at hn2; exact hn2
       refine W_exit rfl ?_
       refine W_reg rfl fun K hK => ?_
       refine sv3w hK hF (v_move rfl) (v_addI rfl rfl (by omega)) (v_assign rfl) rfl rfl rfl ?_; clear hF a hK K; intro a hF
       replace hF := hF.sub _ (c_ 5 rfl (c_ 17 rfl (c_ 16 rfl (c_ 0 rfl (c_ 1 rfl (c_ 6 rfl (n_)))))))
       exact ⟨m - 1, by omega, i + 1, hF.sub _ (c_ 0 rfl (c_ 1 rfl (c_ 5 rfl (n_)))), hS, hAma, hAmb, by omega, take_snoc_eq hn hr hs, by omega⟩
   ·
    skip
    try simp only [dcl] at hc2
    refine W_exit rfl ?_
    refine W_sr rfl fun K hK => ?_
    refine svw hK hF (v_assign rfl) rfl ?_; clear hF a hK K; intro a hF
    replace hF := hF.sub _ (c_ 4 rfl (c_ 0 rfl (c_ 1 rfl (c_ 5 rfl (n_)))))
    refine W_ret ?_
    refine ⟨_, _, hF, rfl, ?_⟩
    refine ⟨congrArg _ (Eq.symm (decide_eq_true ?_)), hS⟩
    obtain rfl : i = ma.length := by omega
    rw [List.take_length, List.take_of_length_le (by omega)] at hn
    exact hn
end Go.Proofs.YtkoiolamnnmokaaGreat

/- The walks of gambrelref04: identity, rows picked, joined, products. -/
namespace Go.Proofs.YtkoiolamnnmokaaGreat
open Go Go.Gam
namespace FxFRef04b
theorem sl35 : Sl Tryz.prog 35 53 (.slice none 0 0) 24 := sl_of Tryz.underlying35 rfl (by kernel_rfl)
theorem sl53 : Sl Tryz.prog 53 3 (.int .i64 0) 8 := sl_of Tryz.underlying53 rfl (by kernel_rfl)
end FxFRef04b
open FxFRef04b
set_option maxRecDepth 100000 in
set_option maxHeartbeats 1000000 in
theorem rIdentity_ok (B : Nat) (n : Int) (w : World) (hI : Inv FDx B w) (hn : -9223372036854775808 ≤ n ∧ n < 9223372036854775808) : Ret Tryz.prog 20 [.int .i64 n] w fun v w' => ∃ ob, MOwn FDx B w.heap.size 0 w'.heap.size w' 53 v ob (identM n) ∧ St FDx B w w' := by
 refine enter 34 [(0, .int .i64 n)] 2 Tryz.func20 rfl rfl rfl rfl rfl ?_; intro a hF
 have hS := St.refl hI
 refine W_sr rfl fun K hK => ?_
 refine svw hK hF (v_assign rfl) rfl ?_; clear hF a hK K; intro a hF
 refine W_sr rfl fun K hK => ?_
 refine svw hK hF (v_assign rfl) rfl ?_; clear hF a hK K; intro a hF
 refine W_seq ?_
 refine W_sr rfl fun K hK => ?_
 refine svw hK hF (v_assign rfl) rfl ?_; clear hF a hK K; intro a hF
 refine W_block ?_
 refine W_loop (fun m a w1 => ∃ (i : Nat) (v3 : Value) (b3 : Option Nat), Fr 34 [(0, .int .i64 n), (3, v3), (4, .int .i64 (i : Int))] a ∧ (St FDx B w w1) ∧ (MOwn FDx B w.heap.size 0 w1.heap.size w1 53 v3 b3 ((List.range i).map (unitR n.toNat))) ∧ (i ≤ n.toNat) ∧ (i = 0 ∨ n ≤ 20) ∧ (m + i = n.toNat)) (n.toNat) ?_ ?_
 ·
  skip
  exact ⟨0, _, none, hF.sub _ (c_ 0 rfl (c_ 3 rfl (c_ 4 rfl (n_)))), hS, MOwn.nil _ _ _ _ _ _ _ (Nat.zero_le _), by omega, by omega, by omega⟩
 ·
  skip
  clear hF
  clear hS
  rintro m a w1 ⟨i, v3, b3, hF, hS, hMO, hi, hi2, hm⟩
  refine W_seq ?_
  obtain ⟨KM, hKe⟩ : ∃ KM, KM = w1.heap.size := ⟨_, rfl⟩
  rw [← hKe] at hMO
  have hKs : KM ≤ w1.heap.size := by omega
  have hNK : w.heap.size ≤ KM := by have := hS.ext.size; omega
  clear hKe
  refine W_sr rfl fun K hK => ?_
  refine sv2 hF (v_move rfl) (v_move rfl) rfl rfl ?_; clear hF a; intro a hF
  refine sb hF (v_lss rfl rfl) rfl ?_ ?_
  ·
   clear hF a; intro hc1 a hF
   try simp only [dcl] at hc1
   refine sv hF (v_move rfl) rfl ?_; clear hF a; intro a hF
   refine svg hF rfl ?_
   refine sv hF (v_move rfl) rfl ?_; clear hF a; intro a hF
   refine svg hF rfl ?_
   refine sv2w hK hF (v_leq rfl rfl) (v_pickT rfl rfl) rfl rfl ?_; clear hF a hK K; intro a hF
   replace hF := hF.sub _ (c_ 14 rfl (c_ 0 rfl (c_ 3 rfl (c_ 4 rfl (n_)))))
   refine W_if hF rfl (fun hc2 => ?_) (fun hc2 => ?_)
   ·
    skip
    try simp only [dcl] at hc2
    refine W_skip ?_
    refine W_seq ?_
    refine W_block ?_
    refine W_sr rfl fun K hK => ?_
    refine svw hK hF (v_assign rfl) rfl ?_; clear hF a hK K; intro a hF
    replace hF := hF.sub _ (c_ 5 rfl (c_ 0 rfl (c_ 3 rfl (c_ 4 rfl (n_)))))
    refine W_seq ?_
    refine W_sr rfl fun K hK => ?_
    refine svw hK hF (v_assign rfl) rfl ?_; clear hF a hK K; intro a hF
    refine W_block ?_
    refine W_loop (fun m2 a w2 => ∃ (j : Nat) (v5 : Value) (b5 : Option Nat), Fr 34 [(0, .int .i64 n), (3, v3), (4, .int .i64 (i : Int)), (5, v5), (6, .int .i64 (j : Int))] a ∧ (St FDx B w w2) ∧ (MOwn FDx B w.heap.size 0 KM w2 53 v3 b3 ((List.range i).map (unitR n.toNat))) ∧ (KM ≤ w2.heap.size) ∧ (Gam.Own FDx B KM w2 FDx.E v5 b5 (zints ((unitR n.toNat i).take j))) ∧ (j ≤ n.toNat) ∧ (m2 + j = n.toNat)) (n.toNat) ?_ ?_
    ·
     skip
     exact ⟨0, _, none, hF.sub _ (c_ 0 rfl (c_ 3 rfl (c_ 4 rfl (c_ 5 rfl (c_ 6 rfl (n_)))))), hS, hMO, hKs, Gam.Own.nil _ _ _ _ _, by omega, by omega⟩
    ·
     skip
     clear hF
     clear hS hMO hKs
     rintro m2 a w2 ⟨j, v5, b5, hF, hS, hMO, hKs, hO, hj, hm2⟩
     refine W_seq ?_
     refine W_sr rfl fun K hK => ?_
     refine sv3w hK hF (v_move rfl) (v_move rfl) (v_lss rfl rfl) rfl rfl rfl ?_; clear hF a hK K; intro a hF
     replace hF := hF.sub _ (c_ 19 rfl (c_ 0 rfl (c_ 3 rfl (c_ 4 rfl (c_ 5 rfl (c_ 6 rfl (n_)))))))
     refine W_if hF rfl (fun hc3 => ?_) (fun hc3 => ?_)
     ·
      skip
      try simp only [dcl] at hc3
      refine W_skip ?_
      refine W_seq ?_
      refine W_block ?_
      refine W_sr rfl fun K hK => ?_
      refine svw hK hF (v_assign rfl) rfl ?_; clear hF a hK K; intro a hF
      replace hF := hF.sub _ (c_ 7 rfl (c_ 0 rfl (c_ 3 rfl (c_ 4 rfl (c_ 5 rfl (c_ 6 rfl (n_)))))))
      refine W_seq ?_
      refine W_sr rfl fun K hK => ?_
      refine sv3w hK hF (v_move rfl) (v_move rfl) (v_eql rfl rfl) rfl rfl rfl ?_; clear hF a hK K; intro a hF
      replace hF := hF.sub _ (c_ 24 rfl (c_ 7 rfl (c_ 0 rfl (c_ 3 rfl (c_ 4 rfl (c_ 5 rfl (c_ 6 rfl (n_))))))))
      refine W_if hF rfl (fun hc4 => ?_) (fun hc4 => ?_)
      ·
       skip
       try simp only [dcl] at hc4
       refine W_reg rfl fun K hK => ?_
       refine svw hK hF (v_assign rfl) rfl ?_; clear hF a hK K; intro a hF
       replace hF := hF.sub _ (c_ 7 rfl (c_ 0 rfl (c_ 3 rfl (c_ 4 rfl (c_ 5 rfl (c_ 6 rfl (n_)))))))
       have hul := unitR_length n.toNat i
       refine W_reg rfl fun K hK => ?_
       refine sv2 hF (v_move rfl) (v_move rfl) rfl rfl ?_; clear hF a; intro a hF
       refine s_bs (D := FDx) (B := B) hF sl53 rfl rfl (by decide) (by simp [Value.cells]) (by decide) hS.inv rfl ?_; clear hF a; intro w' a hm hI' hL hF
       replace hMO := hMO.mb0 hm
       replace hKs := Nat.le_trans hKs hm.size
       replace hO := hO.mb hm (fun _ _ => by simp)
       replace hS := hS.mb0 hm
       clear hm hI'
       refine s_app (D := FDx) (B := B) hF rfl sl53 rfl rfl hO (hL.row (by decide)) (by simp [Value.oneCell']) (by simp; omega) (by simp [maxLen]; omega) (hKs) (by decide) hS.inv rfl ?_; clear hF a; intro v' b' w' a ho' hm hI' hb' hF
       replace hMO := hMO.mbo hm hO (by decide) (Nat.le_refl _) (Nat.zero_le _)
       replace hKs := Nat.le_trans hKs hm.size
       replace hS := hS.mb hm (fun k h => Nat.le_trans (hNK) (hO.lt k h).1)
       replace hO := ho'
       clear hm hI' ho'
       refine svw hK hF (v_assign rfl) rfl ?_; clear hF a hK K; intro a hF
       replace hF := hF.sub _ (c_ 5 rfl (c_ 0 rfl (c_ 3 rfl (c_ 4 rfl (c_ 6 rfl (n_))))))
       refine W_reg rfl fun K hK => ?_
       refine sv3w hK hF (v_move rfl) (v_addI rfl rfl (by omega)) (v_assign rfl) rfl rfl rfl ?_; clear hF a hK K; intro a hF
       exact ⟨m2 - 1, by omega, j + 1, _, _, hF.sub _ (c_ 0 rfl (c_ 3 rfl (c_ 4 rfl (c_ 5 rfl (c_ 6 rfl (n_)))))), hS, hMO, hKs, hO.cast (by rw [unitR_snoc _ _ _ (by omega)]; (first | rw [if_pos (by omega)] | rw [if_neg (by omega)]); simp [zints]), by omega, by omega⟩
      ·
       skip
       try simp only [dcl] at hc4
       refine W_skip ?_
       have hul := unitR_length n.toNat i
       refine W_reg rfl fun K hK => ?_
       refine sv2 hF (v_move rfl) (v_move rfl) rfl rfl ?_; clear hF a; intro a hF
       refine s_bs (D := FDx) (B := B) hF sl53 rfl rfl (by decide) (by simp [Value.cells]) (by decide) hS.inv rfl ?_; clear hF a; intro w' a hm hI' hL hF
       replace hMO := hMO.mb0 hm
       replace hKs := Nat.le_trans hKs hm.size
       replace hO := hO.mb hm (fun _ _ => by simp)
       replace hS := hS.mb0 hm
       clear hm hI'
       refine s_app (D := FDx) (B := B) hF rfl sl53 rfl rfl hO (hL.row (by decide)) (by simp [Value.oneCell']) (by simp; omega) (by simp [maxLen]; omega) (hKs) (by decide) hS.inv rfl ?_; clear hF a; intro v' b' w' a ho' hm hI' hb' hF
       replace hMO := hMO.mbo hm hO (by decide) (Nat.le_refl _) (Nat.zero_le _)
       replace hKs := Nat.le_trans hKs hm.size
       replace hS := hS.mb hm (fun k h => Nat.le_trans (hNK) (hO.lt k h).1)
       replace hO := ho'
       clear hm hI' ho'
       refine svw hK hF (v_assign rfl) rfl ?_; clear hF a hK K; intro a hF
       replace hF := hF.sub _ (c_ 5 rfl (c_ 0 rfl (c_ 3 rfl (c_ 4 rfl (c_ 6 rfl (n_))))))
       refine W_reg rfl fun K hK => ?_
       refine sv3w hK hF (v_move rfl) (v_addI rfl rfl (by omega)) (v_assign rfl) rfl rfl rfl ?_; clear hF a hK K; intro a hF
       exact ⟨m2 - 1, by omega, j + 1, _, _, hF.sub _ (c_ 0 rfl (c_ 3 rfl (c_ 4 rfl (c_ 5 rfl (c_ 6 rfl (n_)))))), hS, hMO, hKs, hO.cast (by rw [unitR_snoc _ _ _ (by omega)]; (first | rw [if_pos (by omega)] | rw [if_neg (by omega)]); simp [zints]), by omega, by omega⟩
     ·
      skip
      try simp only [dcl] at hc3
      refine W_exit rfl ?_
      obtain rfl : j = n.toNat := by omega
      rw [List.take_of_length_le (by rw [unitR_length]; omega)] at hO
      refine W_reg rfl fun K hK => ?_
      refine sv2 hF (v_move rfl) (v_move rfl) rfl rfl ?_; clear hF a; intro a hF
      obtain ⟨a_, c_r, rfl⟩ := hO.shape
      refine s_bs (D := FDx) (B := B) hF sl35 rfl rfl (by decide) (by simp [Value.cells]) (by decide) hS.inv rfl ?_; clear hF a; intro w' a hm hI' hL hF
      replace hMO := hMO.mb0 hm
      replace hKs := Nat.le_trans hKs hm.size
      replace hO := hO.mb hm (fun _ _ => by simp)
      replace hS := hS.mb0 hm
      clear hm hI'
      replace hMO := hMO.up hKs
      clear hKs
      refine s_appM (D := FDx) (B := B) hF rfl sl35 rfl rfl hMO hL (.of hO (Nat.zero_le _)) rfl rfl (by simp; omega) (hS.ext.size) (by decide) (by decide) hS.inv rfl ?_; clear hF a; intro v' b' w' a ho' hm hI' hF
      replace hS := hS.mb hm (fun k h => (hMO.lt k h).1)
      have hKm := hm.size
      replace hMO := ho'
      clear hm hI' ho' hL
      refine svw hK hF (v_assign rfl) rfl ?_; clear hF a hK K; intro a hF
      replace hF := hF.sub _ (c_ 3 rfl (c_ 32 rfl (c_ 31 rfl (c_ 30 rfl (c_ 29 rfl (c_ 0 rfl (c_ 4 rfl (c_ 5 rfl (c_ 6 rfl (n_))))))))))
      refine W_reg rfl fun K hK => ?_
      refine sv3w hK hF (v_move rfl) (v_addI rfl rfl (by omega)) (v_assign rfl) rfl rfl rfl ?_; clear hF a hK K; intro a hF
      exact ⟨m - 1, by omega, i + 1, _, _, hF.sub _ (c_ 0 rfl (c_ 3 rfl (c_ 4 rfl (n_)))), hS, (hMO.up hKm).cast (idM_snoc _ _).symm, by omega, by omega, by omega⟩
   ·
    skip
    try simp only [dcl] at hc2
    refine W_exit rfl ?_
    refine W_sr rfl fun K hK => ?_
    refine sv2w hK hF (v_move rfl) (v_assign rfl) rfl rfl ?_; clear hF a hK K; intro a hF
    replace hF := hF.sub _ (c_ 2 rfl (c_ 33 rfl (c_ 0 rfl (c_ 3 rfl (c_ 4 rfl (n_))))))
    refine W_ret ?_
    refine ⟨_, _, hF, rfl, ?_⟩
    rw [ident_done (by omega)] at hMO
    exact ⟨_, hMO.up hKs, hS⟩
  ·
   clear hF a; intro hc1 a hF
   try simp only [dcl] at hc1
   refine sv hF (v_move rfl) rfl ?_; clear hF a; intro a hF
   refine svn2 hF rfl rfl rfl rfl rfl rfl ?_; clear hF a; intro a hF
   refine svw hK hF (v_pickF rfl rfl) rfl ?_; clear hF a hK K; intro a hF
   replace hF := hF.sub _ (c_ 14 rfl (c_ 0 rfl (c_ 3 rfl (c_ 4 rfl (n_)))))
   refine W_ifF hF rfl ?_
   refine W_exit rfl ?_
   refine W_sr rfl fun K hK => ?_
   refine sv2w hK hF (v_move rfl) (v_assign rfl) rfl rfl ?_; clear hF a hK K; intro a hF
   replace hF := hF.sub _ (c_ 2 rfl (c_ 33 rfl (c_ 0 rfl (c_ 3 rfl (c_ 4 rfl (n_))))))
   refine W_ret ?_
   refine ⟨_, _, hF, rfl, ?_⟩
   rw [ident_done (by omega)] at hMO
   exact ⟨_, hMO.up hKs, hS⟩
end Go.Proofs.YtkoiolamnnmokaaGreat

/- What the statements of layer 9 call first. -/
namespace Go.Proofs.YtkoiolamnnmokaaGreat
open Go Go.Gam
namespace FxFAw09
theorem en7 : Ent Tryz.prog 7 := ent Tryz.func7 (by kernel_rfl) (by kernel_rfl)
theorem en11 : Ent Tryz.prog 11 := ent Tryz.func11 (by kernel_rfl) (by kernel_rfl)
theorem en13 : Ent Tryz.prog 13 := ent Tryz.func13 (by kernel_rfl) (by kernel_rfl)
theorem en14 : Ent Tryz.prog 14 := ent Tryz.func14 (by kernel_rfl) (by kernel_rfl)
theorem en16 : Ent Tryz.prog 16 := ent Tryz.func16 (by kernel_rfl) (by kernel_rfl)
theorem en17 : Ent Tryz.prog 17 := ent Tryz.func17 (by kernel_rfl) (by kernel_rfl)
theorem fa27_0 : FieldFact Tryz.prog 27 0 0 := ff_of (sz := 0) Tryz.underlying27 (by kernel_rfl)
theorem fa27_1 : FieldFact Tryz.prog 27 1 1 := ff_of (sz := 0) Tryz.underlying27 (by kernel_rfl)
theorem fa27_4 : FieldFact Tryz.prog 27 4 4 := ff_of (sz := 0) Tryz.underlying27 (by kernel_rfl)
theorem sc3 : Scalar Tryz.prog 3 := ⟨_, Tryz.underlying3, by simp, by simp⟩
theorem sc9 : Scalar Tryz.prog 9 := ⟨_, Tryz.underlying9, by simp, by simp⟩
theorem sl35 : Sl Tryz.prog 35 53 (.slice none 0 0) 24 := sl_of Tryz.underlying35 rfl (by kernel_rfl)
theorem sl53 : Sl Tryz.prog 53 3 (.int .i64 0) 8 := sl_of Tryz.underlying53 rfl (by kernel_rfl)
end FxFAw09
open FxFAw09
theorem Same4_t (B M : Nat) (pma : Option Addr) (cma : Nat) (ma : Mtx) (pmb : Option Addr) (cmb : Nat) (mb : Mtx) (w : World) (hI : Inv FDx B w) (hAma : Mat FDx B M w pma cma ma) (hAmb : Mat FDx B M w pmb cmb mb) (hlma : ma.length ≤ 1000) (hbma : ∀ r ∈ ma, r.length ≤ 1000) (e : ma = mb) :
  Ret Tryz.prog 16 [.slice pma ma.length cma, .slice pmb mb.length cmb] w fun v w' => v = .bool true ∧ St FDx B w w' :=
 (Same04_ok B M pma cma ma pmb cmb mb w hI hAma hAmb hlma hbma).mono fun v w' h => by rw [decide_eq_true e] at h; exact h
set_option maxRecDepth 100000 in
set_option maxHeartbeats 1000000 in
theorem aw09_ok (B : Nat) (w : World) (hI : Inv FDx B w) : Ret Tryz.prog 6 [] w fun v w' => v = .bool true ∧ St FDx B w w' := by
 refine enter 51 [] 0 Tryz.func6 rfl rfl rfl rfl rfl ?_; intro a hF
 have hS := St.refl hI
 refine W_sr rfl fun K hK => ?_
 refine svw hK hF (v_assign rfl) rfl ?_; clear hF a hK K; intro a hF
 refine W_sr rfl fun K hK => ?_
 refine sc hF rfl rfl rfl en7 rfl (POf_ok B 3 _ hS.inv) ?_; clear hF a; intro v w' a hv hF
 obtain ⟨rfl, hS'⟩ := hv
 replace hS := hS.trans hS'
 clear hS'
 refine sv3 hF (v_move rfl) (v_ext rfl rfl) ((v_ext rfl rfl).as (congrArg Value.bool (decide_eq_true (by decide)))) rfl rfl rfl ?_; clear hF a; intro a hF
 have hs0 := hS.ext.size
 refine s_allocN (D := FDx) (B := B) (z := .agg prz.toArray) hF (by kernel_rfl) (by decide) hS.inv rfl ?_; clear hF a; intro gp w' a hm hI' hp hF
 replace hS := hS.mb0 hm
 clear hm hI'
 have hghp := hp.low
 replace hp := hp.le hs0
 clear hs0
 refine s_storeN (D := FDx) (B := B) hF (by rw [List.size_toArray, prOf_len]; kernel_rfl) rfl rfl (prOf_one 3) (by rw [List.size_toArray, prOf_len]; rfl) hp hS.inv ?_; intro w' hm hI' hrc'
 replace hS := hS.mb hm (fun k h => by cases h; exact hp.low)
 replace hp := hrc'
 clear hm hI' hrc'
 refine svw hK hF (v_assign rfl) rfl ?_; clear hF a hK K; intro a hF
 replace hF := hF.sub _ (c_ 2 rfl (c_ 1 rfl (c_ 0 rfl (n_))))
 refine W_sr rfl fun K hK => ?_
 refine sv hF (v_build (cs := #[.int .i64 3, .int .i64 2, .int .i64 2]) rfl (by kernel_rfl)) rfl ?_; clear hF a; intro a hF
 refine sc hF rfl rfl rfl en11 rfl (PPar_ok B 3 2 2 _ hS.inv rfl) ?_; clear hF a; intro v w' a hv hF
 obtain ⟨sX, cX, rfl, hX, hS'⟩ := hv
 replace hp := hp.st hS'
 replace hS := hS.trans hS'
 clear hS'
 rw [aw9_par] at hX
 refine sv5w hK hF (v_move rfl) (v_ext rfl rfl) (v_ext rfl rfl) (v_assign rfl) (v_assign rfl) rfl rfl rfl rfl rfl ?_; clear hF a hK K; intro a hF
 replace hF := hF.sub _ (c_ 4 rfl (c_ 3 rfl (c_ 2 rfl (c_ 1 rfl (c_ 0 rfl (n_))))))
 refine W_sr rfl fun K hK => ?_
 refine sv2 hF (v_move rfl) (v_move rfl) rfl rfl ?_; clear hF a; intro a hF
 refine svg hF rfl ?_
 refine sv hF (v_fieldAddr fa27_0 rfl) rfl ?_; clear hF a; intro a hF
 refine svg hF rfl ?_
 refine sv hF (v_load sc9 rfl (hp.blk.at 0 rfl)) rfl ?_; clear hF a; intro a hF
 refine svg hF rfl ?_
 refine sv3 hF ((v_eqlS rfl rfl).as (congrArg Value.bool (rfl))) (v_pickT rfl rfl) (v_move rfl) rfl rfl rfl ?_; clear hF a; intro a hF
 refine svg hF rfl ?_
 refine sv hF (v_fieldAddr fa27_1 rfl) rfl ?_; clear hF a; intro a hF
 refine svg hF rfl ?_
 refine sv hF (v_load sc3 rfl (hp.blk.at 1 rfl)) rfl ?_; clear hF a; intro a hF
 refine svg hF rfl ?_
 refine sv3 hF ((v_eql rfl rfl).as (congrArg Value.bool (decide_eq_true (rfl)))) (v_pickT rfl rfl) (v_move rfl) rfl rfl rfl ?_; clear hF a; intro a hF
 refine svg hF rfl ?_
 refine sv hF (v_fieldAddr fa27_4 rfl) rfl ?_; clear hF a; intro a hF
 refine svg hF rfl ?_
 refine sv hF (v_load sc3 rfl (hp.blk.at 4 rfl)) rfl ?_; clear hF a; intro a hF
 refine svg hF rfl ?_
 refine sv3 hF ((v_eql rfl rfl).as (congrArg Value.bool (decide_eq_true (rfl)))) (v_pickT rfl rfl) (v_move rfl) rfl rfl rfl ?_; clear hF a; intro a hF
 refine svg hF rfl ?_
 refine sv hF (v_move rfl) rfl ?_; clear hF a; intro a hF
 refine svg hF rfl ?_
 refine sv3 hF ((v_eql rfl rfl).as (congrArg Value.bool (decide_eq_true (rfl)))) (v_pickT rfl rfl) (v_move rfl) rfl rfl rfl ?_; clear hF a; intro a hF
 refine svg hF rfl ?_
 refine sv hF (v_move rfl) rfl ?_; clear hF a; intro a hF
 refine svg hF rfl ?_
 refine s_bs (D := FDx) (B := B) hF sl53 rfl rfl (by decide) (by simp [Value.cells]) (by decide) hS.inv rfl ?_; clear hF a; intro w' a hm hI' h1 hF
 replace hp := hp.mb hm (by simp)
 replace hX := (hX.mb hm (fun _ h => by cases h)).mono hm.size
 replace hS := hS.mb0 hm
 clear hm hI'
 refine svg hF rfl ?_
 refine s_bs (D := FDx) (B := B) hF sl53 rfl rfl (by decide) (by simp [Value.cells]) (by decide) hS.inv rfl ?_; clear hF a; intro w' a hm hI' h2 hF
 replace hp := hp.mb hm (by simp)
 replace hX := (hX.mb hm (fun _ h => by cases h)).mono hm.size
 replace h1 := h1.mb hm (fun _ _ => by simp)
 replace hS := hS.mb0 hm
 clear hm hI'
 refine svg hF rfl ?_
 refine s_bs (D := FDx) (B := B) hF sl35 rfl rfl (by decide) (by simp [Value.cells]) (by decide) hS.inv rfl ?_; clear hF a; intro w' a hm hI' h3 hF
 replace hp := hp.mb hm (by simp)
 replace hX := (hX.mb hm (fun _ h => by cases h)).mono hm.size
 replace h1 := h1.mb hm (fun _ _ => by simp)
 replace h2 := h2.mb hm (fun _ _ => by simp)
 replace hS := hS.mb0 hm
 clear hm hI'
 refine svg hF rfl ?_
 refine sc hF rfl rfl rfl en16 rfl (Same4_t B _ _ _ [[1, 1], [1, 2]] _ _ [[1, 1], [1, 2]] _ hS.inv hX (Mat.two h3 (by decide) ((h1.cast (ys := zints [1, 1]) rfl).row (by decide)) ((h2.cast (ys := zints [1, 2]) rfl).row (by decide))) (aw6_len _ _ _ _).1 (aw6_len _ _ _ _).2 rfl) ?_; clear hF a; intro v w' a hv hF
 obtain ⟨rfl, hS'⟩ := hv
 replace hS := hS.trans hS'
 clear hS'
 refine sv2 hF (v_pickT rfl rfl) (v_move rfl) rfl rfl ?_; clear hF a; intro a hF
 refine svg hF rfl ?_
 refine sv hF (v_build (cs := #[.int .i64 3, .int .i64 2, .int .i64 4]) rfl (by kernel_rfl)) rfl ?_; clear hF a; intro a hF
 refine svg hF rfl ?_
 refine sc hF rfl rfl rfl en14 rfl (PMay_ok B 3 2 4 _ hS.inv) ?_; clear hF a; intro v w' a hv hF
 obtain ⟨rfl, hS'⟩ := hv
 replace hS := hS.trans hS'
 clear hS'
 rw [show mayP 3 2 4 = false from rfl] at hF
 refine svg hF rfl ?_
 refine sv3 hF (v_not rfl) (v_pickT rfl rfl) (v_move rfl) rfl rfl rfl ?_; clear hF a; intro a hF
 refine svg hF rfl ?_
 refine sc hF rfl rfl rfl en13 rfl (PField_in B 2 _ hS.inv (by decide)) ?_; clear hF a; intro v w' a hv hF
 obtain ⟨fv, hfv⟩ : ∃ x, x = v := ⟨_, rfl⟩
 subst hfv
 obtain ⟨hf, hS'⟩ := hv
 replace hS := hS.trans hS'
 clear hS'
 refine svg hF rfl ?_
 refine sc hF rfl rfl rfl en17 rfl (Bits_ok B (some (pfl 2)) fv _ hf) ?_; clear hF a; intro v w' a hv hF
 obtain ⟨rfl, hw⟩ := hv
 obtain rfl := hw.symm
 have hS' := St.refl hS.inv
 replace hf := hf.st hS'
 replace hS := hS.trans hS'
 clear hS'
 refine svg hF rfl ?_
 refine sv3w hK hF ((v_eql rfl rfl).as (congrArg Value.bool (decide_eq_true (rfl)))) (v_pickT rfl rfl) (v_assign rfl) rfl rfl rfl ?_; clear hF a hK K; intro a hF
 replace hF := hF.sub _ (c_ 0 rfl (n_))
 refine W_ret ?_
 refine ⟨_, _, hF, rfl, ?_⟩
 exact ⟨rfl, hS⟩
end Go.Proofs.YtkoiolamnnmokaaGreat

/- Rows that are gathered, one of them changed for another; what gambrelref05 reduces. No program in sight. -/
set_option linter.unusedSectionVars false
namespace Go.Gam
open Px
section
variable {P : Program} {ops : Array Oper} {K' : Kont} {rest : List Oper} {n : NN} {F : Fs} {T : TypeId} {pp : String} {af : Array Edge} {v : Value} {d : Nat} {a : Act} {w : World} {x y : Operand} {D : FD} {B : Nat}
theorem s_setM {t e N M0 K g o : Nat} {u : Value} {a0 : Mtx} {r : List Int} (hF : Fr n F a) (ht : One P t) (hx : ev F x = some (.pointer (some ⟨g, o, none⟩))) (ho : o < a0.length) (hy : ev F y = some u) (hu : u.oneCell' = true)
    (hM : MOwn D B N M0 K w e v (some g) a0) (hr : RowO D B M0 K w u r) (he : e ≠ D.T) (hE : D.E ≠ e) (hI : Inv D B w)
    (k : ∀ w', Mb D B (some g) w w' → Inv D B w' → MOwn D B N M0 K w' e v (some g) (a0.set o r) → WL P ops K' rest a w') :
    WL P ops K' (⟨none, .store t x y, T, pp, af, none⟩ :: rest) a w := by
  obtain ⟨vals, h2, h3, h4⟩ := hM.ex
  refine s_set (D := D) (B := B) hF ht hx (by omega) hy hu h3 he hI ?_
  intro w' hm hI' ho'
  refine k w' hm hI' ⟨⟨vals.set o u, by simp [h2], ho', fun j z s hz hs => ?_⟩, hM.mn⟩
  by_cases hj : o = j
  · subst hj
    rw [List.getElem?_set_self (by omega)] at hz
    rw [List.getElem?_set_self ho] at hs
    obtain rfl := Option.some.inj hz
    obtain rfl := Option.some.inj hs
    exact hr.mb2 hm h3 hE hM.mn
  · rw [List.getElem?_set_ne hj] at hz hs
    exact (h4 j z s hz hs).mb2 hm h3 hE hM.mn
end
theorem MOwn.rowO {D : FD} {B N M0 K g cap i : Nat} {w : World} {E2 : TypeId} {b : Option Nat} {a : Mtx} {r : List Int} (h : MOwn D B N M0 K w E2 (.slice (some ⟨g, 0, none⟩) a.length cap) b a) (hE : E2 ≠ D.T) (hi : a[i]? = some r) :
    ∃ pr cr, KC D B w ⟨g, 0 + i, none⟩ (.slice pr r.length cr) ∧ RowO D B M0 K w (.slice pr r.length cr) r := by
  obtain ⟨vals, h1, h2, h3⟩ := h.ex
  have hl := (List.getElem?_eq_some_iff.1 hi).1
  obtain ⟨u, hu⟩ : ∃ u, vals[i]? = some u := ⟨_, List.getElem?_eq_getElem (by omega)⟩
  have hr := h3 i u r hu hi
  have hs : ∃ pr cr, u = .slice pr r.length cr := by
    rcases hr with ⟨b, ho, _⟩ | hr
    · obtain ⟨p, c, e⟩ := ho.shape; rw [zints_length] at e; exact ⟨p, c, e⟩
    · obtain ⟨p, c, e⟩ := hr.sl; rw [zints_length] at e; exact ⟨p, c, e⟩
  obtain ⟨pr, cr, rfl⟩ := hs
  exact ⟨pr, cr, Own.kc h2 hE hu, hr⟩
theorem tab_set {n m i : Nat} {f g : Tb} {r : List Int} (hr : r = trow m g i) (h : ∀ a, a < n → a ≠ i → ∀ j, j < m → g a j = f a j) : (tab n m f).set i r = tab n m g := by
  subst hr
  apply List.ext_getElem?
  intro l
  by_cases hl : l < n
  · by_cases e : i = l
    · subst e; rw [List.getElem?_set_self (by rw [tab_length]; exact hl), tab_at hl]; rfl
    · rw [List.getElem?_set_ne e, tab_at hl, tab_at hl]
      exact congrArg some (trow_congr (m := m) (f := f) (g := g) (i := l) (k := l) fun j hj => (h l hl (Ne.symm e) j hj).symm)
  · rw [List.getElem?_eq_none (by rw [List.length_set, tab_length]; omega), List.getElem?_eq_none (by rw [tab_length]; omega)]
def pivI (f : Tb) (n c t : Nat) : Int := match Fld.piv f n c t (n - t) with | none => -1 | some k => (k : Int)
namespace Fld
variable (F : Fld)
theorem swap_scl {n m t k s : Nat} {f : Tb} (ht : t < n) (hk : k < n) :
    ((tab n m f).set k (trow m f t)).set t (trow m (fun _ j => F.mul (f k j) s) 0) = tab n m (F.sclF t s m (fun i j => f (sw t k i) j)) := by
  have h1 : (tab n m f).set k (trow m f t) = tab n m (fun i j => if i = k then f t j else f i j) :=
    tab_set (trow_congr fun j _ => by rw [if_pos rfl]) fun a _ hne j _ => by rw [if_neg hne]
  rw [h1]
  refine tab_set (trow_congr fun j hj => ?_) fun a _ hne j _ => ?_
  · unfold sclF; rw [if_pos ⟨rfl, hj⟩]; show _ = F.mul (f (sw t k t) j) s; unfold sw; rw [if_pos rfl]
  · unfold sclF
    rw [if_neg (by omega)]
    show f (sw t k a) j = _
    unfold sw
    rw [if_neg hne]
    by_cases e : a = k
    · subst e; rw [if_pos rfl, if_pos rfl]
    · rw [if_neg e, if_neg e]
theorem cleF_zero {t c i : Nat} {f : Tb} (h : f i c = 0) : ∀ a j, F.cleF t c i f a j = F.cleF t c (i + 1) f a j := by
  intro a j
  unfold cleF
  by_cases h1 : a < i ∧ a ≠ t
  · rw [if_pos h1, if_pos ⟨by omega, h1.2⟩]
  · rw [if_neg h1]
    by_cases h2 : a < i + 1 ∧ a ≠ t
    · rw [if_pos h2]
      obtain rfl : a = i := by omega
      rw [h, F.zero_mul, Nat.xor_zero]
    · rw [if_neg h2]
theorem cleF_set {n m t c i : Nat} {f : Tb} (hi : i ≠ t) : (tab n m (F.cleF t c i f)).set i (trow m (fun a j => f i j ^^^ F.mul (f i c) (f t j)) 0) = tab n m (F.cleF t c (i + 1) f) := by
  refine tab_set (trow_congr fun j hj => ?_) fun a _ hne j _ => ?_
  · unfold cleF; rw [if_pos ⟨by omega, hi⟩]
  · unfold cleF
    by_cases h1 : a < i ∧ a ≠ t
    · rw [if_pos h1, if_pos ⟨by omega, h1.2⟩]
    · rw [if_neg h1, if_neg (by omega)]
end Fld
def xorZ (a b : List Int) : List Int := List.zipWith (fun x y => ((x.toNat ^^^ y.toNat : Nat) : Int)) a b
theorem MOwn.ptr {D : FD} {B N M0 K : Nat} {w : World} {E2 : TypeId} {v : Value} {b : Option Nat} {a : Mtx} (h : MOwn D B N M0 K w E2 v b a) (h0 : 0 < a.length) : ∃ g cap, v = .slice (some ⟨g, 0, none⟩) a.length cap ∧ b = some g := by
  obtain ⟨vals, h1, h2, h3⟩ := h.ex
  obtain ⟨g, cap, e1, e2⟩ := h2.ptr (by omega)
  exact ⟨g, cap, by rw [← h1]; exact e1, e2⟩
theorem MOwn.matS {D : FD} {B N M0 K n cap : Nat} {w : World} {E2 : TypeId} {sa : Option Addr} {b : Option Nat} {a : Mtx} (h : MOwn D B N M0 K w E2 (.slice sa n cap) b a) (hE : E2 ≠ D.T) (hN : M0 ≤ w.heap.size) : Mat D B w.heap.size w sa cap a := by
  obtain ⟨sa', cap', e, hm⟩ := h.mat hE hN
  obtain ⟨rfl, -, rfl⟩ := Value.slice.inj e
  exact hm
theorem pivI_neg {f : Tb} {n c t : Nat} (h : pivI f n c t < 0) : Fld.piv f n c t (n - t) = none := by
  unfold pivI at h
  cases hk : Fld.piv f n c t (n - t) with
  | none => rfl
  | some k => rw [hk] at h; dsimp only at h; omega
theorem pivI_nn {f : Tb} {n c t : Nat} (h : ¬ pivI f n c t < 0) : ∃ k, Fld.piv f n c t (n - t) = some k ∧ pivI f n c t = (k : Int) := by
  unfold pivI at *
  cases hk : Fld.piv f n c t (n - t) with
  | none => rw [hk] at h; exact absurd (by decide) h
  | some k => exact ⟨k, rfl, rfl⟩
theorem cle_row {wb p m t c k s i : Nat} (hp : Prm wb p) {f : Tb} (h : i ≠ t) (hc : c < m) (hsw : Fld.sw t k t = k) {g : Tb} (hg : g = hp.fld.sclF t s m (fun i j => f (Fld.sw t k i) j)) :
    trow m (fun _ j => hp.fld.cleF t c i g i j ^^^ hp.fld.mul (hp.fld.mul (f k j) s) (hp.fld.cleF t c i g i c)) 0 = trow m (fun _ j => g i j ^^^ hp.fld.mul (g i c) (g t j)) 0 := by
  refine trow_congr fun j hj => ?_
  have e1 : ∀ j, hp.fld.cleF t c i g i j = g i j := fun j => by unfold Fld.cleF; rw [if_neg (by omega)]
  have e2 : g t j = hp.fld.mul (f k j) s := by subst hg; unfold Fld.sclF; rw [if_pos ⟨rfl, hj⟩]; show hp.fld.mul (f (Fld.sw t k t) j) s = _; rw [hsw]
  rw [e1, e1, e2, hp.fld.comm (hp.fld.mul (f k j) s)]
end Go.Gam
