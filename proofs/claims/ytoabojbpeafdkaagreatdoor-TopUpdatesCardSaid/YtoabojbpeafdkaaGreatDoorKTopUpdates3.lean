/- Texts of the claim TopUpdates (part 3), put together in the order of their imports. -/
import Derived.Test.YtoabojbpeafdkaaGreatDoorKTopUpdates2
import Derived.Test.YtoabojbpeafdkaaGreatDoorProg
import Derived.WalkKit
import Derived.Laws.LoneSync
import Derived.Laws.NewBlocks
set_option linter.all false
set_option maxRecDepth 100000
set_option maxHeartbeats 1000000
/- The walks of package poly: each function returns what the plain function on numbers tells. -/
namespace Go.Proofs.YtoabojbpeafdkaaGreatDoor
open Go Go.Gam
namespace FxFPoly
theorem en200 : Ent Tryz.prog 200 := ent Tryz.func200 (by kernel_rfl) (by kernel_rfl)
theorem en218 : Ent Tryz.prog 218 := ent Tryz.func218 (by kernel_rfl) (by kernel_rfl)
theorem en270 : Ent Tryz.prog 270 := ent Tryz.func270 (by kernel_rfl) (by kernel_rfl)
theorem en271 : Ent Tryz.prog 271 := ent Tryz.func271 (by kernel_rfl) (by kernel_rfl)
theorem en272 : Ent Tryz.prog 272 := ent Tryz.func272 (by kernel_rfl) (by kernel_rfl)
theorem en273 : Ent Tryz.prog 273 := ent Tryz.func273 (by kernel_rfl) (by kernel_rfl)
theorem en274 : Ent Tryz.prog 274 := ent Tryz.func274 (by kernel_rfl) (by kernel_rfl)
theorem en278 : Ent Tryz.prog 278 := ent Tryz.func278 (by kernel_rfl) (by kernel_rfl)
theorem en318 : Ent Tryz.prog 318 := ent Tryz.func318 (by kernel_rfl) (by kernel_rfl)
theorem en319 : Ent Tryz.prog 319 := ent Tryz.func319 (by kernel_rfl) (by kernel_rfl)
theorem en323 : Ent Tryz.prog 323 := ent Tryz.func323 (by kernel_rfl) (by kernel_rfl)
theorem en324 : Ent Tryz.prog 324 := ent Tryz.func324 (by kernel_rfl) (by kernel_rfl)
theorem sc3 : Scalar Tryz.prog 3 := ⟨_, Tryz.underlying3, by simp, by simp⟩
theorem sc93 : Scalar Tryz.prog 93 := ⟨_, Tryz.underlying93, by simp, by simp⟩
theorem sl49 : Sl Tryz.prog 49 3 (.int .i64 0) 8 := sl_of Tryz.underlying49 rfl (by kernel_rfl)
end FxFPoly
open FxFPoly
def FDx : FD := ⟨288, 3, by decide, false⟩
def len8 : List UInt8 := [0, 1, 2, 2, 3, 3, 3, 3, 4, 4, 4, 4, 4, 4, 4, 4, 5, 5, 5, 5, 5, 5, 5, 5, 5, 5, 5, 5, 5, 5, 5, 5, 6, 6, 6, 6, 6, 6, 6, 6, 6, 6, 6, 6, 6, 6, 6, 6, 6, 6, 6, 6, 6, 6, 6, 6, 6, 6, 6, 6, 6, 6, 6, 6, 7, 7, 7, 7, 7, 7, 7, 7, 7, 7, 7, 7, 7, 7, 7, 7, 7, 7, 7, 7, 7, 7, 7, 7, 7, 7, 7, 7, 7, 7, 7, 7, 7, 7, 7, 7, 7, 7, 7, 7, 7, 7, 7, 7, 7, 7, 7, 7, 7, 7, 7, 7, 7, 7, 7, 7, 7, 7, 7, 7, 7, 7, 7, 7, 8, 8, 8, 8, 8, 8, 8, 8, 8, 8, 8, 8, 8, 8, 8, 8, 8, 8, 8, 8, 8, 8, 8, 8, 8, 8, 8, 8, 8, 8, 8, 8, 8, 8, 8, 8, 8, 8, 8, 8, 8, 8, 8, 8, 8, 8, 8, 8, 8, 8, 8, 8, 8, 8, 8, 8, 8, 8, 8, 8, 8, 8, 8, 8, 8, 8, 8, 8, 8, 8, 8, 8, 8, 8, 8, 8, 8, 8, 8, 8, 8, 8, 8, 8, 8, 8, 8, 8, 8, 8, 8, 8, 8, 8, 8, 8, 8, 8, 8, 8, 8, 8, 8, 8, 8, 8, 8, 8, 8, 8, 8, 8, 8, 8, 8, 8, 8, 8, 8, 8, 8, 8, 8, 8, 8, 8, 8, 8]
theorem len8_eq : len8 = (List.range 256).map fun n => UInt8.ofNat (blen n) := by decide +kernel
theorem len8_at {x : Nat} (h : x < 256) : len8[x]? = some (UInt8.ofNat (blen x)) := by rw [len8_eq]; exact blen_table x h
theorem Len64_ok (B X : Nat) (w : World) (hI : Inv FDx B w) (hX : X < 18446744073709551616) : Ret Tryz.prog 270 [.int .u64 (X : Int)] w fun v w' => v = .int .i64 (blen X : Int) ∧ w' = w := by
 refine enter 25 [(0, .int .u64 (X : Int))] 2 Tryz.func270 rfl rfl rfl rfl rfl ?_; intro a hF
 have hS := St.refl hI
 refine W_sr rfl fun K hK => ?_
 refine svw hK hF (v_assign rfl) rfl ?_; clear hF a hK K; intro a hF
 refine W_cut (fun a w' => ∃ x n : Nat, Fr 25 [(0, .int .u64 (x : Int)), (2, .int .i64 (n : Int))] a ∧ w = w' ∧ x < 2 ^ 32 ∧ n ≤ 32 ∧ blen x + n = blen X) ?_ ?_
 ·
  skip
  refine W_sr rfl fun K hK => ?_
  refine sv2w hK hF (v_move rfl) (v_geq rfl rfl) rfl rfl ?_; clear hF a hK K; intro a hF
  replace hF := hF.sub _ (c_ 4 rfl (c_ 2 rfl (c_ 0 rfl n_)))
  refine W_if hF rfl (fun hc1 => ?_) (fun hc1 => ?_)
  ·
   skip
   try simp only [dcl] at hc1
   refine W_sr rfl fun K hK => ?_
   refine sv3w hK hF (v_move rfl) ((v_shrN (m := X) rfl rfl (by decide))) (v_assign rfl) rfl rfl rfl ?_; clear hF a hK K; intro a hF
   replace hF := hF.sub _ (c_ 0 rfl (c_ 2 rfl n_))
   refine W_reg rfl fun K hK => ?_
   refine svw hK hF (v_assign rfl) rfl ?_; clear hF a hK K; intro a hF
   exact ⟨X / 2 ^ 32, 32, hF.sub _ (c_ 0 rfl (c_ 2 rfl n_)), rfl, (Nat.div_lt_iff_lt_mul (by decide)).2 (by omega), by omega, blen_shift (by omega)⟩
  skip
  try simp only [dcl] at hc1
  refine W_skip ?_
  exact ⟨X, 0, hF.sub _ (c_ 0 rfl (c_ 2 rfl n_)), rfl, by omega, by omega, rfl⟩
 skip
 clear hF
 rintro a _ ⟨x, n, hF, rfl, hx, hn, he⟩
 refine W_cut (fun a w' => ∃ x n : Nat, Fr 25 [(0, .int .u64 (x : Int)), (2, .int .i64 (n : Int))] a ∧ w = w' ∧ x < 2 ^ 16 ∧ n ≤ 48 ∧ blen x + n = blen X) ?_ ?_
 ·
  skip
  refine W_sr rfl fun K hK => ?_
  refine sv2w hK hF (v_move rfl) (v_geq rfl rfl) rfl rfl ?_; clear hF a hK K; intro a hF
  replace hF := hF.sub _ (c_ 8 rfl (c_ 0 rfl (c_ 2 rfl n_)))
  refine W_if hF rfl (fun hc2 => ?_) (fun hc2 => ?_)
  ·
   skip
   try simp only [dcl] at hc2
   refine W_sr rfl fun K hK => ?_
   refine sv3w hK hF (v_move rfl) ((v_shrN (m := x) rfl rfl (by decide))) (v_assign rfl) rfl rfl rfl ?_; clear hF a hK K; intro a hF
   replace hF := hF.sub _ (c_ 0 rfl (c_ 2 rfl n_))
   refine W_reg rfl fun K hK => ?_
   refine sv3w hK hF (v_move rfl) (v_addI rfl rfl (by omega)) (v_assign rfl) rfl rfl rfl ?_; clear hF a hK K; intro a hF
   replace hF := hF.sub _ (c_ 2 rfl (c_ 0 rfl n_))
   exact ⟨x / 2 ^ 16, n + 16, hF.sub _ (c_ 0 rfl (c_ 2 rfl n_)), rfl, (Nat.div_lt_iff_lt_mul (by decide)).2 (by omega), by omega, by have := blen_shift (x := x) (k := 16) (by omega); omega⟩
  skip
  try simp only [dcl] at hc2
  refine W_skip ?_
  exact ⟨x, n, hF.sub _ (c_ 0 rfl (c_ 2 rfl n_)), rfl, by omega, by omega, he⟩
 skip
 clear hF
 rintro a _ ⟨x, n, hF, rfl, hx, hn, he⟩
 refine W_cut (fun a w' => ∃ x n : Nat, Fr 25 [(0, .int .u64 (x : Int)), (2, .int .i64 (n : Int))] a ∧ w = w' ∧ x < 2 ^ 8 ∧ n ≤ 56 ∧ blen x + n = blen X) ?_ ?_
 ·
  skip
  refine W_sr rfl fun K hK => ?_
  refine sv2w hK hF (v_move rfl) (v_geq rfl rfl) rfl rfl ?_; clear hF a hK K; intro a hF
  replace hF := hF.sub _ (c_ 14 rfl (c_ 0 rfl (c_ 2 rfl n_)))
  refine W_if hF rfl (fun hc3 => ?_) (fun hc3 => ?_)
  ·
   skip
   try simp only [dcl] at hc3
   refine W_sr rfl fun K hK => ?_
   refine sv3w hK hF (v_move rfl) ((v_shrN (m := x) rfl rfl (by decide))) (v_assign rfl) rfl rfl rfl ?_; clear hF a hK K; intro a hF
   replace hF := hF.sub _ (c_ 0 rfl (c_ 2 rfl n_))
   refine W_reg rfl fun K hK => ?_
   refine sv3w hK hF (v_move rfl) (v_addI rfl rfl (by omega)) (v_assign rfl) rfl rfl rfl ?_; clear hF a hK K; intro a hF
   replace hF := hF.sub _ (c_ 2 rfl (c_ 0 rfl n_))
   exact ⟨x / 2 ^ 8, n + 8, hF.sub _ (c_ 0 rfl (c_ 2 rfl n_)), rfl, (Nat.div_lt_iff_lt_mul (by decide)).2 (by omega), by omega, by have := blen_shift (x := x) (k := 8) (by omega); omega⟩
  skip
  try simp only [dcl] at hc3
  refine W_skip ?_
  exact ⟨x, n, hF.sub _ (c_ 0 rfl (c_ 2 rfl n_)), rfl, by omega, by omega, he⟩
 skip
 clear hF
 rintro a _ ⟨x, n, hF, rfl, hx, hn, he⟩
 have hbl := blen_le (n := x) (k := 8) (by omega)
 refine W_sr rfl fun K hK => ?_
 refine sv3 hF (v_move rfl) (v_move rfl) (v_cv Tryz.underlying272 Tryz.underlying5 rfl (wrap_u8 _ (by omega))) rfl rfl rfl ?_; clear hF a; intro a hF
 refine sv hF (v_ixStr (b := UInt8.ofNat (blen x)) Tryz.underlying9 rfl rfl (by omega) (by rw [toNat_c]; exact len8_at (by omega))) rfl ?_; clear hF a; intro a hF
 refine sv3w hK hF ((v_cv Tryz.underlying5 Tryz.underlying3 rfl ((congrArg _ (blen_byte (by omega))).trans (wrap_i64 _ (by omega))))) (v_addI rfl rfl (by omega)) (v_assign rfl) rfl rfl rfl ?_; clear hF a hK K; intro a hF
 replace hF := hF.sub _ (c_ 2 rfl n_)
 refine W_ret ?_
 refine ⟨_, _, hF, rfl, ?_⟩
 exact ⟨by rw [← he]; congr 1; omega, rfl⟩
theorem Len32_ok (B X : Nat) (w : World) (hI : Inv FDx B w) (hX : X < 4294967296) : Ret Tryz.prog 324 [.int .u32 (X : Int)] w fun v w' => v = .int .i64 (blen X : Int) ∧ w' = w := by
 refine enter 19 [(0, .int .u32 (X : Int))] 2 Tryz.func324 rfl rfl rfl rfl rfl ?_; intro a hF
 have hS := St.refl hI
 refine W_sr rfl fun K hK => ?_
 refine svw hK hF (v_assign rfl) rfl ?_; clear hF a hK K; intro a hF
 refine W_cut (fun a w' => ∃ x n : Nat, Fr 19 [(0, .int .u32 (x : Int)), (2, .int .i64 (n : Int))] a ∧ w = w' ∧ x < 2 ^ 16 ∧ n ≤ 48 ∧ blen x + n = blen X) ?_ ?_
 ·
  skip
  refine W_sr rfl fun K hK => ?_
  refine sv2w hK hF (v_move rfl) (v_geq rfl rfl) rfl rfl ?_; clear hF a hK K; intro a hF
  replace hF := hF.sub _ (c_ 4 rfl (c_ 2 rfl (c_ 0 rfl n_)))
  refine W_if hF rfl (fun hc1 => ?_) (fun hc1 => ?_)
  ·
   skip
   try simp only [dcl] at hc1
   refine W_sr rfl fun K hK => ?_
   refine sv3w hK hF (v_move rfl) ((v_shrN (m := X) rfl rfl (by decide))) (v_assign rfl) rfl rfl rfl ?_; clear hF a hK K; intro a hF
   replace hF := hF.sub _ (c_ 0 rfl (c_ 2 rfl n_))
   refine W_reg rfl fun K hK => ?_
   refine svw hK hF (v_assign rfl) rfl ?_; clear hF a hK K; intro a hF
   exact ⟨X / 2 ^ 16, 16, hF.sub _ (c_ 0 rfl (c_ 2 rfl n_)), rfl, (Nat.div_lt_iff_lt_mul (by decide)).2 (by omega), by omega, blen_shift (by omega)⟩
  skip
  try simp only [dcl] at hc1
  refine W_skip ?_
  exact ⟨X, 0, hF.sub _ (c_ 0 rfl (c_ 2 rfl n_)), rfl, by omega, by omega, rfl⟩
 skip
 clear hF
 rintro a _ ⟨x, n, hF, rfl, hx, hn, he⟩
 refine W_cut (fun a w' => ∃ x n : Nat, Fr 19 [(0, .int .u32 (x : Int)), (2, .int .i64 (n : Int))] a ∧ w = w' ∧ x < 2 ^ 8 ∧ n ≤ 56 ∧ blen x + n = blen X) ?_ ?_
 ·
  skip
  refine W_sr rfl fun K hK => ?_
  refine sv2w hK hF (v_move rfl) (v_geq rfl rfl) rfl rfl ?_; clear hF a hK K; intro a hF
  replace hF := hF.sub _ (c_ 8 rfl (c_ 0 rfl (c_ 2 rfl n_)))
  refine W_if hF rfl (fun hc2 => ?_) (fun hc2 => ?_)
  ·
   skip
   try simp only [dcl] at hc2
   refine W_sr rfl fun K hK => ?_
   refine sv3w hK hF (v_move rfl) ((v_shrN (m := x) rfl rfl (by decide))) (v_assign rfl) rfl rfl rfl ?_; clear hF a hK K; intro a hF
   replace hF := hF.sub _ (c_ 0 rfl (c_ 2 rfl n_))
   refine W_reg rfl fun K hK => ?_
   refine sv3w hK hF (v_move rfl) (v_addI rfl rfl (by omega)) (v_assign rfl) rfl rfl rfl ?_; clear hF a hK K; intro a hF
   replace hF := hF.sub _ (c_ 2 rfl (c_ 0 rfl n_))
   exact ⟨x / 2 ^ 8, n + 8, hF.sub _ (c_ 0 rfl (c_ 2 rfl n_)), rfl, (Nat.div_lt_iff_lt_mul (by decide)).2 (by omega), by omega, by have := blen_shift (x := x) (k := 8) (by omega); omega⟩
  skip
  try simp only [dcl] at hc2
  refine W_skip ?_
  exact ⟨x, n, hF.sub _ (c_ 0 rfl (c_ 2 rfl n_)), rfl, by omega, by omega, he⟩
 skip
 clear hF
 rintro a _ ⟨x, n, hF, rfl, hx, hn, he⟩
 have hbl := blen_le (n := x) (k := 8) (by omega)
 refine W_sr rfl fun K hK => ?_
 refine sv3 hF (v_move rfl) (v_move rfl) (v_cv Tryz.underlying93 Tryz.underlying5 rfl (wrap_u8 _ (by omega))) rfl rfl rfl ?_; clear hF a; intro a hF
 refine sv hF (v_ixStr (b := UInt8.ofNat (blen x)) Tryz.underlying9 rfl rfl (by omega) (by rw [toNat_c]; exact len8_at (by omega))) rfl ?_; clear hF a; intro a hF
 refine sv3w hK hF ((v_cv Tryz.underlying5 Tryz.underlying3 rfl ((congrArg _ (blen_byte (by omega))).trans (wrap_i64 _ (by omega))))) (v_addI rfl rfl (by omega)) (v_assign rfl) rfl rfl rfl ?_; clear hF a hK K; intro a hF
 replace hF := hF.sub _ (c_ 2 rfl n_)
 refine W_ret ?_
 refine ⟨_, _, hF, rfl, ?_⟩
 exact ⟨by rw [← he]; congr 1; omega, rfl⟩
theorem Deg_ok (B p : Nat) (w : World) (hI : Inv FDx B w) (hp : p < 18446744073709551616) : Ret Tryz.prog 200 [.int .u64 (p : Int)] w fun v w' => v = .int .i64 (Px.deg p) ∧ St FDx B w w'  := by
 refine enter 6 [(0, .int .u64 (p : Int))] 2 Tryz.func200 rfl rfl rfl rfl rfl ?_; intro a hF
 have hS := St.refl hI
 have hb := blen_le (n := p) (k := 64) (by omega)
 refine W_sr rfl fun K hK => ?_
 refine svw hK hF (v_assign rfl) rfl ?_; clear hF a hK K; intro a hF
 refine W_sr rfl fun K hK => ?_
 refine sv hF (v_move rfl) rfl ?_; clear hF a; intro a hF
 refine sc hF rfl rfl rfl en270 rfl (Len64_ok B p _ hI hp) ?_; clear hF a; intro v w' a hv hF
 obtain ⟨rfl, rfl⟩ := hv
 have hS' := St.refl hS.inv
 replace hS := hS.trans hS'
 clear hS'
 refine sv2w hK hF (v_subI rfl rfl (by omega)) (v_assign rfl) rfl rfl ?_; clear hF a hK K; intro a hF
 replace hF := hF.sub _ (c_ 2 rfl n_)
 refine W_ret ?_
 refine ⟨_, _, hF, rfl, ?_⟩
 exact ⟨congrArg _ (deg_blen p), hS⟩
theorem Mul1_ok (B : Nat) (i b c : Nat) (w : World) (hI : Inv FDx B w) (hi : i ≤ 32) (hb : b < 4294967296) (hc : w.cell? ⟨c, 0, none⟩ = some (.int .u32 (b : Int))) :
  Ret Tryz.prog 323 [.int .i64 (i : Int), .pointer (some ⟨c, 0, none⟩)] w fun v w' => v = .bool (b.testBit i) ∧ w' = w := by
 refine enter 9 [(0, .int .i64 (i : Int)), (1, .pointer (some ⟨c, 0, none⟩))] 3 Tryz.func323 rfl rfl rfl rfl rfl ?_; intro a hF
 have hS := St.refl hI
 refine W_sr rfl fun K hK => ?_
 refine svw hK hF (v_assign rfl) rfl ?_; clear hF a hK K; intro a hF
 refine W_sr rfl fun K hK => ?_
 refine sv hF (v_load sc93 rfl (by first | assumption | (rw [toNat_c]; assumption) | exact KC.c (by assumption) | (rw [toNat_c]; exact KC.c (by assumption)) | exact Box.at (by assumption))) rfl ?_; clear hF a; intro a hF
 refine sv5w hK hF (v_move rfl) (v_shrN rfl rfl (by omega)) (v_andN (n := 1) rfl rfl (fits_u32 (div_lt hb)) (fits_u32 (by decide))) (v_eql rfl rfl) (v_assign rfl) rfl rfl rfl rfl rfl ?_; clear hF a hK K; intro a hF
 replace hF := hF.sub _ (c_ 3 rfl n_)
 refine W_ret ?_
 refine ⟨_, _, hF, rfl, ?_⟩
 exact ⟨congrArg _ (bit_says .u32 hi), rfl⟩
theorem Mul_ok (B A b : Nat) (w : World) (hI : Inv FDx B w) (ha : A < 4294967296) (hb : b < 4294967296) : Ret Tryz.prog 278 [.int .u32 (A : Int), .int .u32 (b : Int)] w fun v w' => v = .int .u64 (Px.mul A b : Int) ∧ St FDx B w w'  := by
 refine enter 25 [(0, .int .u32 (A : Int)), (1, .int .u32 (b : Int))] 4 Tryz.func278 rfl rfl rfl rfl rfl ?_; intro a hF
 have hS := St.refl hI
 refine W_sr rfl fun K hK => ?_
 refine s_box (D := FDx) (B := B) hF rfl (by decide) hI rfl (fun w' a hm hbox hsz hF => ?_)
 replace hS := hS.mb0 hm
 have hc : w'.cell? ⟨w.heap.size, 0, none⟩ = some (.int .u32 (b : Int)) := hbox.at 0 rfl
 clear hbox hm
 generalize w.heap.size = c at *
 have hbl := blen_le (n := b) (k := 32) (by omega)
 refine svw hK hF (v_assign rfl) rfl ?_; clear hF a hK K; intro a hF
 replace hF := hF.sub _ (c_ 4 rfl (c_ 3 rfl (c_ 0 rfl n_)))
 refine W_sr rfl fun K hK => ?_
 refine svw hK hF (v_assign rfl) rfl ?_; clear hF a hK K; intro a hF
 refine W_sr rfl fun K hK => ?_
 refine sv2w hK hF (v_mkf rfl) (v_assign rfl) rfl rfl ?_; clear hF a hK K; intro a hF
 replace hF := hF.sub _ (c_ 6 rfl (c_ 5 rfl (c_ 4 rfl (c_ 3 rfl (c_ 0 rfl n_)))))
 refine W_seq ?_
 refine W_sr rfl fun K hK => ?_
 refine sv hF (v_load sc93 rfl (by first | assumption | (rw [toNat_c]; assumption) | exact KC.c (by assumption) | (rw [toNat_c]; exact KC.c (by assumption)) | exact Box.at (by assumption))) rfl ?_; clear hF a; intro a hF
 refine sc hF rfl rfl rfl en324 rfl (Len32_ok B b _ hS.inv hb) ?_; clear hF a; intro v w' a hv hF
 obtain ⟨rfl, rfl⟩ := hv
 have hS' := St.refl hS.inv
 replace hS := hS.trans hS'
 clear hS'
 refine svw hK hF (v_move rfl) rfl ?_; clear hF a hK K; intro a hF
 replace hF := hF.sub _ (c_ 11 rfl (c_ 10 rfl (c_ 6 rfl (c_ 5 rfl (c_ 4 rfl (c_ 0 rfl n_))))))
 refine W_block ?_
 refine W_loop (fun m a w1 => ∃ i q : Nat, Fr 25 [(0, .int .u32 (A : Int)), (5, .int .u64 (q : Int)), (6, .func (.func 323) ([] : List Value).toArray [.pointer (some ⟨c, 0, none⟩)].toArray), (10, .int .i64 (blen b : Int)), (11, .int .i64 (i : Int))] a ∧ w1 = w' ∧ i ≤ blen b ∧ q = Px.mul A (b % 2 ^ i) ∧ m + i = blen b) (blen b) ?_ ?_
 · skip
   exact ⟨0, 0, hF.sub _ (c_ 0 rfl (c_ 5 rfl (c_ 6 rfl (c_ 10 rfl (c_ 11 rfl n_))))), rfl, by omega, (mul_none A b).symm, by omega⟩
 skip
 clear hF
 rintro m a _ ⟨i, q, hF, rfl, hi, hq, hm⟩
 refine W_sr rfl fun K hK => ?_
 refine svw hK hF (v_lss rfl rfl) rfl ?_; clear hF a hK K; intro a hF
 refine W_seq ?_
 refine W_if hF rfl (fun hc1 => ?_) (fun hc1 => ?_)
 ·
  skip
  try simp only [dcl] at hc1
  refine W_skip ?_
  refine W_seq ?_
  refine W_block ?_
  refine W_sr rfl fun K hK => ?_
  refine sv2w hK hF (v_move rfl) (v_assign rfl) rfl rfl ?_; clear hF a hK K; intro a hF
  replace hF := hF.sub _ (c_ 7 rfl (c_ 0 rfl (c_ 5 rfl (c_ 6 rfl (c_ 10 rfl (c_ 11 rfl n_))))))
  refine W_sr rfl fun K hK => ?_
  refine sv2 hF (v_move rfl) (v_move rfl) rfl rfl ?_; clear hF a; intro a hF
  refine sc hF rfl rfl rfl en323 rfl (Mul1_ok B i b c _ hS.inv (by omega) hb hc) ?_; clear hF a; intro v w' a hv hF
  obtain ⟨rfl, rfl⟩ := hv
  have hS' := St.refl hS.inv
  replace hS := hS.trans hS'
  clear hS'
  refine wn hK ?_
  clear hK K
  replace hF := hF.sub _ (c_ 16 rfl (c_ 7 rfl (c_ 0 rfl (c_ 5 rfl (c_ 6 rfl (c_ 10 rfl (c_ 11 rfl n_)))))))
  refine W_if hF rfl (fun hc2 => ?_) (fun hc2 => ?_)
  ·
   skip
   try simp only [dcl] at hc2
   have hst := mul_bit A b i
   rw [hc2, if_pos rfl, ← hq] at hst
   have h1 : A * 2 ^ i < 18446744073709551616 := Nat.lt_of_lt_of_le (shl_lt (m := 32) ha) ((Nat.pow_le_pow_right (n := 2) (by decide) (show 32 + i ≤ 64 by omega)))
   have h2 : b % 2 ^ i < 4294967296 := Nat.lt_of_le_of_lt (Nat.mod_le _ _) hb
   have h3 := mul_lt64 ha h2
   rw [← hq] at h3
   refine W_reg rfl fun K hK => ?_
   refine sv5 hF (v_move rfl) (v_move rfl) (v_cv Tryz.underlying93 Tryz.underlying272 rfl (wrap_u64 _ (by omega))) (v_move rfl) ((v_shl rfl rfl (by omega)).as (congrArg _ (shl_says h1 (by omega)))) rfl rfl rfl rfl rfl ?_; clear hF a; intro a hF
   refine sv hF (v_xorN rfl rfl (fits_u64 h3) (fits_u64 (by rw [Nat.shiftLeft_eq]; exact h1))) rfl ?_; clear hF a; intro a hF
   refine svw hK hF (v_assign rfl) rfl ?_; clear hF a hK K; intro a hF
   replace hF := hF.sub _ (c_ 5 rfl (c_ 0 rfl (c_ 6 rfl (c_ 10 rfl (c_ 11 rfl n_)))))
   refine W_reg rfl fun K hK => ?_
   refine sv2w hK hF (v_addI rfl rfl (by omega)) (v_move rfl) rfl rfl ?_; clear hF a hK K; intro a hF
   exact ⟨m - 1, by omega, i + 1, _, hF.sub _ (c_ 0 rfl (c_ 5 rfl (c_ 6 rfl (c_ 10 rfl (c_ 11 rfl n_))))), rfl, by omega, hst.symm, by omega⟩
  skip
  try simp only [dcl] at hc2
  have hst := mul_bit A b i
  rw [hc2, if_neg (by decide), ← hq, Nat.xor_zero] at hst
  refine W_skip ?_
  refine W_reg rfl fun K hK => ?_
  refine sv2w hK hF (v_addI rfl rfl (by omega)) (v_move rfl) rfl rfl ?_; clear hF a hK K; intro a hF
  replace hF := hF.sub _ (c_ 11 rfl (c_ 23 rfl (c_ 0 rfl (c_ 5 rfl (c_ 6 rfl (c_ 10 rfl n_))))))
  exact ⟨m - 1, by omega, i + 1, _, hF.sub _ (c_ 0 rfl (c_ 5 rfl (c_ 6 rfl (c_ 10 rfl (c_ 11 rfl n_))))), rfl, by omega, hst.symm, by omega⟩
 skip
 try simp only [dcl] at hc1
 refine W_exit rfl ?_
 refine W_sr rfl fun K hK => ?_
 refine sv2w hK hF (v_move rfl) (v_assign rfl) rfl rfl ?_; clear hF a hK K; intro a hF
 replace hF := hF.sub _ (c_ 4 rfl (c_ 24 rfl (c_ 0 rfl (c_ 5 rfl (c_ 6 rfl (c_ 10 rfl (c_ 11 rfl n_)))))))
 refine W_ret ?_
 refine ⟨_, _, hF, rfl, ?_⟩
 refine ⟨?_, hS⟩
 obtain rfl : i = blen b := by omega
 rw [hq, mul_all]
theorem Mod_ok (B A p : Nat) (w : World) (hI : Inv FDx B w) (hA : A < 18446744073709551616) (hp : p < 4294967296) : Ret Tryz.prog 272 [.int .u64 (A : Int), .int .u32 (p : Int)] w fun v w' => v = .int .u32 (Px.mod A p : Int) ∧ St FDx B w w'  := by
 refine enter 34 [(0, .int .u64 (A : Int)), (1, .int .u32 (p : Int))] 4 Tryz.func272 rfl rfl rfl rfl rfl ?_; intro a hF
 have hS := St.refl hI
 refine W_sr rfl fun K hK => ?_
 refine svw hK hF (v_assign rfl) rfl ?_; clear hF a hK K; intro a hF
 refine W_seq ?_
 refine W_sr rfl fun K hK => ?_
 refine sv2w hK hF (v_move rfl) (v_eql rfl rfl) rfl rfl ?_; clear hF a hK K; intro a hF
 replace hF := hF.sub _ (c_ 8 rfl (c_ 4 rfl (c_ 0 rfl (c_ 1 rfl n_))))
 refine W_if hF rfl (fun hc1 => ?_) (fun hc1 => ?_)
 ·
  skip
  try simp only [dcl] at hc1
  obtain rfl : p = 0 := by omega
  refine W_sr rfl fun K hK => ?_
  refine svw hK hF (v_assign rfl) rfl ?_; clear hF a hK K; intro a hF
  replace hF := hF.sub _ (c_ 4 rfl (c_ 0 rfl (c_ 1 rfl n_)))
  refine W_ret ?_
  refine ⟨_, _, hF, rfl, ?_⟩
  exact ⟨by rw [Px.mod_zero]; rfl, hS⟩
 skip
 try simp only [dcl] at hc1
 have hp0 : p ≠ 0 := by omega
 have hl := log2_lt hp0 (k := 32) hp
 refine W_skip ?_
 refine W_sr rfl fun K hK => ?_
 refine sv2 hF (v_move rfl) (v_cv Tryz.underlying93 Tryz.underlying272 rfl (wrap_u64 _ (by omega))) rfl rfl ?_; clear hF a; intro a hF
 refine sc hF rfl rfl rfl en200 rfl (Deg_ok B p _ hS.inv (by omega)) ?_; clear hF a; intro v w' a hv hF
 obtain ⟨rfl, hS'⟩ := hv
 replace hS := hS.trans hS'
 clear hS'
 refine svw hK hF (v_assign rfl) rfl ?_; clear hF a hK K; intro a hF
 replace hF := hF.sub _ (c_ 5 rfl (c_ 4 rfl (c_ 0 rfl (c_ 1 rfl n_))))
 refine W_seq ?_
 refine W_sr rfl fun K hK => ?_
 refine sv hF (v_move rfl) rfl ?_; clear hF a; intro a hF
 refine sc hF rfl rfl rfl en200 rfl (Deg_ok B A _ hS.inv hA) ?_; clear hF a; intro v w' a hv hF
 obtain ⟨rfl, hS'⟩ := hv
 replace hS := hS.trans hS'
 clear hS'
 refine svw hK hF (v_assign rfl) rfl ?_; clear hF a hK K; intro a hF
 replace hF := hF.sub _ (c_ 6 rfl (c_ 5 rfl (c_ 4 rfl (c_ 0 rfl (c_ 1 rfl n_)))))
 refine W_block ?_
 refine W_loop (fun m a w1 => ∃ (i : Int) (q : Nat), Fr 34 [(0, .int .u64 (q : Int)), (1, .int .u32 (p : Int)), (5, .int .i64 (Px.deg p)), (6, .int .i64 i)] a ∧ St FDx B w w1 ∧ m = (i + 1).toNat ∧ -1 ≤ i ∧ ((Px.deg A < Px.deg p ∧ i = Px.deg A ∧ q = A) ∨ ModAt A p i q)) ((Px.deg A + 1).toNat) ?_ ?_
 ·
  skip
  refine ⟨_, _, hF.sub _ (c_ 0 rfl (c_ 1 rfl (c_ 5 rfl (c_ 6 rfl n_)))), hS, rfl, deg_ge _, ?_⟩
  by_cases h9 : Px.deg A < Px.deg p
  · exact .inl ⟨h9, rfl, rfl⟩
  exact .inr (modAt_start hp0 hA (by rw [deg_pos hp0] at h9; omega))
 skip
 clear hF
 clear hS
 rintro m a w1 ⟨i, q, hF, hS, rfl, hi1, hm⟩
 refine W_seq ?_
 refine W_sr rfl fun K hK => ?_
 refine sv3w hK hF (v_move rfl) (v_move rfl) (v_geq rfl rfl) rfl rfl rfl ?_; clear hF a hK K; intro a hF
 replace hF := hF.sub _ (c_ 16 rfl (c_ 0 rfl (c_ 1 rfl (c_ 5 rfl (c_ 6 rfl n_)))))
 refine W_if hF rfl (fun hc2 => ?_) (fun hc2 => ?_)
 ·
  skip
  try simp only [dcl] at hc2
  replace hm : ModAt A p i q := by
   rcases hm with ⟨h1, h2, h3⟩ | h1
   · omega
   exact h1
  rw [deg_pos hp0] at hc2 hF
  obtain ⟨j, rfl⟩ : ∃ j : Nat, i = (j : Int) := ⟨i.toNat, by omega⟩
  have hq : q < 2 ^ 64 := Nat.lt_of_lt_of_le hm.lt (Nat.pow_le_pow_right (by decide) (by have := hm.hi; omega))
  have hj := hm.hi
  have hst := (modAt_step hm hp0 (by omega)).1
  rw [toNat_c] at hst
  refine W_skip ?_
  refine W_seq ?_
  refine W_block ?_
  refine W_sr rfl fun K hK => ?_
  refine sv5w hK hF (v_move rfl) (v_move rfl) (v_shrN rfl rfl (by omega)) (v_andN (n := 1) rfl rfl (fits_u64 (div_lt hq)) (fits_u64 (by decide))) (v_eql rfl rfl) rfl rfl rfl rfl rfl ?_; clear hF a hK K; intro a hF
  replace hF := hF.sub _ (c_ 23 rfl (c_ 0 rfl (c_ 1 rfl (c_ 5 rfl (c_ 6 rfl n_)))))
  refine W_if hF rfl (fun hc3 => ?_) (fun hc3 => ?_)
  ·
   skip
   try simp only [dcl] at hc3
   replace hc3 := bit_T .u64 (show j ≤ 64 by omega) hc3
   rw [red_bit hc3] at hst
   have hsh := shl_lt64 hp0 hp hj (by omega)
   refine W_reg rfl fun K hK => ?_
   refine sv6 hF (v_move rfl) (v_move rfl) (v_cv Tryz.underlying93 Tryz.underlying272 rfl (wrap_u64 _ (by omega))) (v_move rfl) (v_move rfl) (v_subI rfl rfl (by omega)) rfl rfl rfl rfl rfl rfl ?_; clear hF a; intro a hF
   refine sv hF ((v_shl rfl rfl (by omega)).as (congrArg _ (shl_says' (i := j - Nat.log2 p) (by omega) hsh (by omega)))) rfl ?_; clear hF a; intro a hF
   refine sv hF (v_xorN rfl rfl (fits_u64 hq) (fits_u64 (by rw [Nat.shiftLeft_eq]; exact hsh))) rfl ?_; clear hF a; intro a hF
   refine svw hK hF (v_assign rfl) rfl ?_; clear hF a hK K; intro a hF
   replace hF := hF.sub _ (c_ 0 rfl (c_ 1 rfl (c_ 5 rfl (c_ 6 rfl n_))))
   refine W_reg rfl fun K hK => ?_
   refine sv3w hK hF (v_move rfl) (v_subI rfl rfl (by omega)) (v_assign rfl) rfl rfl rfl ?_; clear hF a hK K; intro a hF
   rw [← deg_pos hp0] at hF
   exact ⟨_, by omega, _, _, hF.sub _ (c_ 0 rfl (c_ 1 rfl (c_ 5 rfl (c_ 6 rfl n_)))), hS, rfl, by omega, .inr hst⟩
  skip
  try simp only [dcl] at hc3
  replace hc3 := bit_F .u64 (show j ≤ 64 by omega) hc3
  rw [red_nobit hc3] at hst
  refine W_skip ?_
  refine W_reg rfl fun K hK => ?_
  refine sv3w hK hF (v_move rfl) (v_subI rfl rfl (by omega)) (v_assign rfl) rfl rfl rfl ?_; clear hF a hK K; intro a hF
  replace hF := hF.sub _ (c_ 6 rfl (c_ 18 rfl (c_ 17 rfl (c_ 0 rfl (c_ 1 rfl (c_ 5 rfl n_))))))
  rw [← deg_pos hp0] at hF
  exact ⟨_, by omega, _, _, hF.sub _ (c_ 0 rfl (c_ 1 rfl (c_ 5 rfl (c_ 6 rfl n_)))), hS, rfl, by omega, .inr hst⟩
 skip
 try simp only [dcl] at hc2
 have hfin : q = Px.mod A p := by
  rcases hm with ⟨h1, h2, h3⟩ | h1
  · rw [h3]; exact (mod_low hp0 (by rw [← deg_pos hp0]; exact h1)).symm
  exact modAt_end h1 (by rw [← deg_pos hp0]; omega)
 have hlt := mod_lt32 A hp
 rw [← hfin] at hlt
 refine W_exit rfl ?_
 refine W_sr rfl fun K hK => ?_
 refine sv3w hK hF (v_move rfl) (v_cv Tryz.underlying272 Tryz.underlying93 rfl (wrap_u32 _ (by omega))) (v_assign rfl) rfl rfl rfl ?_; clear hF a hK K; intro a hF
 replace hF := hF.sub _ (c_ 4 rfl (c_ 33 rfl (c_ 32 rfl (c_ 0 rfl (c_ 1 rfl (c_ 5 rfl (c_ 6 rfl n_)))))))
 refine W_ret ?_
 refine ⟨_, _, hF, rfl, ?_⟩
 exact ⟨by rw [hfin], hS⟩
theorem MulMod_ok (B x y p : Nat) (w : World) (hI : Inv FDx B w) (hx : x < 4294967296) (hy : y < 4294967296) (hp : p < 4294967296) : Ret Tryz.prog 218 [.int .u32 (x : Int), .int .u32 (y : Int), .int .u32 (p : Int)] w fun v w' => v = .int .u32 (Px.mulMod x y p : Int) ∧ St FDx B w w'  := by
 refine enter 12 [(0, .int .u32 (x : Int)), (1, .int .u32 (y : Int)), (2, .int .u32 (p : Int))] 6 Tryz.func218 rfl rfl rfl rfl rfl ?_; intro a hF
 have hS := St.refl hI
 refine W_sr rfl fun K hK => ?_
 refine svw hK hF (v_assign rfl) rfl ?_; clear hF a hK K; intro a hF
 refine W_sr rfl fun K hK => ?_
 refine sv2 hF (v_move rfl) (v_move rfl) rfl rfl ?_; clear hF a; intro a hF
 refine sc hF rfl rfl rfl en278 rfl (Mul_ok B x y _ hS.inv hx hy) ?_; clear hF a; intro v w' a hv hF
 obtain ⟨rfl, hS'⟩ := hv
 replace hS := hS.trans hS'
 clear hS'
 refine sv hF (v_move rfl) rfl ?_; clear hF a; intro a hF
 refine sc hF rfl rfl rfl en272 rfl (Mod_ok B (Px.mul x y) p _ hS.inv (mul_lt64 hx hy) hp) ?_; clear hF a; intro v w' a hv hF
 obtain ⟨rfl, hS'⟩ := hv
 replace hS := hS.trans hS'
 clear hS'
 refine svw hK hF (v_assign rfl) rfl ?_; clear hF a hK K; intro a hF
 replace hF := hF.sub _ (c_ 6 rfl n_)
 refine W_ret ?_
 refine ⟨_, _, hF, rfl, ?_⟩
 exact ⟨rfl, hS⟩
theorem gcd_ok (B X Y : Nat) (w : World) (hI : Inv FDx B w) (hX : X < 4294967296) (hY : Y < 4294967296) : Ret Tryz.prog 319 [.int .u32 (X : Int), .int .u32 (Y : Int)] w fun v w' => v = .int .u32 (Gam.gcd X Y : Int) ∧ St FDx B w w'  := by
 refine enter 13 [(0, .int .u32 (X : Int)), (1, .int .u32 (Y : Int))] 4 Tryz.func319 rfl rfl rfl rfl rfl ?_; intro a hF
 have hS := St.refl hI
 refine W_sr rfl fun K hK => ?_
 refine svw hK hF (v_assign rfl) rfl ?_; clear hF a hK K; intro a hF
 refine W_seq ?_
 refine W_block ?_
 refine W_loop (fun m a w1 => ∃ x y : Nat, Fr 13 [(0, .int .u32 (x : Int)), (1, .int .u32 (y : Int))] a ∧ St FDx B w w1 ∧ Gam.gcd x y = Gam.gcd X Y ∧ x < 4294967296 ∧ y < 4294967296 ∧ m = y) (Y) ?_ ?_
 · skip
   exact ⟨_, _, hF.sub _ (c_ 0 rfl (c_ 1 rfl n_)), hS, rfl, hX, hY, rfl⟩
 skip
 clear hF
 clear hS
 rintro m a w1 ⟨x, y, hF, hS, hg, hx, hy, rfl⟩
 refine W_seq ?_
 refine W_sr rfl fun K hK => ?_
 refine sv2w hK hF (v_move rfl) (v_neq rfl rfl) rfl rfl ?_; clear hF a hK K; intro a hF
 replace hF := hF.sub _ (c_ 6 rfl (c_ 0 rfl (c_ 1 rfl n_)))
 refine W_if hF rfl (fun hc1 => ?_) (fun hc1 => ?_)
 ·
  skip
  try simp only [dcl] at hc1
  have hy0 : m ≠ 0 := by omega
  rw [gcd_step x hy0] at hg
  have hml := mod_lt_self x hy0
  refine W_skip ?_
  refine W_block ?_
  refine W_reg rfl fun K hK => ?_
  refine sv4 hF (v_move rfl) (v_move rfl) (v_cv Tryz.underlying93 Tryz.underlying272 rfl (wrap_u64 _ (by omega))) (v_move rfl) rfl rfl rfl rfl ?_; clear hF a; intro a hF
  refine sc hF rfl rfl rfl en272 rfl (Mod_ok B x m _ hS.inv (by omega) hy) ?_; clear hF a; intro v w' a hv hF
  obtain ⟨rfl, hS'⟩ := hv
  replace hS := hS.trans hS'
  clear hS'
  refine sv2w hK hF (v_assign rfl) (v_assign rfl) rfl rfl ?_; clear hF a hK K; intro a hF
  replace hF := hF.sub _ (c_ 1 rfl (c_ 0 rfl n_))
  exact ⟨_, hml, _, _, hF.sub _ (c_ 0 rfl (c_ 1 rfl n_)), hS, hg, hy, by omega, rfl⟩
 skip
 try simp only [dcl] at hc1
 obtain rfl : m = 0 := by omega
 rw [gcd_zero] at hg
 refine W_exit rfl ?_
 refine W_sr rfl fun K hK => ?_
 refine sv2w hK hF (v_move rfl) (v_assign rfl) rfl rfl ?_; clear hF a hK K; intro a hF
 replace hF := hF.sub _ (c_ 4 rfl (c_ 12 rfl (c_ 0 rfl (c_ 1 rfl n_))))
 refine W_ret ?_
 refine ⟨_, _, hF, rfl, ?_⟩
 exact ⟨by rw [hg], hS⟩
theorem power_ok (B X n p : Nat) (w : World) (hI : Inv FDx B w) (hX : X < 4294967296) (hn : n < 9223372036854775808) (hp : p < 4294967296) : Ret Tryz.prog 274 [.int .u32 (X : Int), .int .i64 (n : Int), .int .u32 (p : Int)] w fun v w' => v = .int .u32 (powB X p (Px.mod 1 p) n : Int) ∧ St FDx B w w'  := by
 refine enter 26 [(0, .int .u32 (X : Int)), (1, .int .i64 (n : Int)), (2, .int .u32 (p : Int))] 6 Tryz.func274 rfl rfl rfl rfl rfl ?_; intro a hF
 have hS := St.refl hI
 refine W_sr rfl fun K hK => ?_
 refine svw hK hF (v_assign rfl) rfl ?_; clear hF a hK K; intro a hF
 refine W_sr rfl fun K hK => ?_
 refine sv hF (v_move rfl) rfl ?_; clear hF a; intro a hF
 refine sc hF rfl rfl rfl en272 rfl (Mod_ok B 1 p _ hS.inv (by decide) hp) ?_; clear hF a; intro v w' a hv hF
 obtain ⟨rfl, hS'⟩ := hv
 replace hS := hS.trans hS'
 clear hS'
 refine svw hK hF (v_assign rfl) rfl ?_; clear hF a hK K; intro a hF
 replace hF := hF.sub _ (c_ 7 rfl (c_ 6 rfl (c_ 0 rfl (c_ 1 rfl (c_ 2 rfl n_)))))
 refine W_seq ?_
 refine W_block ?_
 refine W_loop (fun m a w1 => ∃ x o : Nat, Fr 26 [(0, .int .u32 (x : Int)), (1, .int .i64 (m : Int)), (2, .int .u32 (p : Int)), (7, .int .u32 (o : Int))] a ∧ St FDx B w w1 ∧ powB x p o m = powB X p (Px.mod 1 p) n ∧ x < 4294967296 ∧ o < 4294967296 ∧ m < 9223372036854775808) (n) ?_ ?_
 · skip
   exact ⟨_, _, hF.sub _ (c_ 0 rfl (c_ 1 rfl (c_ 2 rfl (c_ 7 rfl n_)))), hS, rfl, hX, mod_lt32 1 hp, hn⟩
 skip
 clear hF
 clear hS
 rintro m a w1 ⟨x, o, hF, hS, hg, hx, ho, hm⟩
 refine W_seq ?_
 refine W_sr rfl fun K hK => ?_
 refine sv2w hK hF (v_move rfl) (v_gtr rfl rfl) rfl rfl ?_; clear hF a hK K; intro a hF
 replace hF := hF.sub _ (c_ 11 rfl (c_ 0 rfl (c_ 1 rfl (c_ 2 rfl (c_ 7 rfl n_)))))
 refine W_if hF rfl (fun hc1 => ?_) (fun hc1 => ?_)
 ·
  skip
  try simp only [dcl] at hc1
  refine W_skip ?_
  refine W_seq ?_
  refine W_block ?_
  refine W_seq ?_
  refine W_sr rfl fun K hK => ?_
  refine sv3w hK hF (v_move rfl) (v_andN (n := 1) rfl rfl (fits_i64 hm) (fits_i64 (by decide))) (v_eql rfl rfl) rfl rfl rfl ?_; clear hF a hK K; intro a hF
  replace hF := hF.sub _ (c_ 16 rfl (c_ 0 rfl (c_ 1 rfl (c_ 2 rfl (c_ 7 rfl n_)))))
  refine W_if hF rfl (fun hc2 => ?_) (fun hc2 => ?_)
  ·
   skip
   try simp only [dcl] at hc2
   rw [Nat.and_one_is_mod] at hc2
   rw [powB_odd x p o (by omega)] at hg
   refine W_reg rfl fun K hK => ?_
   refine sv3 hF (v_move rfl) (v_move rfl) (v_move rfl) rfl rfl rfl ?_; clear hF a; intro a hF
   refine sc hF rfl rfl rfl en218 rfl (MulMod_ok B o x p _ hS.inv ho hx hp) ?_; clear hF a; intro v w' a hv hF
   obtain ⟨rfl, hS'⟩ := hv
   replace hS := hS.trans hS'
   clear hS'
   refine svw hK hF (v_assign rfl) rfl ?_; clear hF a hK K; intro a hF
   replace hF := hF.sub _ (c_ 7 rfl (c_ 0 rfl (c_ 1 rfl (c_ 2 rfl n_))))
   refine W_reg rfl fun K hK => ?_
   refine sv3 hF (v_move rfl) (v_move rfl) (v_move rfl) rfl rfl rfl ?_; clear hF a; intro a hF
   refine sc hF rfl rfl rfl en218 rfl (MulMod_ok B x x p _ hS.inv hx hx hp) ?_; clear hF a; intro v w' a hv hF
   obtain ⟨rfl, hS'⟩ := hv
   replace hS := hS.trans hS'
   clear hS'
   refine svw hK hF (v_assign rfl) rfl ?_; clear hF a hK K; intro a hF
   replace hF := hF.sub _ (c_ 0 rfl (c_ 7 rfl (c_ 1 rfl (c_ 2 rfl n_))))
   refine W_reg rfl fun K hK => ?_
   refine sv3w hK hF (v_move rfl) (v_shrN (m := m) rfl rfl (by decide)) (v_assign rfl) rfl rfl rfl ?_; clear hF a hK K; intro a hF
   exact ⟨m / 2, by omega, _, _, hF.sub _ (c_ 0 rfl (c_ 1 rfl (c_ 2 rfl (c_ 7 rfl n_)))), hS, hg, mod_lt32 _ hp, by first | exact mod_lt32 _ hp | exact ho, by omega⟩
  skip
  try simp only [dcl] at hc2
  rw [Nat.and_one_is_mod] at hc2
  rw [powB_even x p o (by omega) (by omega)] at hg
  refine W_skip ?_
  refine W_reg rfl fun K hK => ?_
  refine sv3 hF (v_move rfl) (v_move rfl) (v_move rfl) rfl rfl rfl ?_; clear hF a; intro a hF
  refine sc hF rfl rfl rfl en218 rfl (MulMod_ok B x x p _ hS.inv hx hx hp) ?_; clear hF a; intro v w' a hv hF
  obtain ⟨rfl, hS'⟩ := hv
  replace hS := hS.trans hS'
  clear hS'
  refine svw hK hF (v_assign rfl) rfl ?_; clear hF a hK K; intro a hF
  replace hF := hF.sub _ (c_ 0 rfl (c_ 1 rfl (c_ 2 rfl (c_ 7 rfl n_))))
  refine W_reg rfl fun K hK => ?_
  refine sv3w hK hF (v_move rfl) (v_shrN (m := m) rfl rfl (by decide)) (v_assign rfl) rfl rfl rfl ?_; clear hF a hK K; intro a hF
  exact ⟨m / 2, by omega, _, _, hF.sub _ (c_ 0 rfl (c_ 1 rfl (c_ 2 rfl (c_ 7 rfl n_)))), hS, hg, mod_lt32 _ hp, by first | exact mod_lt32 _ hp | exact ho, by omega⟩
 skip
 try simp only [dcl] at hc1
 obtain rfl : m = 0 := by omega
 rw [powB_zero] at hg
 refine W_exit rfl ?_
 refine W_sr rfl fun K hK => ?_
 refine sv2w hK hF (v_move rfl) (v_assign rfl) rfl rfl ?_; clear hF a hK K; intro a hF
 replace hF := hF.sub _ (c_ 6 rfl (c_ 25 rfl (c_ 0 rfl (c_ 1 rfl (c_ 2 rfl (c_ 7 rfl n_))))))
 refine W_ret ?_
 refine ⟨_, _, hF, rfl, ?_⟩
 exact ⟨by rw [hg], hS⟩
theorem frob_ok (B n p : Nat) (w : World) (hI : Inv FDx B w) (hn : n < 1000) (hp : p < 4294967296) : Ret Tryz.prog 318 [.int .i64 (n : Int), .int .u32 (p : Int)] w fun v w' => v = .int .u32 (frob p n (Px.mod 2 p) : Int) ∧ St FDx B w w'  := by
 refine enter 17 [(0, .int .i64 (n : Int)), (1, .int .u32 (p : Int))] 4 Tryz.func318 rfl rfl rfl rfl rfl ?_; intro a hF
 have hS := St.refl hI
 refine W_sr rfl fun K hK => ?_
 refine svw hK hF (v_assign rfl) rfl ?_; clear hF a hK K; intro a hF
 refine W_sr rfl fun K hK => ?_
 refine sv hF (v_move rfl) rfl ?_; clear hF a; intro a hF
 refine sc hF rfl rfl rfl en272 rfl (Mod_ok B 2 p _ hS.inv (by decide) hp) ?_; clear hF a; intro v w' a hv hF
 obtain ⟨rfl, hS'⟩ := hv
 replace hS := hS.trans hS'
 clear hS'
 refine svw hK hF (v_assign rfl) rfl ?_; clear hF a hK K; intro a hF
 replace hF := hF.sub _ (c_ 5 rfl (c_ 4 rfl (c_ 0 rfl (c_ 1 rfl n_))))
 refine W_seq ?_
 refine W_sr rfl fun K hK => ?_
 refine sv2w hK hF (v_move rfl) (v_move rfl) rfl rfl ?_; clear hF a hK K; intro a hF
 replace hF := hF.sub _ (c_ 9 rfl (c_ 8 rfl (c_ 5 rfl (c_ 4 rfl (c_ 1 rfl n_)))))
 refine W_block ?_
 refine W_loop (fun m a w1 => ∃ j : Nat, Fr 17 [(1, .int .u32 (p : Int)), (5, .int .u32 (frob p j (Px.mod 2 p) : Int)), (8, .int .i64 (n : Int)), (9, .int .i64 (j : Int))] a ∧ St FDx B w w1 ∧ j ≤ n ∧ m = n - j) (n) ?_ ?_
 · skip
   exact ⟨0, hF.sub _ (c_ 1 rfl (c_ 5 rfl (c_ 8 rfl (c_ 9 rfl n_)))), hS, by omega, rfl⟩
 skip
 clear hF
 clear hS
 rintro m a w1 ⟨j, hF, hS, hj, rfl⟩
 refine W_sr rfl fun K hK => ?_
 refine svw hK hF (v_lss rfl rfl) rfl ?_; clear hF a hK K; intro a hF
 refine W_seq ?_
 refine W_if hF rfl (fun hc1 => ?_) (fun hc1 => ?_)
 ·
  skip
  try simp only [dcl] at hc1
  refine W_skip ?_
  refine W_seq ?_
  refine W_block ?_
  refine W_reg rfl fun K hK => ?_
  refine sv3 hF (v_move rfl) (v_move rfl) (v_move rfl) rfl rfl rfl ?_; clear hF a; intro a hF
  refine sc hF rfl rfl rfl en218 rfl (MulMod_ok B _ _ p _ hS.inv (frob_lt32 j hp) (frob_lt32 j hp) hp) ?_; clear hF a; intro v w' a hv hF
  obtain ⟨rfl, hS'⟩ := hv
  replace hS := hS.trans hS'
  clear hS'
  refine svw hK hF (v_assign rfl) rfl ?_; clear hF a hK K; intro a hF
  replace hF := hF.sub _ (c_ 5 rfl (c_ 1 rfl (c_ 8 rfl (c_ 9 rfl n_))))
  refine W_reg rfl fun K hK => ?_
  refine sv2w hK hF (v_addI rfl rfl (by omega)) (v_move rfl) rfl rfl ?_; clear hF a hK K; intro a hF
  rw [← frob_succ] at hF
  exact ⟨n - (j + 1), by omega, j + 1, hF.sub _ (c_ 1 rfl (c_ 5 rfl (c_ 8 rfl (c_ 9 rfl n_)))), hS, by omega, rfl⟩
 skip
 try simp only [dcl] at hc1
 obtain rfl : j = n := by omega
 refine W_exit rfl ?_
 refine W_sr rfl fun K hK => ?_
 refine sv2w hK hF (v_move rfl) (v_assign rfl) rfl rfl ?_; clear hF a hK K; intro a hF
 replace hF := hF.sub _ (c_ 4 rfl (c_ 16 rfl (c_ 1 rfl (c_ 5 rfl (c_ 8 rfl (c_ 9 rfl n_))))))
 refine W_ret ?_
 refine ⟨_, _, hF, rfl, ?_⟩
 exact ⟨rfl, hS⟩
theorem irr_ok (B p : Nat) (w : World) (hI : Inv FDx B w) (hp : p < 4294967296) : Ret Tryz.prog 271 [.int .u32 (p : Int)] w fun v w' => v = .bool (irr p) ∧ St FDx B w w'  := by
 refine enter 35 [(0, .int .u32 (p : Int))] 2 Tryz.func271 rfl rfl rfl rfl rfl ?_; intro a hF
 have hS := St.refl hI
 refine W_sr rfl fun K hK => ?_
 refine svw hK hF (v_assign rfl) rfl ?_; clear hF a hK K; intro a hF
 refine W_sr rfl fun K hK => ?_
 refine sv2 hF (v_move rfl) (v_cv Tryz.underlying93 Tryz.underlying272 rfl (wrap_u64 _ (by omega))) rfl rfl ?_; clear hF a; intro a hF
 refine sc hF rfl rfl rfl en200 rfl (Deg_ok B p _ hS.inv (by omega)) ?_; clear hF a; intro v w' a hv hF
 obtain ⟨rfl, hS'⟩ := hv
 replace hS := hS.trans hS'
 clear hS'
 refine svw hK hF (v_assign rfl) rfl ?_; clear hF a hK K; intro a hF
 replace hF := hF.sub _ (c_ 3 rfl (c_ 2 rfl (c_ 0 rfl n_)))
 refine W_seq ?_
 refine W_sr rfl fun K hK => ?_
 refine sv hF (v_move rfl) rfl ?_; clear hF a; intro a hF
 refine sb hF (v_lss rfl rfl) rfl ?_ ?_
 ·
  clear hF a; intro hc1 a hF
  try simp only [dcl] at hc1
  refine sv hF (v_move rfl) rfl ?_; clear hF a; intro a hF
  refine svn2 hF rfl rfl rfl rfl rfl rfl ?_; clear hF a; intro a hF
  refine sv2 hF (v_pickT rfl rfl) (v_move rfl) rfl rfl ?_; clear hF a; intro a hF
  refine svn5 hF rfl rfl rfl rfl rfl rfl rfl rfl rfl rfl rfl rfl rfl rfl rfl ?_; clear hF a; intro a hF
  refine svn hF rfl rfl rfl ?_; clear hF a; intro a hF
  refine svw hK hF (v_pickT rfl rfl) rfl ?_; clear hF a hK K; intro a hF
  replace hF := hF.sub _ (c_ 21 rfl (c_ 3 rfl (c_ 2 rfl (c_ 0 rfl n_))))
  refine W_ifT hF rfl ?_
  refine W_sr rfl fun K hK => ?_
  refine svw hK hF (v_assign rfl) rfl ?_; clear hF a hK K; intro a hF
  replace hF := hF.sub _ (c_ 2 rfl (c_ 3 rfl (c_ 0 rfl n_)))
  refine W_ret ?_
  refine ⟨_, _, hF, rfl, ?_⟩
  first
  | exact ⟨congrArg _ (irr_out (by rw [← deg_range]; omega)).symm, hS⟩
  | exact ⟨congrArg _ (irr_f2 (by assumption)).symm, hS⟩
  | exact ⟨congrArg _ hbad.symm, hS⟩
  | exact ⟨congrArg _ (irr_t hr hfr (fun j hj => hall j (by omega))).symm, hS⟩
 clear hF a; intro hc1 a hF
 try simp only [dcl] at hc1
 refine sv hF (v_move rfl) rfl ?_; clear hF a; intro a hF
 refine svg hF rfl ?_
 refine sv hF (v_move rfl) rfl ?_; clear hF a; intro a hF
 refine svg hF rfl ?_
 refine sb hF (v_gtr rfl rfl) rfl ?_ ?_
 ·
  clear hF a; intro hc2 a hF
  try simp only [dcl] at hc2
  refine sv2 hF (v_pickF rfl rfl) (v_move rfl) rfl rfl ?_; clear hF a; intro a hF
  refine svn5 hF rfl rfl rfl rfl rfl rfl rfl rfl rfl rfl rfl rfl rfl rfl rfl ?_; clear hF a; intro a hF
  refine svn hF rfl rfl rfl ?_; clear hF a; intro a hF
  refine svw hK hF (v_pickT rfl rfl) rfl ?_; clear hF a hK K; intro a hF
  replace hF := hF.sub _ (c_ 21 rfl (c_ 3 rfl (c_ 2 rfl (c_ 0 rfl n_))))
  refine W_ifT hF rfl ?_
  refine W_sr rfl fun K hK => ?_
  refine svw hK hF (v_assign rfl) rfl ?_; clear hF a hK K; intro a hF
  replace hF := hF.sub _ (c_ 2 rfl (c_ 3 rfl (c_ 0 rfl n_)))
  refine W_ret ?_
  refine ⟨_, _, hF, rfl, ?_⟩
  first
  | exact ⟨congrArg _ (irr_out (by rw [← deg_range]; omega)).symm, hS⟩
  | exact ⟨congrArg _ (irr_f2 (by assumption)).symm, hS⟩
  | exact ⟨congrArg _ hbad.symm, hS⟩
  | exact ⟨congrArg _ (irr_t hr hfr (fun j hj => hall j (by omega))).symm, hS⟩
 clear hF a; intro hc2 a hF
 try simp only [dcl] at hc2
 refine sv2 hF (v_pickF rfl rfl) (v_move rfl) rfl rfl ?_; clear hF a; intro a hF
 refine svg hF rfl ?_
 have hr : 2 ≤ p ∧ p < 131072 := deg_range.1 ⟨by assumption, by assumption⟩
 have hp0 : p ≠ 0 := by omega
 have hl := log2_lt hp0 (k := 17) (by omega)
 rw [deg_pos hp0] at hF
 refine sv hF (v_move rfl) rfl ?_; clear hF a; intro a hF
 refine svg hF rfl ?_
 refine sv hF (v_move rfl) rfl ?_; clear hF a; intro a hF
 refine svg hF rfl ?_
 refine sc hF rfl rfl rfl en318 rfl (frob_ok B (Nat.log2 p) p _ hS.inv (by omega) hp) ?_; clear hF a; intro v w' a hv hF
 obtain ⟨rfl, hS'⟩ := hv
 replace hS := hS.trans hS'
 clear hS'
 refine svg hF rfl ?_
 refine sv hF (v_move rfl) rfl ?_; clear hF a; intro a hF
 refine svg hF rfl ?_
 refine sc hF rfl rfl rfl en272 rfl (Mod_ok B 2 p _ hS.inv (by decide) hp) ?_; clear hF a; intro v w' a hv hF
 obtain ⟨rfl, hS'⟩ := hv
 replace hS := hS.trans hS'
 clear hS'
 refine svg hF rfl ?_
 refine sv2w hK hF (v_neq rfl rfl) (v_pickF rfl rfl) rfl rfl ?_; clear hF a hK K; intro a hF
 replace hF := hF.sub _ (c_ 21 rfl (c_ 3 rfl (c_ 2 rfl (c_ 0 rfl n_))))
 refine W_if hF rfl (fun hc3 => ?_) (fun hc3 => ?_)
 ·
  skip
  try simp only [dcl] at hc3
  refine W_sr rfl fun K hK => ?_
  refine svw hK hF (v_assign rfl) rfl ?_; clear hF a hK K; intro a hF
  replace hF := hF.sub _ (c_ 2 rfl (c_ 3 rfl (c_ 0 rfl n_)))
  refine W_ret ?_
  refine ⟨_, _, hF, rfl, ?_⟩
  first
  | exact ⟨congrArg _ (irr_out (by rw [← deg_range]; omega)).symm, hS⟩
  | exact ⟨congrArg _ (irr_f2 (by assumption)).symm, hS⟩
  | exact ⟨congrArg _ hbad.symm, hS⟩
  | exact ⟨congrArg _ (irr_t hr hfr (fun j hj => hall j (by omega))).symm, hS⟩
 skip
 try simp only [dcl] at hc3
 refine W_skip ?_
 refine W_seq ?_
 have hfr : frob p (Nat.log2 p) (Px.mod 2 p) = Px.mod 2 p := by omega
 refine W_sr rfl fun K hK => ?_
 refine svw hK hF (v_assign rfl) rfl ?_; clear hF a hK K; intro a hF
 replace hF := hF.sub _ (c_ 4 rfl (c_ 3 rfl (c_ 2 rfl (c_ 0 rfl n_))))
 refine W_block ?_
 refine W_loop (fun m a w1 => ∃ i : Nat, Fr 35 [(0, .int .u32 (p : Int)), (3, .int .i64 (Nat.log2 p : Int)), (4, .int .i64 (i : Int))] a ∧ St FDx B w w1 ∧ 1 ≤ i ∧ i ≤ Nat.log2 p + 1 ∧ (∀ j, j + 1 < i → Gam.gcd p (frob p (j + 1) (Px.mod 2 p) ^^^ 2) = 1) ∧ m = Nat.log2 p + 1 - i) (Nat.log2 p) ?_ ?_
 · skip
   exact ⟨1, hF.sub _ (c_ 0 rfl (c_ 3 rfl (c_ 4 rfl n_))), hS, by omega, by omega, fun j hj => by omega, by omega⟩
 skip
 clear hF
 clear hS
 rintro m a w1 ⟨i, hF, hS, hi1, hi2, hall, rfl⟩
 refine W_seq ?_
 refine W_sr rfl fun K hK => ?_
 refine sv4w hK hF (v_move rfl) (v_move rfl) (v_quoI rfl rfl (by omega) (by omega) (by omega)) (v_leq rfl rfl) rfl rfl rfl rfl ?_; clear hF a hK K; intro a hF
 replace hF := hF.sub _ (c_ 25 rfl (c_ 0 rfl (c_ 3 rfl (c_ 4 rfl n_))))
 refine W_if hF rfl (fun hc4 => ?_) (fun hc4 => ?_)
 ·
  skip
  try simp only [dcl] at hc4
  refine W_skip ?_
  refine W_seq ?_
  refine W_block ?_
  refine W_sr rfl fun K hK => ?_
  refine sv3 hF (v_move rfl) (v_move rfl) (v_move rfl) rfl rfl rfl ?_; clear hF a; intro a hF
  refine sc hF rfl rfl rfl en318 rfl (frob_ok B i p _ hS.inv (by omega) hp) ?_; clear hF a; intro v w' a hv hF
  obtain ⟨rfl, hS'⟩ := hv
  replace hS := hS.trans hS'
  clear hS'
  refine sv hF (v_xorN (n := 2) rfl rfl (fits_u32 (frob_lt32 i hp)) (fits_u32 (by decide))) rfl ?_; clear hF a; intro a hF
  refine sc hF rfl rfl rfl en319 rfl (gcd_ok B p _ _ hS.inv hp (Px.xor_lt (k := 32) (frob_lt32 i hp) (by decide))) ?_; clear hF a; intro v w' a hv hF
  obtain ⟨rfl, hS'⟩ := hv
  replace hS := hS.trans hS'
  clear hS'
  refine svw hK hF (v_neq rfl rfl) rfl ?_; clear hF a hK K; intro a hF
  replace hF := hF.sub _ (c_ 34 rfl (c_ 0 rfl (c_ 3 rfl (c_ 4 rfl n_))))
  refine W_if hF rfl (fun hc5 => ?_) (fun hc5 => ?_)
  ·
   skip
   try simp only [dcl] at hc5
   obtain ⟨i, rfl⟩ : ∃ k, i = k + 1 := ⟨i - 1, by omega⟩
   have hbad := irr_f3 i (by omega) (show Gam.gcd p (frob p (i + 1) (Px.mod 2 p) ^^^ 2) ≠ 1 by omega)
   refine W_sr rfl fun K hK => ?_
   refine svw hK hF (v_assign rfl) rfl ?_; clear hF a hK K; intro a hF
   replace hF := hF.sub _ (c_ 2 rfl (c_ 0 rfl (c_ 3 rfl (c_ 4 rfl n_))))
   refine W_ret ?_
   refine ⟨_, _, hF, rfl, ?_⟩
   first
   | exact ⟨congrArg _ (irr_out (by rw [← deg_range]; omega)).symm, hS⟩
   | exact ⟨congrArg _ (irr_f2 (by assumption)).symm, hS⟩
   | exact ⟨congrArg _ hbad.symm, hS⟩
   | exact ⟨congrArg _ (irr_t hr hfr (fun j hj => hall j (by omega))).symm, hS⟩
  skip
  try simp only [dcl] at hc5
  have hall2 : ∀ j, j + 1 < i + 1 → Gam.gcd p (frob p (j + 1) (Px.mod 2 p) ^^^ 2) = 1 := fun j hj => by
   by_cases h9 : j + 1 < i
   · exact hall j h9
   obtain rfl : j + 1 = i := by omega
   omega
  refine W_skip ?_
  refine W_reg rfl fun K hK => ?_
  refine sv3w hK hF (v_move rfl) (v_addI rfl rfl (by omega)) (v_assign rfl) rfl rfl rfl ?_; clear hF a hK K; intro a hF
  replace hF := hF.sub _ (c_ 4 rfl (c_ 27 rfl (c_ 26 rfl (c_ 0 rfl (c_ 3 rfl n_)))))
  exact ⟨Nat.log2 p + 1 - (i + 1), by omega, i + 1, hF.sub _ (c_ 0 rfl (c_ 3 rfl (c_ 4 rfl n_))), hS, by omega, by omega, hall2, rfl⟩
 skip
 try simp only [dcl] at hc4
 refine W_exit rfl ?_
 refine W_sr rfl fun K hK => ?_
 refine svw hK hF (v_assign rfl) rfl ?_; clear hF a hK K; intro a hF
 replace hF := hF.sub _ (c_ 2 rfl (c_ 0 rfl (c_ 3 rfl (c_ 4 rfl n_))))
 refine W_ret ?_
 refine ⟨_, _, hF, rfl, ?_⟩
 first
 | exact ⟨congrArg _ (irr_out (by rw [← deg_range]; omega)).symm, hS⟩
 | exact ⟨congrArg _ (irr_f2 (by assumption)).symm, hS⟩
 | exact ⟨congrArg _ hbad.symm, hS⟩
 | exact ⟨congrArg _ (irr_t hr hfr (fun j hj => hall j (by omega))).symm, hS⟩
theorem divs_ok (B M : Nat) (w : World) (hI : Inv FDx B w) (hM : 1 ≤ M) (hM2 : M < 65536) : Ret Tryz.prog 273 [.int .i64 (M : Int)] w fun v w' => ∃ l, Row FDx B w'.heap.size w' v (ints l) ∧ ((∀ r ∈ l, 2 ≤ r ∧ r ∣ M) ∧ (∀ m, 2 ≤ m → m ∣ M → ∃ r ∈ l, r ∣ m) ∧ (∀ r ∈ l, r < 65536) ∧ l.length ≤ 65536) ∧ St FDx B w w'  := by
 refine enter 25 [(0, .int .i64 (M : Int))] 2 Tryz.func273 rfl rfl rfl rfl rfl ?_; intro a hF
 have hS := St.refl hI
 refine W_sr rfl fun K hK => ?_
 refine svw hK hF (v_assign rfl) rfl ?_; clear hF a hK K; intro a hF
 refine W_sr rfl fun K hK => ?_
 refine svw hK hF (v_assign rfl) rfl ?_; clear hF a hK K; intro a hF
 refine W_seq ?_
 refine W_sr rfl fun K hK => ?_
 refine svw hK hF (v_assign rfl) rfl ?_; clear hF a hK K; intro a hF
 refine W_block ?_
 refine W_loop (fun m a w1 => ∃ n q l v b, Fr 25 [(0, .int .i64 ((n : Nat) : Int)), (3, v), (4, .int .i64 ((q : Nat) : Int))] a ∧ St FDx B w w1 ∧ Gam.Own FDx B w.heap.size w1 3 v b (ints l) ∧ DivAt M n q l ∧ q ≤ M + 2 ∧ m = M + 1 - q + n) (M + 1 - 2 + M) ?_ ?_
 · skip
   exact ⟨_, 2, [], _, _, hF.sub _ (c_ 0 rfl (c_ 3 rfl (c_ 4 rfl n_))), hS, Gam.Own.nil _ _ _ _ _, divAt_start hM, by omega, rfl⟩
 skip
 clear hF
 clear hS
 rintro m a w1 ⟨n, q, l, v, b, hF, hS, ho, hd, hqM, rfl⟩
 have hq2 := hd.two
 have hnM := hd.le
 have hn1 := hd.pos
 refine W_seq ?_
 refine W_sr rfl fun K hK => ?_
 refine sv2w hK hF (v_move rfl) (v_gtr rfl rfl) rfl rfl ?_; clear hF a hK K; intro a hF
 replace hF := hF.sub _ (c_ 6 rfl (c_ 0 rfl (c_ 3 rfl (c_ 4 rfl n_))))
 refine W_if hF rfl (fun hc1 => ?_) (fun hc1 => ?_)
 ·
  skip
  try simp only [dcl] at hc1
  have hqn := divAt_le hd (by omega)
  have hlen := hd.len
  refine W_skip ?_
  refine W_seq ?_
  refine W_block ?_
  refine W_cut (fun a w2 => ∃ l2 v b, Fr 25 [(0, .int .i64 (n : Int)), (3, v), (4, .int .i64 (q : Int))] a ∧ St FDx B w w2 ∧ Gam.Own FDx B w.heap.size w2 3 v b (ints l2) ∧ DivOut M n q l2) ?_ ?_
  ·
   skip
   refine W_sr rfl fun K hK => ?_
   refine sv4w hK hF (v_move rfl) (v_move rfl) (v_remI rfl rfl (by omega) (by omega)) (v_eql rfl rfl) rfl rfl rfl rfl ?_; clear hF a hK K; intro a hF
   replace hF := hF.sub _ (c_ 12 rfl (c_ 0 rfl (c_ 3 rfl (c_ 4 rfl n_))))
   refine W_if hF rfl (fun hc2 => ?_) (fun hc2 => ?_)
   ·
    skip
    try simp only [dcl] at hc2
    refine W_reg rfl fun K hK => ?_
    refine sv2 hF (v_move rfl) (v_move rfl) rfl rfl ?_; clear hF a; intro a hF
    refine s_bs (D := FDx) (B := B) hF sl49 rfl rfl (by decide) (by simp [Value.cells]) (by decide) hS.inv rfl ?_; clear hF a; intro w' a hm hI' hb hF
    replace ho := ho.mb hm (fun _ _ => by simp)
    replace hS := hS.mb0 hm
    clear hm hI'
    refine s_app (D := FDx) (B := B) hF rfl sl49 rfl rfl ho (hb.row (by decide)) (by simp [Value.oneCell']) (by simp; omega) (by simp [maxLen]; omega) (hS.ext.size) (by decide) hS.inv rfl ?_; clear hF a; intro v' b' w' a ho' hm hI' hb' hF
    replace hS := hS.mb hm (fun k h => Nat.le_trans (Nat.le_refl _) (ho.lt k h).1)
    replace ho := ho'
    clear hm hI' ho' hb
    refine svw hK hF (v_assign rfl) rfl ?_; clear hF a hK K; intro a hF
    replace hF := hF.sub _ (c_ 3 rfl (c_ 0 rfl (c_ 4 rfl n_)))
    exact ⟨_, _, _, hF.sub _ (c_ 0 rfl (c_ 3 rfl (c_ 4 rfl n_))), hS, by rw [ints_snoc]; exact ho, divAt_found hd (mod_dvd hc2)⟩
   skip
   try simp only [dcl] at hc2
   refine W_skip ?_
   exact ⟨_, _, _, hF.sub _ (c_ 0 rfl (c_ 3 rfl (c_ 4 rfl n_))), hS, ho, divAt_none hd (mod_ndvd hc2)⟩
  skip
  clear hF
  clear hS ho
  rintro a w2 ⟨l2, v, b, hF, hS, ho, hd2⟩
  refine W_block ?_
  refine W_loop (fun m a w3 => Fr 25 [(0, .int .i64 (m : Int)), (3, v), (4, .int .i64 (q : Int))] a ∧ w2 = w3 ∧ m ≤ n ∧ DivOut M m q l2) (n) ?_ ?_
  · skip
    exact ⟨hF, rfl, Nat.le_refl _, hd2⟩
  skip
  clear hF
  rintro m a _ ⟨hF, rfl, hmn, hd2⟩
  refine W_seq ?_
  refine W_sr rfl fun K hK => ?_
  refine sv4w hK hF (v_move rfl) (v_move rfl) (v_remI rfl rfl (by omega) (by omega)) (v_eql rfl rfl) rfl rfl rfl rfl ?_; clear hF a hK K; intro a hF
  replace hF := hF.sub _ (c_ 20 rfl (c_ 0 rfl (c_ 3 rfl (c_ 4 rfl n_))))
  refine W_if hF rfl (fun hc3 => ?_) (fun hc3 => ?_)
  ·
   skip
   try simp only [dcl] at hc3
   have hst := divOut_step hd2 (mod_dvd hc3)
   refine W_skip ?_
   refine W_block ?_
   refine W_reg rfl fun K hK => ?_
   refine sv4w hK hF (v_move rfl) (v_move rfl) (v_quoN (m := m) (n := q) rfl rfl (by omega) (fits_i64 (by omega))) (v_assign rfl) rfl rfl rfl rfl ?_; clear hF a hK K; intro a hF
   replace hF := hF.sub _ (c_ 0 rfl (c_ 3 rfl (c_ 4 rfl n_)))
   exact ⟨_, hst.2, hF.sub _ (c_ 0 rfl (c_ 3 rfl (c_ 4 rfl n_))), rfl, by omega, hst.1⟩
  skip
  try simp only [dcl] at hc3
  have hd3 := divOut_end hd2 (mod_ndvd hc3)
  refine W_exit rfl ?_
  refine W_reg rfl fun K hK => ?_
  refine sv3w hK hF (v_move rfl) (v_addI rfl rfl (by omega)) (v_assign rfl) rfl rfl rfl ?_; clear hF a hK K; intro a hF
  replace hF := hF.sub _ (c_ 4 rfl (c_ 8 rfl (c_ 7 rfl (c_ 0 rfl (c_ 3 rfl n_)))))
  exact ⟨_, by omega, m, q + 1, _, _, _, hF.sub _ (c_ 0 rfl (c_ 3 rfl (c_ 4 rfl n_))), hS, ho, hd3, by omega, rfl⟩
 skip
 try simp only [dcl] at hc1
 refine W_exit rfl ?_
 refine W_sr rfl fun K hK => ?_
 refine sv2w hK hF (v_move rfl) (v_assign rfl) rfl rfl ?_; clear hF a hK K; intro a hF
 replace hF := hF.sub _ (c_ 2 rfl (c_ 24 rfl (c_ 0 rfl (c_ 3 rfl (c_ 4 rfl n_)))))
 refine W_ret ?_
 refine ⟨_, _, hF, rfl, ?_⟩
 exact ⟨l, ho.row (by decide), ⟨hd.mem, divAt_end hd (by omega), fun r hr => Nat.lt_of_le_of_lt (Nat.le_of_dvd (by omega) (hd.mem r hr).2) hM2, by have := hd.len; omega⟩, hS⟩
theorem prim_ok (B p : Nat) (w : World) (hI : Inv FDx B w) (hp : p < 4294967296) : Ret Tryz.prog 201 [.int .u32 (p : Int)] w fun v w' => v = .bool (prim p) ∧ St FDx B w w'  := by
 refine enter 33 [(0, .int .u32 (p : Int))] 2 Tryz.func201 rfl rfl rfl rfl rfl ?_; intro a hF
 have hS := St.refl hI
 refine W_sr rfl fun K hK => ?_
 refine svw hK hF (v_assign rfl) rfl ?_; clear hF a hK K; intro a hF
 refine W_seq ?_
 refine W_sr rfl fun K hK => ?_
 refine sv hF (v_move rfl) rfl ?_; clear hF a; intro a hF
 refine sc hF rfl rfl rfl en271 rfl (irr_ok B p _ hS.inv hp) ?_; clear hF a; intro v w' a hv hF
 obtain ⟨rfl, hS'⟩ := hv
 replace hS := hS.trans hS'
 clear hS'
 refine sb hF (v_not rfl) rfl ?_ ?_
 ·
  clear hF a; intro hc1 a hF
  try simp only [dcl] at hc1
  refine sv hF (v_move rfl) rfl ?_; clear hF a; intro a hF
  refine svn3 hF rfl rfl rfl rfl rfl rfl rfl rfl rfl ?_; clear hF a; intro a hF
  refine svw hK hF (v_pickT rfl rfl) rfl ?_; clear hF a hK K; intro a hF
  replace hF := hF.sub _ (c_ 13 rfl (c_ 2 rfl (c_ 0 rfl n_)))
  refine W_ifT hF rfl ?_
  refine W_sr rfl fun K hK => ?_
  refine svw hK hF (v_assign rfl) rfl ?_; clear hF a hK K; intro a hF
  replace hF := hF.sub _ (c_ 2 rfl (c_ 0 rfl n_))
  refine W_ret ?_
  refine ⟨_, _, hF, rfl, ?_⟩
  first
  | exact ⟨congrArg _ (prim_f1 (by assumption)).symm, hS⟩
  | exact ⟨congrArg _ (prim_f2 (p := p) (by omega)).symm, hS⟩
  | exact ⟨congrArg _ hbad.symm, hS⟩
  | exact ⟨congrArg _ hgood.symm, hS⟩
 clear hF a; intro hc1 a hF
 try simp only [dcl] at hc1
 refine sv hF (v_move rfl) rfl ?_; clear hF a; intro a hF
 refine svg hF rfl ?_
 refine sv hF (v_move rfl) rfl ?_; clear hF a; intro a hF
 refine svg hF rfl ?_
 refine sc hF rfl rfl rfl en272 rfl (Mod_ok B 2 p _ hS.inv (by decide) hp) ?_; clear hF a; intro v w' a hv hF
 obtain ⟨rfl, hS'⟩ := hv
 replace hS := hS.trans hS'
 clear hS'
 refine svg hF rfl ?_
 refine sv2w hK hF (v_eql rfl rfl) (v_pickF rfl rfl) rfl rfl ?_; clear hF a hK K; intro a hF
 replace hF := hF.sub _ (c_ 13 rfl (c_ 2 rfl (c_ 0 rfl n_)))
 refine W_if hF rfl (fun hc2 => ?_) (fun hc2 => ?_)
 ·
  skip
  try simp only [dcl] at hc2
  refine W_sr rfl fun K hK => ?_
  refine svw hK hF (v_assign rfl) rfl ?_; clear hF a hK K; intro a hF
  replace hF := hF.sub _ (c_ 2 rfl (c_ 0 rfl n_))
  refine W_ret ?_
  refine ⟨_, _, hF, rfl, ?_⟩
  first
  | exact ⟨congrArg _ (prim_f1 (by assumption)).symm, hS⟩
  | exact ⟨congrArg _ (prim_f2 (p := p) (by omega)).symm, hS⟩
  | exact ⟨congrArg _ hbad.symm, hS⟩
  | exact ⟨congrArg _ hgood.symm, hS⟩
 skip
 try simp only [dcl] at hc2
 refine W_skip ?_
 have hr := irr_range hc1
 have hp0 : p ≠ 0 := by omega
 have hl := log2_lt hp0 (k := 17) (by omega)
 have hl1 := log2_pos hr.1
 have hpw : 2 ^ Nat.log2 p ≤ 65536 := Nat.pow_le_pow_right (n := 2) (by decide) (show Nat.log2 p ≤ 16 by omega)
 have hpw1 : 2 ≤ 2 ^ Nat.log2 p := Nat.pow_le_pow_right (n := 2) (by decide) hl1
 refine W_sr rfl fun K hK => ?_
 refine sv2 hF (v_move rfl) (v_cv Tryz.underlying93 Tryz.underlying272 rfl (wrap_u64 _ (by omega))) rfl rfl ?_; clear hF a; intro a hF
 refine sc hF rfl rfl rfl en200 rfl (Deg_ok B p _ hS.inv (by omega)) ?_; clear hF a; intro v w' a hv hF
 obtain ⟨rfl, hS'⟩ := hv
 replace hS := hS.trans hS'
 clear hS'
 rw [deg_pos hp0] at hF
 refine sv3w hK hF ((v_shl rfl rfl (by omega)).as (congrArg _ (shl_one (by omega)))) (v_subN (n := 1) rfl rfl (by omega) (by omega)) (v_assign rfl) rfl rfl rfl ?_; clear hF a hK K; intro a hF
 replace hF := hF.sub _ (c_ 3 rfl (c_ 2 rfl (c_ 0 rfl n_)))
 generalize hN : 2 ^ Nat.log2 p - 1 = N at *
 have hN1 : 1 ≤ N := by omega
 have hN2 : N < 65536 := by omega
 refine W_seq ?_
 refine W_sr rfl fun K hK => ?_
 refine sv hF (v_move rfl) rfl ?_; clear hF a; intro a hF
 refine sc hF rfl rfl rfl en273 rfl (divs_ok B N _ hS.inv hN1 hN2) ?_; clear hF a; intro v w' a hv hF
 obtain ⟨l, hrow, ⟨hl1, hl2, hl3, hl4⟩, hS'⟩ := hv
 obtain ⟨sa, cp, rfl⟩ := hrow.sl
 replace hS := hS.trans hS'
 clear hS'
 refine sv2w hK hF (v_lenS rfl sl49 rfl) (v_move rfl) rfl rfl ?_; clear hF a hK K; intro a hF
 replace hF := hF.sub _ (c_ 22 rfl (c_ 21 rfl (c_ 20 rfl (c_ 3 rfl (c_ 2 rfl (c_ 0 rfl n_))))))
 generalize w'.heap.size = M0 at hrow
 rw [ints_length] at hF hrow
 subst hN
 refine W_block ?_
 refine W_loop (fun m a w1 => ∃ i : Nat, Fr 33 [(0, .int .u32 (p : Int)), (3, .int .i64 ((2 ^ Nat.log2 p - 1 : Nat) : Int)), (20, .slice sa l.length cp), (21, .int .i64 (l.length : Int)), (22, .int .i64 (i : Int))] a ∧ St FDx B w w1 ∧ Row FDx B M0 w1 (.slice sa l.length cp) (ints l) ∧ i ≤ l.length ∧ (∀ j q, j < i → l[j]? = some q → Px.pow 2 p ((2 ^ Nat.log2 p - 1) / q) ≠ 1) ∧ m = l.length - i) (l.length) ?_ ?_
 · skip
   exact ⟨0, hF.sub _ (c_ 0 rfl (c_ 3 rfl (c_ 20 rfl (c_ 21 rfl (c_ 22 rfl n_))))), hS, hrow, by omega, fun j q hj => by omega, by omega⟩
 skip
 clear hF
 clear hS hrow
 rintro m a w1 ⟨i, hF, hS, hrow, hi, hall, rfl⟩
 refine W_sr rfl fun K hK => ?_
 refine svw hK hF (v_lss rfl rfl) rfl ?_; clear hF a hK K; intro a hF
 refine W_seq ?_
 refine W_if hF rfl (fun hc3 => ?_) (fun hc3 => ?_)
 ·
  skip
  try simp only [dcl] at hc3
  obtain ⟨q, hq⟩ : ∃ q, l[i]? = some q := ⟨_, List.getElem?_eq_getElem (by omega)⟩
  obtain ⟨-, g, o, rfl, hcell⟩ := hrow.at (Gam.ints_at hq)
  have hqm := List.mem_of_getElem? hq
  have hq2 := hl1 q hqm
  refine W_skip ?_
  refine W_seq ?_
  refine W_block ?_
  refine W_sr rfl fun K hK => ?_
  refine sv hF (v_ixS sl49 rfl rfl (by omega) (by omega)) rfl ?_; clear hF a; intro a hF
  refine sv hF (v_load sc3 rfl (by first | assumption | (rw [toNat_c]; assumption) | exact KC.c (by assumption) | (rw [toNat_c]; exact KC.c (by assumption)) | exact Box.at (by assumption))) rfl ?_; clear hF a; intro a hF
  refine svw hK hF (v_assign rfl) rfl ?_; clear hF a hK K; intro a hF
  replace hF := hF.sub _ (c_ 5 rfl (c_ 0 rfl (c_ 3 rfl (c_ 20 rfl (c_ 21 rfl (c_ 22 rfl n_))))))
  refine W_sr rfl fun K hK => ?_
  refine sv4 hF (v_move rfl) (v_move rfl) (v_quoN (m := 2 ^ Nat.log2 p - 1) (n := q) rfl rfl (by omega) (fits_i64 (by omega))) (v_move rfl) rfl rfl rfl rfl ?_; clear hF a; intro a hF
  refine sc hF rfl rfl rfl en274 rfl (power_ok B 2 ((2 ^ Nat.log2 p - 1) / q) p _ hS.inv (by decide) (by have := Nat.div_le_self (2 ^ Nat.log2 p - 1) q; omega) hp) ?_; clear hF a; intro v w' a hv hF
  obtain ⟨rfl, hS'⟩ := hv
  have hS1 := hS'
  replace hS := hS.trans hS'
  clear hS'
  rw [powB_one] at hF
  replace hrow := hrow.st hS1
  refine svw hK hF (v_eql rfl rfl) rfl ?_; clear hF a hK K; intro a hF
  replace hF := hF.sub _ (c_ 31 rfl (c_ 0 rfl (c_ 3 rfl (c_ 20 rfl (c_ 21 rfl (c_ 22 rfl n_))))))
  refine W_if hF rfl (fun hc4 => ?_) (fun hc4 => ?_)
  ·
   skip
   try simp only [dcl] at hc4
   have hbad := prim_f3 hq2.1 hq2.2 (by omega)
   refine W_sr rfl fun K hK => ?_
   refine svw hK hF (v_assign rfl) rfl ?_; clear hF a hK K; intro a hF
   replace hF := hF.sub _ (c_ 2 rfl (c_ 0 rfl (c_ 3 rfl (c_ 20 rfl (c_ 21 rfl (c_ 22 rfl n_))))))
   refine W_ret ?_
   refine ⟨_, _, hF, rfl, ?_⟩
   first
   | exact ⟨congrArg _ (prim_f1 (by assumption)).symm, hS⟩
   | exact ⟨congrArg _ (prim_f2 (p := p) (by omega)).symm, hS⟩
   | exact ⟨congrArg _ hbad.symm, hS⟩
   | exact ⟨congrArg _ hgood.symm, hS⟩
  skip
  try simp only [dcl] at hc4
  have hall2 : ∀ j r, j < i + 1 → l[j]? = some r → Px.pow 2 p ((2 ^ Nat.log2 p - 1) / r) ≠ 1 := fun j r hj hr => by
   by_cases h9 : j < i
   · exact hall j r h9 hr
   obtain rfl : j = i := by omega
   rw [hq] at hr
   obtain rfl := Option.some.inj hr
   omega
  refine W_skip ?_
  refine W_reg rfl fun K hK => ?_
  refine sv2w hK hF (v_addI rfl rfl (by omega)) (v_move rfl) rfl rfl ?_; clear hF a hK K; intro a hF
  replace hF := hF.sub _ (c_ 22 rfl (c_ 32 rfl (c_ 0 rfl (c_ 3 rfl (c_ 20 rfl (c_ 21 rfl n_))))))
  exact ⟨l.length - (i + 1), by omega, i + 1, hF.sub _ (c_ 0 rfl (c_ 3 rfl (c_ 20 rfl (c_ 21 rfl (c_ 22 rfl n_))))), hS, hrow, by omega, hall2, rfl⟩
 skip
 try simp only [dcl] at hc3
 have hgood := prim_list hc1 (by omega) hl1 hl2 (fun q hq => by
  obtain ⟨j, hj, e⟩ := List.getElem_of_mem hq
  exact hall j q (by omega) (by rw [List.getElem?_eq_getElem hj, e]))
 refine W_exit rfl ?_
 refine W_sr rfl fun K hK => ?_
 refine svw hK hF (v_assign rfl) rfl ?_; clear hF a hK K; intro a hF
 replace hF := hF.sub _ (c_ 2 rfl (c_ 0 rfl (c_ 3 rfl (c_ 20 rfl (c_ 21 rfl (c_ 22 rfl n_))))))
 refine W_ret ?_
 refine ⟨_, _, hF, rfl, ?_⟩
 first
 | exact ⟨congrArg _ (prim_f1 (by assumption)).symm, hS⟩
 | exact ⟨congrArg _ (prim_f2 (p := p) (by omega)).symm, hS⟩
 | exact ⟨congrArg _ hbad.symm, hS⟩
 | exact ⟨congrArg _ hgood.symm, hS⟩
end Go.Proofs.YtoabojbpeafdkaaGreatDoor
/- The lock and sync.Once, in the run of one goroutine: each function once. -/
namespace Go.Proofs.YtoabojbpeafdkaaGreatDoor
open Go
theorem disable (w : World) : (callFunc 404 #[]).run Tryz.prog w = .ok (.value (.tuple #[])) w := run_call_mark0 Tryz.func404 (by kernel_rfl) (by kernel_rfl) (by kernel_rfl) .disable (by kernel_rfl) w
theorem enable (w : World) : (callFunc 406 #[]).run Tryz.prog w = .ok (.value (.tuple #[])) w := run_call_mark0 Tryz.func406 (by kernel_rfl) (by kernel_rfl) (by kernel_rfl) .enable (by kernel_rfl) w
theorem acquire (a : Addr) (w : World) : (callFunc 407 #[.pointer (some a)]).run Tryz.prog w = .ok (.value (.tuple #[])) w := run_call_marked Tryz.func407 (by kernel_rfl) (by kernel_rfl) (by kernel_rfl) .acquire (by kernel_rfl) a w
theorem releaseMerge (a : Addr) (w : World) : (callFunc 409 #[.pointer (some a)]).run Tryz.prog w = .ok (.value (.tuple #[])) w := run_call_marked Tryz.func409 (by kernel_rfl) (by kernel_rfl) (by kernel_rfl) .releaseMerge (by kernel_rfl) a w
theorem ilock_free (a : Addr) (w : World) (hc : w.cell? a = some (.int .i32 0)) (hz : w.frozen? a = false) :
    Calls Tryz.prog 394 #[.pointer (some a)] w fun e w' => e = .returned (.tuple #[]) ∧ w' = w.setCell a (.int .i32 1) := by
  have hd := disable
  have he := enable
  have ha := acquire
  have hcas := run_call_cas_hit (P := Tryz.prog) Tryz.func405 (by kernel_rfl) (by kernel_rfl) (by kernel_rfl) .i32 (by kernel_rfl) (y := 1) hc hz
  have hc' : (w.setCell a (.int .i32 1)).cell? a = some (.int .i32 1) := World.cell?_setCell_same w a _ hc
  have hcv := run_convert_to_unsafe (P := Tryz.prog) (src := 444) (dst := 410) Tryz.underlying444 Tryz.underlying410 (by kernel_rfl) hc'
  go_enter Tryz.func394, Tryz.ntmps394
  go_wp2
  first | go_end0 | (simp only [Exit.inBlock, Exit.then]; refine bodyPost_ret (results_none rfl _ _ _) rfl ?_) | refine bodyPost_ret (results_none rfl _ _ _) rfl ?_
  exact ⟨rfl, rfl⟩
theorem lock_free (b off : Nat) (w : World) (hc : w.cell? ⟨b, off, none⟩ = some (.int .i32 0)) (hz : w.frozen? ⟨b, off, none⟩ = false) :
    Calls Tryz.prog 364 #[.pointer (some ⟨b, off, none⟩)] w fun e w' => e = .returned (.tuple #[]) ∧ w' = w.setCell ⟨b, off, none⟩ (.int .i32 1) := by
  go_enter Tryz.func364, Tryz.ntmps364
  go_wp2_with (go_at_call 394; refine (ilock_free ⟨b, off, none⟩ _ hc hz).mono ?_; rintro e w' ⟨rfl, rfl⟩)
  go_end0
  exact ⟨rfl, rfl⟩
theorem iunlock_held (a : Addr) (w : World) (hc : w.cell? a = some (.int .i32 1)) (hz : w.frozen? a = false) :
    Calls Tryz.prog 395 #[.pointer (some a)] w fun e w' => e = .returned (.tuple #[]) ∧ w' = w.setCell a (.int .i32 0) := by
  have hd := disable
  have he := enable
  have hr := releaseMerge
  have hadd := run_call_add (P := Tryz.prog) Tryz.func410 (by kernel_rfl) (by kernel_rfl) (by kernel_rfl) .i32 (by kernel_rfl) (y := -1) (s := 0) hc hz (by simp [go_sem]; rfl)
  have hcv := run_convert_to_unsafe (P := Tryz.prog) (src := 444) (dst := 410) Tryz.underlying444 Tryz.underlying410 (by kernel_rfl) hc
  go_enter Tryz.func395, Tryz.ntmps395
  go_wp2
  go_end0
  exact ⟨rfl, rfl⟩
theorem unlock_deferred (b off : Nat) (u : FrameMode) (w : World) (hc : w.cell? ⟨b, off, none⟩ = some (.int .i32 1)) (hz : w.frozen? ⟨b, off, none⟩ = false) :
    CallsD Tryz.prog 365 #[.pointer (some ⟨b, off, none⟩)] u w fun e u' w' => u' = u ∧ (e = .returned (.tuple #[]) ∧ w' = w.setCell ⟨b, off, none⟩ (.int .i32 0)) := by
  go_enter_d Tryz.func365, Tryz.ntmps365
  go_wp2_with (go_at_call 395; refine (iunlock_held ⟨b, off, none⟩ _ hc hz).mono ?_; rintro e w' ⟨rfl, rfl⟩)
  go_end0
  exact ⟨rfl, rfl⟩
theorem store_deferred (b off : Nat) (x : Value) (u : FrameMode) (w : World) (hc : w.cell? ⟨b, off, none⟩ = some x) (hz : w.frozen? ⟨b, off, none⟩ = false) :
    CallsD Tryz.prog 366 #[.pointer (some ⟨b, off, none⟩), .bool true] u w fun e u' w' => u' = u ∧ (e = .returned (.tuple #[]) ∧ w' = w.drew.setCell ⟨b, off, none⟩ (.int .u32 1)) := by
  have hc' : w.drew.cell? ⟨b, off, none⟩ = some x := by go_simp
  have hz' : w.drew.frozen? ⟨b, off, none⟩ = false := by go_simp
  have hst := run_call_store (P := Tryz.prog) Tryz.func396 (by kernel_rfl) (by kernel_rfl) (by kernel_rfl) (by kernel_rfl) (k := .u32) (y := 1) hc' hz'
  go_enter_d Tryz.func366, Tryz.ntmps366
  go_wp2
  go_region_calls
  all_goals (go_end0; exact ⟨rfl, rfl⟩)
theorem load_ok (b off : Nat) (x : Int) (w : World) (hc : w.cell? ⟨b, off, none⟩ = some (.int .u32 x)) :
    Calls Tryz.prog 325 #[.pointer (some ⟨b, off, none⟩)] w fun e w' => e = .returned (.bool (x != 0)) ∧ w' = w := by
  have hl := run_call_load (P := Tryz.prog) Tryz.func363 (by kernel_rfl) (by kernel_rfl) (by kernel_rfl) .u32 (by kernel_rfl) hc
  go_enter Tryz.func325, Tryz.ntmps325
  go_wp2
  go_ret
  exact ⟨rfl, rfl⟩
set_option maxHeartbeats 1600000 in
theorem slow_ok (b off : Nat) (pl : Addr) (w : World) (Q : World → Prop)
    (h0 : w.cell? ⟨b, off, none⟩ = some (.int .u32 0)) (h1 : w.cell? ⟨b, off + 1, none⟩ = some (.int .i32 0)) (f1 : w.frozen? ⟨b, off + 1, none⟩ = false)
    (hfn : Calls Tryz.prog 280 #[.pointer (some pl)] (w.setCell ⟨b, off + 1, none⟩ (.int .i32 1)) fun e w' => e = .returned (.tuple #[]) ∧ Q w')
    (hQ : ∀ w', Q w' → w'.cell? ⟨b, off, none⟩ = some (.int .u32 0) ∧ w'.cell? ⟨b, off + 1, none⟩ = some (.int .i32 1) ∧ w'.frozen? ⟨b, off, none⟩ = false ∧ w'.frozen? ⟨b, off + 1, none⟩ = false) :
    Calls Tryz.prog 326 #[.pointer (some ⟨b, off, none⟩), .func (.func 280) #[] #[.pointer (some pl)]] w fun e w' => e = .returned (.tuple #[]) ∧
      ∃ w2, Q w2 ∧ w' = (w2.drew.setCell ⟨b, off, none⟩ (.int .u32 1)).setCell ⟨b, off + 1, none⟩ (.int .i32 0) := by
  have hl := load_ok b off 0 (w.setCell ⟨b, off + 1, none⟩ (.int .i32 1)) ((World.cell?_setCell_other _ ⟨b, off + 1, none⟩ ⟨b, off, none⟩ _ (by simp)).trans h0)
  have hnot : ∀ (x : Bool) (w : World), (Op.unary .not (.bool x)).run Tryz.prog w = .ok (.bool (!x)) w := fun _ _ => rfl
  go_enter_defers Tryz.func326, Tryz.ntmps326
  go_wp2_with (first
    | (go_at_call 364; refine (lock_free b (off + 1) _ h1 f1).mono ?_; rintro e w' ⟨rfl, rfl⟩)
    | (go_at_call 325; refine hl.mono ?_; rintro e w' ⟨rfl, rfl⟩)
    | (go_at_call 280; refine hfn.mono ?_; rintro e w2 ⟨rfl, hq⟩))
  obtain ⟨q0, q1, q2, q3⟩ := hQ _ hq
  refine leaves_cons (f := 366) (args := #[.pointer (some ⟨b, off, none⟩), .bool true]) (by simp) (by simp [go_sem]) ?_
  refine (store_deferred b off (.int .u32 0) .returning _ q0 q2).mono ?_
  rintro e u' w'' ⟨rfl, rfl, rfl⟩
  refine leaves_cons (f := 365) (args := #[.pointer (some ⟨b, off + 1, none⟩)]) (by simp [settle]) (by simp [go_sem]) ?_
  refine (unlock_deferred b (off + 1) _ _ ?_ (by simp [q3])).mono ?_
  · refine (World.cell?_setCell_other _ ⟨b, off, none⟩ ⟨b, off + 1, none⟩ _ (by simp)).trans ?_
    rw [World.cell?_drew]
    exact q1
  rintro e u' w'' ⟨rfl, rfl, rfl⟩
  simp [Leaves, settle, results, Tryz.results326]
  exact ⟨w2, hq, rfl⟩
set_option maxHeartbeats 1600000 in
theorem do_first (b off : Nat) (pl : Addr) (w : World) (Q : World → Prop)
    (h0 : w.cell? ⟨b, off, none⟩ = some (.int .u32 0)) (h1 : w.cell? ⟨b, off + 1, none⟩ = some (.int .i32 0)) (f1 : w.frozen? ⟨b, off + 1, none⟩ = false)
    (hfn : Calls Tryz.prog 280 #[.pointer (some pl)] (w.setCell ⟨b, off + 1, none⟩ (.int .i32 1)) fun e w' => e = .returned (.tuple #[]) ∧ Q w')
    (hQ : ∀ w', Q w' → w'.cell? ⟨b, off, none⟩ = some (.int .u32 0) ∧ w'.cell? ⟨b, off + 1, none⟩ = some (.int .i32 1) ∧ w'.frozen? ⟨b, off, none⟩ = false ∧ w'.frozen? ⟨b, off + 1, none⟩ = false) :
    Calls Tryz.prog 279 #[.pointer (some ⟨b, off, none⟩), .func (.func 280) #[] #[.pointer (some pl)]] w fun e w' => e = .returned (.tuple #[]) ∧
      ∃ w2, Q w2 ∧ w' = (w2.drew.setCell ⟨b, off, none⟩ (.int .u32 1)).setCell ⟨b, off + 1, none⟩ (.int .i32 0) := by
  have hl := load_ok b off 0 w h0
  have hnot : ∀ (x : Bool) (w : World), (Op.unary .not (.bool x)).run Tryz.prog w = .ok (.bool (!x)) w := fun _ _ => rfl
  go_enter Tryz.func279, Tryz.ntmps279
  go_wp2_with (first
    | (go_at_call 326; refine (slow_ok b off pl _ Q h0 h1 f1 hfn hQ).mono ?_; rintro e w' ⟨rfl, w2, hq, rfl⟩)
    | (go_at_call 325; refine hl.mono ?_; rintro e w' ⟨rfl, rfl⟩))
  go_end0
  exact ⟨rfl, w2, hq, rfl⟩
theorem do_done (b off : Nat) (fv : Value) (w : World) (h0 : w.cell? ⟨b, off, none⟩ = some (.int .u32 1)) :
    Calls Tryz.prog 279 #[.pointer (some ⟨b, off, none⟩), fv] w fun e w' => e = .returned (.tuple #[]) ∧ w' = w := by
  have hl := load_ok b off 1 w h0
  have hnot : ∀ (x : Bool) (w : World), (Op.unary .not (.bool x)).run Tryz.prog w = .ok (.bool (!x)) w := fun _ _ => rfl
  go_enter Tryz.func279, Tryz.ntmps279
  go_wp2_with (go_at_call 325; refine hl.mono ?_; rintro e w' ⟨rfl, rfl⟩)
  go_end0
  exact ⟨rfl, rfl⟩
end Go.Proofs.YtoabojbpeafdkaaGreatDoor
/- The walks of package gf: fields. -/
namespace Go.Proofs.YtoabojbpeafdkaaGreatDoor
open Go Go.Gam
namespace FxFGf
theorem en200 : Ent Tryz.prog 200 := ent Tryz.func200 (by kernel_rfl) (by kernel_rfl)
theorem en201 : Ent Tryz.prog 201 := ent Tryz.func201 (by kernel_rfl) (by kernel_rfl)
theorem en216 : Ent Tryz.prog 216 := ent Tryz.func216 (by kernel_rfl) (by kernel_rfl)
theorem en218 : Ent Tryz.prog 218 := ent Tryz.func218 (by kernel_rfl) (by kernel_rfl)
theorem fa286_1 : FieldFact Tryz.prog 286 1 3 := ff_of (sz := 0) Tryz.underlying286 (by kernel_rfl)
theorem fa286_2 : FieldFact Tryz.prog 286 2 4 := ff_of (sz := 0) Tryz.underlying286 (by kernel_rfl)
theorem fa288_0 : FieldFact Tryz.prog 288 0 0 := ff_of (sz := 0) Tryz.underlying288 (by kernel_rfl)
theorem fa288_1 : FieldFact Tryz.prog 288 1 1 := ff_of (sz := 0) Tryz.underlying288 (by kernel_rfl)
theorem fa288_2 : FieldFact Tryz.prog 288 2 2 := ff_of (sz := 4) Tryz.underlying288 (by kernel_rfl)
theorem hmix : Tryz.prog.follows .mixedOrders = true := by kernel_rfl
theorem on3 : Gam.One Tryz.prog 3 := by unfold Gam.One; kernel_rfl
theorem on49 : Gam.One Tryz.prog 49 := by unfold Gam.One; kernel_rfl
theorem sc138 : Scalar Tryz.prog 138 := ⟨_, Tryz.underlying138, by simp, by simp⟩
theorem sc3 : Scalar Tryz.prog 3 := ⟨_, Tryz.underlying3, by simp, by simp⟩
theorem sc49 : Scalar Tryz.prog 49 := ⟨_, Tryz.underlying49, by simp, by simp⟩
theorem sc93 : Scalar Tryz.prog 93 := ⟨_, Tryz.underlying93, by simp, by simp⟩
theorem sl49 : Sl Tryz.prog 49 3 (.int .i64 0) 8 := sl_of Tryz.underlying49 rfl (by kernel_rfl)
end FxFGf
open FxFGf
theorem v_newField {T : TypeId} {F : Fs} {w : World} {x y : Operand} {wb p : Nat} (hx : ev F x = some (.int .i64 (wb : Int))) (hy : ev F y = some (.int .u32 (p : Int))) :
  Val Tryz.prog (.build 288 #[(0, x), (1, y)]) T F w (.agg (fcells wb p 0 (.slice none 0 0) (.slice none 0 0))) :=
 fun ρ h d pp af g => by
  simp only [execOp, List.map_toArray, List.map_cons, List.map_nil, h x _ hx, h y _ hy]
  kernel_rfl
theorem Size_nil (w : World) : Ret Tryz.prog 216 [.pointer none] w fun v w' => v = .int .i64 0 ∧ w' = w := by
 refine enter 10 [(0, .pointer none)] 2 Tryz.func216 rfl rfl rfl rfl rfl ?_; intro a hF
 refine W_sr rfl fun K hK => ?_
 refine svw hK hF (v_assign rfl) rfl ?_; clear hF a hK K; intro a hF
 refine W_seq ?_
 refine W_sr rfl fun K hK => ?_
 refine sv2w hK hF (v_move rfl) ((v_eqlNil (by exact Tryz.underlying138) rfl rfl).as (congrArg Value.bool (rfl))) rfl rfl ?_; clear hF a hK K; intro a hF
 replace hF := hF.sub _ (c_ 4 rfl (c_ 2 rfl (c_ 0 rfl n_)))
 refine W_ifT hF rfl ?_
 refine W_sr rfl fun K hK => ?_
 refine svw hK hF (v_assign rfl) rfl ?_; clear hF a hK K; intro a hF
 replace hF := hF.sub _ (c_ 2 rfl (c_ 0 rfl n_))
 refine W_ret ?_
 refine ⟨_, _, hF, rfl, ?_⟩
 exact ⟨rfl, rfl⟩
theorem Size_some (k wb : Nat) (w : World) (hw0 : w.cell? ⟨k, 0, none⟩ = some (.int .i64 (wb : Int))) (hwb : wb ≤ 62) : Ret Tryz.prog 216 [.pointer (some ⟨k, 0, none⟩)] w fun v w' => v = .int .i64 ((2 ^ wb : Nat) : Int) ∧ w' = w := by
 refine enter 10 [(0, .pointer (some ⟨k, 0, none⟩))] 2 Tryz.func216 rfl rfl rfl rfl rfl ?_; intro a hF
 refine W_sr rfl fun K hK => ?_
 refine svw hK hF (v_assign rfl) rfl ?_; clear hF a hK K; intro a hF
 refine W_seq ?_
 refine W_sr rfl fun K hK => ?_
 refine sv2w hK hF (v_move rfl) ((v_eqlNil (by exact Tryz.underlying138) rfl rfl).as (congrArg Value.bool (rfl))) rfl rfl ?_; clear hF a hK K; intro a hF
 replace hF := hF.sub _ (c_ 4 rfl (c_ 2 rfl (c_ 0 rfl n_)))
 refine W_ifF hF rfl ?_
 refine W_skip ?_
 refine W_sr rfl fun K hK => ?_
 refine sv3 hF (v_move rfl) (v_nil rfl) (v_fieldAddr fa288_0 rfl) rfl rfl rfl ?_; clear hF a; intro a hF
 refine sv hF (v_load sc3 rfl (by first | assumption | (rw [toNat_c]; assumption) | exact KC.c (by assumption) | (rw [toNat_c]; exact KC.c (by assumption)) | exact Box.at (by assumption))) rfl ?_; clear hF a; intro a hF
 refine sv2w hK hF ((v_shl rfl rfl (by omega)).as (congrArg _ (shl_i64 hwb))) (v_assign rfl) rfl rfl ?_; clear hF a hK K; intro a hF
 replace hF := hF.sub _ (c_ 2 rfl n_)
 refine W_ret ?_
 refine ⟨_, _, hF, rfl, ?_⟩
 exact ⟨rfl, rfl⟩
theorem Bits_nil (w : World) : Ret Tryz.prog 221 [.pointer none] w fun v w' => v = .int .i64 0 ∧ w' = w := by
 refine enter 9 [(0, .pointer none)] 2 Tryz.func221 rfl rfl rfl rfl rfl ?_; intro a hF
 refine W_sr rfl fun K hK => ?_
 refine svw hK hF (v_assign rfl) rfl ?_; clear hF a hK K; intro a hF
 refine W_seq ?_
 refine W_sr rfl fun K hK => ?_
 refine sv2w hK hF (v_move rfl) ((v_eqlNil (by exact Tryz.underlying138) rfl rfl).as (congrArg Value.bool (rfl))) rfl rfl ?_; clear hF a hK K; intro a hF
 replace hF := hF.sub _ (c_ 4 rfl (c_ 2 rfl (c_ 0 rfl n_)))
 refine W_ifT hF rfl ?_
 refine W_sr rfl fun K hK => ?_
 refine svw hK hF (v_assign rfl) rfl ?_; clear hF a hK K; intro a hF
 replace hF := hF.sub _ (c_ 2 rfl (c_ 0 rfl n_))
 refine W_ret ?_
 refine ⟨_, _, hF, rfl, ?_⟩
 exact ⟨rfl, rfl⟩
theorem Bits_some (k wb : Nat) (w : World) (hw0 : w.cell? ⟨k, 0, none⟩ = some (.int .i64 (wb : Int))) (hwb : wb ≤ 62) : Ret Tryz.prog 221 [.pointer (some ⟨k, 0, none⟩)] w fun v w' => v = .int .i64 (wb : Int) ∧ w' = w := by
 refine enter 9 [(0, .pointer (some ⟨k, 0, none⟩))] 2 Tryz.func221 rfl rfl rfl rfl rfl ?_; intro a hF
 refine W_sr rfl fun K hK => ?_
 refine svw hK hF (v_assign rfl) rfl ?_; clear hF a hK K; intro a hF
 refine W_seq ?_
 refine W_sr rfl fun K hK => ?_
 refine sv2w hK hF (v_move rfl) ((v_eqlNil (by exact Tryz.underlying138) rfl rfl).as (congrArg Value.bool (rfl))) rfl rfl ?_; clear hF a hK K; intro a hF
 replace hF := hF.sub _ (c_ 4 rfl (c_ 2 rfl (c_ 0 rfl n_)))
 refine W_ifF hF rfl ?_
 refine W_skip ?_
 refine W_sr rfl fun K hK => ?_
 refine sv3 hF (v_move rfl) (v_nil rfl) (v_fieldAddr fa288_0 rfl) rfl rfl rfl ?_; clear hF a; intro a hF
 refine sv hF (v_load sc3 rfl (by first | assumption | (rw [toNat_c]; assumption) | exact KC.c (by assumption) | (rw [toNat_c]; exact KC.c (by assumption)) | exact Box.at (by assumption))) rfl ?_; clear hF a; intro a hF
 refine svw hK hF (v_assign rfl) rfl ?_; clear hF a hK K; intro a hF
 replace hF := hF.sub _ (c_ 2 rfl n_)
 refine W_ret ?_
 refine ⟨_, _, hF, rfl, ?_⟩
 exact ⟨rfl, rfl⟩
theorem Size_ok (B : Nat) (o : Fq) (fv : Value) (w : World) (hf : Fo FDx B w fv o) : Ret Tryz.prog 216 [fv] w fun v w' => v = .int .i64 (fsz o : Int) ∧ w' = w := by
 cases o with
 | none => obtain rfl : fv = .pointer none := hf; exact Size_nil w
 | some q => obtain ⟨h1, k, rfl, h2⟩ := hf; exact Size_some k q.1 w h2.w0 (by have := h1.w; omega)
def fbits : Fq → Nat
 | none => 0
 | some q => q.1
theorem Bits_ok (B : Nat) (o : Fq) (fv : Value) (w : World) (hf : Fo FDx B w fv o) : Ret Tryz.prog 221 [fv] w fun v w' => v = .int .i64 (fbits o : Int) ∧ w' = w := by
 cases o with
 | none => obtain rfl : fv = .pointer none := hf; exact Bits_nil w
 | some q => obtain ⟨h1, k, rfl, h2⟩ := hf; exact Bits_some k q.1 w h2.w0 (by have := h1.w; omega)
theorem in_ok (B : Nat) (o : Fq) (fv : Value) (sa : Option Addr) (cp : Nat) (zs : List Int) (w : World) (hI : Inv FDx B w) (hf : Fo FDx B w fv o) (hz : zs.length < 4294967296) (hr : ∀ (i : Nat) (z : Int), zs[i]? = some z → ∃ g o, sa = some ⟨g, o, none⟩ ∧ w.cell? ⟨g, o + i, none⟩ = some (.int .i64 z)) : Ret Tryz.prog 217 [fv, .slice sa zs.length cp] w fun v w' => v = .bool (zs.all (inF o)) ∧ w' = w := by
 refine enter 22 [(0, fv), (1, .slice sa zs.length cp)] 4 Tryz.func217 rfl rfl rfl rfl rfl ?_; intro a hF
 have hS := St.refl hI
 refine W_sr rfl fun K hK => ?_
 refine svw hK hF (v_assign rfl) rfl ?_; clear hF a hK K; intro a hF
 refine W_seq ?_
 refine W_sr rfl fun K hK => ?_
 refine sv3w hK hF (v_move rfl) (v_lenS rfl sl49 rfl) (v_move rfl) rfl rfl rfl ?_; clear hF a hK K; intro a hF
 replace hF := hF.sub _ (c_ 9 rfl (c_ 8 rfl (c_ 7 rfl (c_ 4 rfl (c_ 0 rfl n_)))))
 refine W_block ?_
 refine W_loop (fun m a w1 => ∃ i : Nat, Fr 22 [(0, fv), (7, .slice sa zs.length cp), (8, .int .i64 (zs.length : Int)), (9, .int .i64 (i : Int))] a ∧ w = w1 ∧ i ≤ zs.length ∧ (zs.take i).all (inF o) = true ∧ m + i = zs.length) (zs.length) ?_ ?_
 · skip
   exact ⟨0, hF.sub _ (c_ 0 rfl (c_ 7 rfl (c_ 8 rfl (c_ 9 rfl n_)))), rfl, by omega, rfl, by omega⟩
 skip
 clear hF
 rintro m a _ ⟨i, hF, rfl, hi, hall, hm⟩
 refine W_sr rfl fun K hK => ?_
 refine svw hK hF (v_lss rfl rfl) rfl ?_; clear hF a hK K; intro a hF
 refine W_seq ?_
 refine W_if hF rfl (fun hc1 => ?_) (fun hc1 => ?_)
 ·
  skip
  try simp only [dcl] at hc1
  have hlt : i < zs.length := by omega
  obtain ⟨g, oo, rfl, hc⟩ := hr i _ (List.getElem?_eq_getElem hlt)
  generalize hzi : zs[i] = z at hc
  refine W_skip ?_
  refine W_seq ?_
  refine W_block ?_
  refine W_sr rfl fun K hK => ?_
  refine sv hF (v_ixS sl49 rfl rfl (by omega) (by omega)) rfl ?_; clear hF a; intro a hF
  refine sv hF (v_load sc3 rfl (by first | assumption | (rw [toNat_c]; assumption) | exact KC.c (by assumption) | (rw [toNat_c]; exact KC.c (by assumption)) | exact Box.at (by assumption))) rfl ?_; clear hF a; intro a hF
  refine svw hK hF (v_assign rfl) rfl ?_; clear hF a hK K; intro a hF
  replace hF := hF.sub _ (c_ 6 rfl (c_ 0 rfl (c_ 7 rfl (c_ 8 rfl (c_ 9 rfl n_)))))
  refine W_sr rfl fun K hK => ?_
  refine sv hF (v_move rfl) rfl ?_; clear hF a; intro a hF
  refine sb hF (v_lss rfl rfl) rfl ?_ ?_
  ·
   clear hF a; intro hc2 a hF
   try simp only [dcl] at hc2
   refine sv hF (v_move rfl) rfl ?_; clear hF a; intro a hF
   refine svn4 hF rfl rfl rfl rfl rfl rfl rfl rfl rfl rfl rfl rfl ?_; clear hF a; intro a hF
   refine svw hK hF (v_pickT rfl rfl) rfl ?_; clear hF a hK K; intro a hF
   replace hF := hF.sub _ (c_ 20 rfl (c_ 0 rfl (c_ 7 rfl (c_ 8 rfl (c_ 9 rfl n_)))))
   refine W_ifT hF rfl ?_
   refine W_sr rfl fun K hK => ?_
   refine svw hK hF (v_assign rfl) rfl ?_; clear hF a hK K; intro a hF
   replace hF := hF.sub _ (c_ 4 rfl (c_ 0 rfl (c_ 7 rfl (c_ 8 rfl (c_ 9 rfl n_)))))
   refine W_ret ?_
   refine ⟨_, _, hF, rfl, ?_⟩
   refine ⟨congrArg _ (Eq.symm ?_), rfl⟩
   rw [List.all_eq_false]
   exact ⟨z, hzi ▸ List.getElem_mem hlt, by unfold inF; simp; omega⟩
  clear hF a; intro hc2 a hF
  try simp only [dcl] at hc2
  refine sv hF (v_move rfl) rfl ?_; clear hF a; intro a hF
  refine svg hF rfl ?_
  refine sv hF (v_move rfl) rfl ?_; clear hF a; intro a hF
  refine svg hF rfl ?_
  refine sv hF (v_move rfl) rfl ?_; clear hF a; intro a hF
  refine svg hF rfl ?_
  refine sc hF rfl rfl rfl en216 rfl (Size_ok B o fv _ hf) ?_; clear hF a; intro v w' a hv hF
  obtain ⟨rfl, rfl⟩ := hv
  have hS' := St.refl hS.inv
  replace hS := hS.trans hS'
  clear hS'
  refine svg hF rfl ?_
  refine sv2w hK hF (v_geq rfl rfl) (v_pickF rfl rfl) rfl rfl ?_; clear hF a hK K; intro a hF
  replace hF := hF.sub _ (c_ 20 rfl (c_ 0 rfl (c_ 7 rfl (c_ 8 rfl (c_ 9 rfl n_)))))
  refine W_if hF rfl (fun hc3 => ?_) (fun hc3 => ?_)
  ·
   skip
   try simp only [dcl] at hc3
   refine W_sr rfl fun K hK => ?_
   refine svw hK hF (v_assign rfl) rfl ?_; clear hF a hK K; intro a hF
   replace hF := hF.sub _ (c_ 4 rfl (c_ 0 rfl (c_ 7 rfl (c_ 8 rfl (c_ 9 rfl n_)))))
   refine W_ret ?_
   refine ⟨_, _, hF, rfl, ?_⟩
   refine ⟨congrArg _ (Eq.symm ?_), rfl⟩
   rw [List.all_eq_false]
   exact ⟨z, hzi ▸ List.getElem_mem hlt, by unfold inF; simp; omega⟩
  skip
  try simp only [dcl] at hc3
  refine W_skip ?_
  refine W_reg rfl fun K hK => ?_
  refine sv2w hK hF (v_addI rfl rfl (by omega)) (v_move rfl) rfl rfl ?_; clear hF a hK K; intro a hF
  replace hF := hF.sub _ (c_ 9 rfl (c_ 21 rfl (c_ 0 rfl (c_ 7 rfl (c_ 8 rfl n_)))))
  refine ⟨m - 1, by omega, i + 1, hF.sub _ (c_ 0 rfl (c_ 7 rfl (c_ 8 rfl (c_ 9 rfl n_)))), rfl, by omega, ?_, by omega⟩
  rw [List.take_succ_eq_append_getElem hlt, List.all_append, hall, hzi]
  simp [inF]; omega
 skip
 try simp only [dcl] at hc1
 refine W_exit rfl ?_
 refine W_sr rfl fun K hK => ?_
 refine svw hK hF (v_assign rfl) rfl ?_; clear hF a hK K; intro a hF
 replace hF := hF.sub _ (c_ 4 rfl (c_ 0 rfl (c_ 7 rfl (c_ 8 rfl (c_ 9 rfl n_)))))
 refine W_ret ?_
 refine ⟨_, _, hF, rfl, ?_⟩
 obtain rfl : i = zs.length := by omega
 rw [List.take_length] at hall
 exact ⟨congrArg _ hall.symm, rfl⟩
theorem New_ok (B : Nat) (W : Int) (p : Nat) (w : World) (hI : Inv FDx B w) (hW : -9223372036854775808 ≤ W ∧ W < 9223372036854775808) (hp : p < 4294967296) : Ret Tryz.prog 128 [.int .i64 W, .int .u32 (p : Int)] w fun v w' => Fo FDx B w' v (newF W p) ∧ St FDx B w w' := by
 refine enter 27 [(0, .int .i64 W), (1, .int .u32 (p : Int))] 4 Tryz.func128 rfl rfl rfl rfl rfl ?_; intro a hF
 have hS := St.refl hI
 refine W_sr rfl fun K hK => ?_
 refine svw hK hF (v_assign rfl) rfl ?_; clear hF a hK K; intro a hF
 refine W_seq ?_
 refine W_sr rfl fun K hK => ?_
 refine sv hF (v_move rfl) rfl ?_; clear hF a; intro a hF
 refine sb hF (v_neq rfl rfl) rfl ?_ ?_
 ·
  clear hF a; intro hc1 a hF
  try simp only [dcl] at hc1
  refine sv hF (v_move rfl) rfl ?_; clear hF a; intro a hF
  refine svg hF rfl ?_
  refine sv hF (v_move rfl) rfl ?_; clear hF a; intro a hF
  refine svg hF rfl ?_
  refine sb hF (v_neq rfl rfl) rfl ?_ ?_
  ·
   clear hF a; intro hc2 a hF
   try simp only [dcl] at hc2
   refine sv2 hF (v_pickT rfl rfl) (v_move rfl) rfl rfl ?_; clear hF a; intro a hF
   refine svn5 hF rfl rfl rfl rfl rfl rfl rfl rfl rfl rfl rfl rfl rfl rfl rfl ?_; clear hF a; intro a hF
   refine sv2 hF (v_pickT rfl rfl) (v_move rfl) rfl rfl ?_; clear hF a; intro a hF
   refine svn3 hF rfl rfl rfl rfl rfl rfl rfl rfl rfl ?_; clear hF a; intro a hF
   refine svw hK hF (v_pickT rfl rfl) rfl ?_; clear hF a hK K; intro a hF
   replace hF := hF.sub _ (c_ 22 rfl (c_ 4 rfl (c_ 0 rfl (c_ 1 rfl n_))))
   refine W_ifT hF rfl ?_
   refine W_sr rfl fun K hK => ?_
   refine svw hK hF (v_assign rfl) rfl ?_; clear hF a hK K; intro a hF
   replace hF := hF.sub _ (c_ 4 rfl (c_ 0 rfl (c_ 1 rfl n_)))
   refine W_ret ?_
   refine ⟨_, _, hF, rfl, ?_⟩
   first
    | exact ⟨by rw [newF_f (by rintro ⟨h1, h2, h3⟩; first | omega | (simp_all; done))]; rfl, hS⟩
    | (have hc : ((wb : Int) = 8 ∨ (wb : Int) = 16) ∧ Px.deg p = (wb : Int) ∧ prim p = true := ⟨by omega, by omega, by simp_all⟩
       rw [newF_t hc]
       exact ⟨⟨newF_prm hc, _, rfl, hfk⟩, hS⟩)
  clear hF a; intro hc2 a hF
  try simp only [dcl] at hc2
  refine sv2 hF (v_pickT rfl rfl) (v_move rfl) rfl rfl ?_; clear hF a; intro a hF
  refine svg hF rfl ?_
  refine sv hF (v_move rfl) rfl ?_; clear hF a; intro a hF
  refine svg hF rfl ?_
  refine sv hF (v_cv Tryz.underlying93 Tryz.underlying272 rfl (wrap_u64 _ (by omega))) rfl ?_; clear hF a; intro a hF
  refine svg hF rfl ?_
  refine sc hF rfl rfl rfl en200 rfl (Deg_ok B p _ hS.inv (by omega)) ?_; clear hF a; intro v w' a hv hF
  obtain ⟨rfl, hS'⟩ := hv
  replace hS := hS.trans hS'
  clear hS'
  refine svg hF rfl ?_
  refine sv hF (v_move rfl) rfl ?_; clear hF a; intro a hF
  refine svg hF rfl ?_
  refine sb hF (v_neq rfl rfl) rfl ?_ ?_
  ·
   clear hF a; intro hc3 a hF
   try simp only [dcl] at hc3
   refine sv2 hF (v_pickF rfl rfl) (v_move rfl) rfl rfl ?_; clear hF a; intro a hF
   refine svn3 hF rfl rfl rfl rfl rfl rfl rfl rfl rfl ?_; clear hF a; intro a hF
   refine svw hK hF (v_pickT rfl rfl) rfl ?_; clear hF a hK K; intro a hF
   replace hF := hF.sub _ (c_ 22 rfl (c_ 4 rfl (c_ 0 rfl (c_ 1 rfl n_))))
   refine W_ifT hF rfl ?_
   refine W_sr rfl fun K hK => ?_
   refine svw hK hF (v_assign rfl) rfl ?_; clear hF a hK K; intro a hF
   replace hF := hF.sub _ (c_ 4 rfl (c_ 0 rfl (c_ 1 rfl n_)))
   refine W_ret ?_
   refine ⟨_, _, hF, rfl, ?_⟩
   first
    | exact ⟨by rw [newF_f (by rintro ⟨h1, h2, h3⟩; first | omega | (simp_all; done))]; rfl, hS⟩
    | (have hc : ((wb : Int) = 8 ∨ (wb : Int) = 16) ∧ Px.deg p = (wb : Int) ∧ prim p = true := ⟨by omega, by omega, by simp_all⟩
       rw [newF_t hc]
       exact ⟨⟨newF_prm hc, _, rfl, hfk⟩, hS⟩)
  clear hF a; intro hc3 a hF
  try simp only [dcl] at hc3
  refine sv2 hF (v_pickF rfl rfl) (v_move rfl) rfl rfl ?_; clear hF a; intro a hF
  refine svg hF rfl ?_
  refine sv hF (v_move rfl) rfl ?_; clear hF a; intro a hF
  refine svg hF rfl ?_
  refine sc hF rfl rfl rfl en201 rfl (prim_ok B p _ hS.inv hp) ?_; clear hF a; intro v w' a hv hF
  obtain ⟨rfl, hS'⟩ := hv
  replace hS := hS.trans hS'
  clear hS'
  refine svg hF rfl ?_
  refine sv2w hK hF (v_not rfl) (v_pickF rfl rfl) rfl rfl ?_; clear hF a hK K; intro a hF
  replace hF := hF.sub _ (c_ 22 rfl (c_ 4 rfl (c_ 0 rfl (c_ 1 rfl n_))))
  refine W_if hF rfl (fun hc4 => ?_) (fun hc4 => ?_)
  ·
   skip
   try simp only [dcl] at hc4
   refine W_sr rfl fun K hK => ?_
   refine svw hK hF (v_assign rfl) rfl ?_; clear hF a hK K; intro a hF
   replace hF := hF.sub _ (c_ 4 rfl (c_ 0 rfl (c_ 1 rfl n_)))
   refine W_ret ?_
   refine ⟨_, _, hF, rfl, ?_⟩
   first
    | exact ⟨by rw [newF_f (by rintro ⟨h1, h2, h3⟩; first | omega | (simp_all; done))]; rfl, hS⟩
    | (have hc : ((wb : Int) = 8 ∨ (wb : Int) = 16) ∧ Px.deg p = (wb : Int) ∧ prim p = true := ⟨by omega, by omega, by simp_all⟩
       rw [newF_t hc]
       exact ⟨⟨newF_prm hc, _, rfl, hfk⟩, hS⟩)
  skip
  try simp only [dcl] at hc4
  refine W_skip ?_
  obtain ⟨wb, rfl⟩ : ∃ wb : Nat, W = (wb : Int) := ⟨W.toNat, by omega⟩
  refine W_sr rfl fun K hK => ?_
  refine sv3 hF (v_move rfl) (v_move rfl) (v_newField rfl rfl) rfl rfl rfl ?_; clear hF a; intro a hF
  refine s_field (D := FDx) (B := B) hF rfl rfl hS.inv rfl ?_; clear hF a; intro w' a hS' hfk hF
  replace hS := hS.trans hS'
  refine svw hK hF (v_assign rfl) rfl ?_; clear hF a hK K; intro a hF
  replace hF := hF.sub _ (c_ 4 rfl n_)
  refine W_ret ?_
  refine ⟨_, _, hF, rfl, ?_⟩
  first
   | exact ⟨by rw [newF_f (by rintro ⟨h1, h2, h3⟩; first | omega | (simp_all; done))]; rfl, hS⟩
   | (have hc : ((wb : Int) = 8 ∨ (wb : Int) = 16) ∧ Px.deg p = (wb : Int) ∧ prim p = true := ⟨by omega, by omega, by simp_all⟩
      rw [newF_t hc]
      exact ⟨⟨newF_prm hc, _, rfl, hfk⟩, hS⟩)
 clear hF a; intro hc1 a hF
 try simp only [dcl] at hc1
 refine sv hF (v_move rfl) rfl ?_; clear hF a; intro a hF
 refine svn2 hF rfl rfl rfl rfl rfl rfl ?_; clear hF a; intro a hF
 refine sv2 hF (v_pickF rfl rfl) (v_move rfl) rfl rfl ?_; clear hF a; intro a hF
 refine svg hF rfl ?_
 refine sv hF (v_move rfl) rfl ?_; clear hF a; intro a hF
 refine svg hF rfl ?_
 refine sv hF (v_cv Tryz.underlying93 Tryz.underlying272 rfl (wrap_u64 _ (by omega))) rfl ?_; clear hF a; intro a hF
 refine svg hF rfl ?_
 refine sc hF rfl rfl rfl en200 rfl (Deg_ok B p _ hS.inv (by omega)) ?_; clear hF a; intro v w' a hv hF
 obtain ⟨rfl, hS'⟩ := hv
 replace hS := hS.trans hS'
 clear hS'
 refine svg hF rfl ?_
 refine sv hF (v_move rfl) rfl ?_; clear hF a; intro a hF
 refine svg hF rfl ?_
 refine sb hF (v_neq rfl rfl) rfl ?_ ?_
 ·
  clear hF a; intro hc5 a hF
  try simp only [dcl] at hc5
  refine sv2 hF (v_pickF rfl rfl) (v_move rfl) rfl rfl ?_; clear hF a; intro a hF
  refine svn3 hF rfl rfl rfl rfl rfl rfl rfl rfl rfl ?_; clear hF a; intro a hF
  refine svw hK hF (v_pickT rfl rfl) rfl ?_; clear hF a hK K; intro a hF
  replace hF := hF.sub _ (c_ 22 rfl (c_ 4 rfl (c_ 0 rfl (c_ 1 rfl n_))))
  refine W_ifT hF rfl ?_
  refine W_sr rfl fun K hK => ?_
  refine svw hK hF (v_assign rfl) rfl ?_; clear hF a hK K; intro a hF
  replace hF := hF.sub _ (c_ 4 rfl (c_ 0 rfl (c_ 1 rfl n_)))
  refine W_ret ?_
  refine ⟨_, _, hF, rfl, ?_⟩
  first
   | exact ⟨by rw [newF_f (by rintro ⟨h1, h2, h3⟩; first | omega | (simp_all; done))]; rfl, hS⟩
   | (have hc : ((wb : Int) = 8 ∨ (wb : Int) = 16) ∧ Px.deg p = (wb : Int) ∧ prim p = true := ⟨by omega, by omega, by simp_all⟩
      rw [newF_t hc]
      exact ⟨⟨newF_prm hc, _, rfl, hfk⟩, hS⟩)
 clear hF a; intro hc5 a hF
 try simp only [dcl] at hc5
 refine sv2 hF (v_pickF rfl rfl) (v_move rfl) rfl rfl ?_; clear hF a; intro a hF
 refine svg hF rfl ?_
 refine sv hF (v_move rfl) rfl ?_; clear hF a; intro a hF
 refine svg hF rfl ?_
 refine sc hF rfl rfl rfl en201 rfl (prim_ok B p _ hS.inv hp) ?_; clear hF a; intro v w' a hv hF
 obtain ⟨rfl, hS'⟩ := hv
 replace hS := hS.trans hS'
 clear hS'
 refine svg hF rfl ?_
 refine sv2w hK hF (v_not rfl) (v_pickF rfl rfl) rfl rfl ?_; clear hF a hK K; intro a hF
 replace hF := hF.sub _ (c_ 22 rfl (c_ 4 rfl (c_ 0 rfl (c_ 1 rfl n_))))
 refine W_if hF rfl (fun hc6 => ?_) (fun hc6 => ?_)
 ·
  skip
  try simp only [dcl] at hc6
  refine W_sr rfl fun K hK => ?_
  refine svw hK hF (v_assign rfl) rfl ?_; clear hF a hK K; intro a hF
  replace hF := hF.sub _ (c_ 4 rfl (c_ 0 rfl (c_ 1 rfl n_)))
  refine W_ret ?_
  refine ⟨_, _, hF, rfl, ?_⟩
  first
   | exact ⟨by rw [newF_f (by rintro ⟨h1, h2, h3⟩; first | omega | (simp_all; done))]; rfl, hS⟩
   | (have hc : ((wb : Int) = 8 ∨ (wb : Int) = 16) ∧ Px.deg p = (wb : Int) ∧ prim p = true := ⟨by omega, by omega, by simp_all⟩
      rw [newF_t hc]
      exact ⟨⟨newF_prm hc, _, rfl, hfk⟩, hS⟩)
 skip
 try simp only [dcl] at hc6
 refine W_skip ?_
 obtain ⟨wb, rfl⟩ : ∃ wb : Nat, W = (wb : Int) := ⟨W.toNat, by omega⟩
 refine W_sr rfl fun K hK => ?_
 refine sv3 hF (v_move rfl) (v_move rfl) (v_newField rfl rfl) rfl rfl rfl ?_; clear hF a; intro a hF
 refine s_field (D := FDx) (B := B) hF rfl rfl hS.inv rfl ?_; clear hF a; intro w' a hS' hfk hF
 replace hS := hS.trans hS'
 refine svw hK hF (v_assign rfl) rfl ?_; clear hF a hK K; intro a hF
 replace hF := hF.sub _ (c_ 4 rfl n_)
 refine W_ret ?_
 refine ⟨_, _, hF, rfl, ?_⟩
 first
  | exact ⟨by rw [newF_f (by rintro ⟨h1, h2, h3⟩; first | omega | (simp_all; done))]; rfl, hS⟩
  | (have hc : ((wb : Int) = 8 ∨ (wb : Int) = 16) ∧ Px.deg p = (wb : Int) ∧ prim p = true := ⟨by omega, by omega, by simp_all⟩
     rw [newF_t hc]
     exact ⟨⟨newF_prm hc, _, rfl, hfk⟩, hS⟩)
theorem ready1_ok (wb p k pb : Nat) (z2 z3 z4 : Value) (w : World) (hp : Prm wb p) (hk : w.heap[k]? = some (.cells #[.int .i64 (wb : Int), .int .u32 (p : Int), z2, z3, z4, .slice none 0 0, .slice none 0 0] FDx.T (0, 0))) (hc : w.cell? ⟨pb, 0, none⟩ = some (.pointer (some ⟨k, 0, none⟩))) (hkb : k ≠ pb) : Ret Tryz.prog 280 [.pointer (some ⟨pb, 0, none⟩)] w fun v w' => v = .tuple #[] ∧ ∃ g1 g2, Tst FDx w w' k #[.int .i64 (wb : Int), .int .u32 (p : Int), z2, z3, z4, .slice (some ⟨g1, 0, none⟩) (2 ^ wb) (2 ^ wb), .slice (some ⟨g2, 0, none⟩) (2 ^ wb) (2 ^ wb)] g1 g2 (Px.expL wb p (2 ^ wb - 1)) (Px.logL wb p (2 ^ wb - 1)) := by
 refine enter0 48 [(0, .pointer (some ⟨pb, 0, none⟩))]  Tryz.func280 rfl rfl rfl rfl rfl ?_; intro a hF
 have hwb : wb ≤ 62 := by have := hp.w; omega
 have hsz := hp.size
 have horder := hp.order
 refine W_cut (fun a w1 => ∃ g1 g2, Fr 48 [(0, .pointer (some ⟨pb, 0, none⟩))] a ∧ Tst FDx w w1 k #[.int .i64 (wb : Int), .int .u32 (p : Int), z2, z3, z4, .slice (some ⟨g1, 0, none⟩) (2 ^ wb) (2 ^ wb), .slice (some ⟨g2, 0, none⟩) (2 ^ wb) (2 ^ wb)] g1 g2 (List.replicate (2 ^ wb) 0) (List.replicate (2 ^ wb) 0)) ?_ ?_
 ·
  skip
  refine W_dS (fun w2 => w2.cell? ⟨pb, 0, none⟩ = some (.pointer (some ⟨k, 0, none⟩)) ∧ w2.cell? ⟨k, 0, none⟩ = some (.int .i64 (wb : Int))) (m := 16) rfl hmix (fun K hK => ?_)
  have hM := Mid.start (E := FDx.E) (T := FDx.T) (m := 2 ^ wb) hk
  have hSS := hM.S hc hkb rfl
  refine b_v (i := 0) rfl (by kernel_rfl) hF (fun w2 hx => v_load sc138 rfl (hx.1)) rfl hSS ?_; clear hF a; intro a hF
  refine b_v (i := 1) rfl (by kernel_rfl) hF (fun w2 hx => v_load sc138 rfl (hx.1)) rfl hSS ?_; clear hF a; intro a hF
  refine b_v (i := 2) rfl (by kernel_rfl) hF (fun w2 hx => v_load sc138 rfl (hx.1)) rfl hSS ?_; clear hF a; intro a hF
  refine b_v (i := 5) rfl (by kernel_rfl) hF (fun w2 hx => v_load sc138 rfl (hx.1)) rfl hSS ?_; clear hF a; intro a hF
  refine b_e (i := 3) (by kernel_rfl) rfl ?_
  refine sc hF rfl rfl rfl en216 rfl (Size_some k wb _ hSS.2 hwb) ?_; clear hF a; intro v w' a hv hF
  obtain ⟨rfl, rfl⟩ := hv
  refine WL_nil ⟨hSS, ?_⟩
  refine b_e2 (i := 4) (i' := 6) (by kernel_rfl) rfl rfl ?_ ?_
  ·
   skip
   refine s_mkM (E := FDx.E) (Tf := FDx.T) hF sl49 rfl rfl (by omega) (by simp only [maxLen]; omega) rfl hM ?_; clear hF a; intro w' a g1 hg1 hM hF
   clear hSS
   have hSS := hM.S hc hkb rfl
   refine WL_nil ⟨hSS, ?_⟩
   refine b_e (i := 6) (by kernel_rfl) rfl ?_
   refine sc hF rfl rfl rfl en216 rfl (Size_some k wb _ hSS.2 hwb) ?_; clear hF a; intro v w' a hv hF
   obtain ⟨rfl, rfl⟩ := hv
   refine WL_nil ⟨hSS, ?_⟩
   refine b_v (i := 8) rfl (by kernel_rfl) hF (fun w2 hx => v_nil rfl) rfl hSS ?_; clear hF a; intro a hF
   refine b_v (i := 9) rfl (by kernel_rfl) hF (fun w2 hx => v_fieldAddr fa288_2 rfl) rfl hSS ?_; clear hF a; intro a hF
   refine b_v (i := 10) rfl (by kernel_rfl) hF (fun w2 hx => v_fieldAddr fa286_1 rfl) rfl hSS ?_; clear hF a; intro a hF
   refine b_e2 (i := 7) (i' := 11) (by kernel_rfl) rfl rfl ?_ ?_
   ·
    skip
    refine s_mkM (E := FDx.E) (Tf := FDx.T) hF sl49 rfl rfl (by omega) (by simp only [maxLen]; omega) rfl hM ?_; clear hF a; intro w' a g2 hg2 hM hF
    clear hSS
    have hSS := hM.S hc hkb rfl
    refine WL_nil ⟨hSS, ?_⟩
    refine b_e (i := 11) (by kernel_rfl) rfl ?_
    refine s_st hF on49 rfl rfl rfl hM.blk (by simp) (fun w' hu => ?_)
    replace hM := hM.store hu
    clear hu hSS
    have hSS := hM.S hc hkb rfl
    refine WL_nil ⟨hSS, ?_⟩
    refine b_v (i := 12) rfl (by kernel_rfl) hF (fun w2 hx => v_nil rfl) rfl hSS ?_; clear hF a; intro a hF
    refine b_v (i := 13) rfl (by kernel_rfl) hF (fun w2 hx => v_fieldAddr fa288_2 rfl) rfl hSS ?_; clear hF a; intro a hF
    refine b_v (i := 14) rfl (by kernel_rfl) hF (fun w2 hx => v_fieldAddr fa286_2 rfl) rfl hSS ?_; clear hF a; intro a hF
    refine b_e (i := 15) (by kernel_rfl) rfl ?_
    refine s_st hF on49 rfl rfl rfl hM.blk (by simp) (fun w' hu => ?_)
    replace hM := hM.store hu
    clear hu hSS
    have hSS := hM.S hc hkb rfl
    refine WL_nil ⟨hSS, ?_⟩
    refine b_done (by kernel_rfl) (hK _ _ ?_)
    clear hK K
    replace hF := hF.sub _ (c_ 0 rfl n_)
    first
     | exact ⟨g1, g2, hF.sub _ (c_ 0 rfl n_), hM.tst (Nat.ne_of_lt (hg2 g1 (by simp)))⟩
     | exact ⟨g1, g2, hF.sub _ (c_ 0 rfl n_), hM.swap.tst (Nat.ne_of_gt (hg1 g2 (by simp)))⟩
   skip
   refine s_st hF on49 rfl rfl rfl hM.blk (by simp) (fun w' hu => ?_)
   replace hM := hM.store hu
   clear hu hSS
   have hSS := hM.S hc hkb rfl
   refine WL_nil ⟨hSS, ?_⟩
   refine b_e (i := 7) (by kernel_rfl) rfl ?_
   refine s_mkM (E := FDx.E) (Tf := FDx.T) hF sl49 rfl rfl (by omega) (by simp only [maxLen]; omega) rfl hM ?_; clear hF a; intro w' a g2 hg2 hM hF
   clear hSS
   have hSS := hM.S hc hkb rfl
   refine WL_nil ⟨hSS, ?_⟩
   refine b_v (i := 12) rfl (by kernel_rfl) hF (fun w2 hx => v_nil rfl) rfl hSS ?_; clear hF a; intro a hF
   refine b_v (i := 13) rfl (by kernel_rfl) hF (fun w2 hx => v_fieldAddr fa288_2 rfl) rfl hSS ?_; clear hF a; intro a hF
   refine b_v (i := 14) rfl (by kernel_rfl) hF (fun w2 hx => v_fieldAddr fa286_2 rfl) rfl hSS ?_; clear hF a; intro a hF
   refine b_e (i := 15) (by kernel_rfl) rfl ?_
   refine s_st hF on49 rfl rfl rfl hM.blk (by simp) (fun w' hu => ?_)
   replace hM := hM.store hu
   clear hu hSS
   have hSS := hM.S hc hkb rfl
   refine WL_nil ⟨hSS, ?_⟩
   refine b_done (by kernel_rfl) (hK _ _ ?_)
   clear hK K
   replace hF := hF.sub _ (c_ 0 rfl n_)
   first
    | exact ⟨g1, g2, hF.sub _ (c_ 0 rfl n_), hM.tst (Nat.ne_of_lt (hg2 g1 (by simp)))⟩
    | exact ⟨g1, g2, hF.sub _ (c_ 0 rfl n_), hM.swap.tst (Nat.ne_of_gt (hg1 g2 (by simp)))⟩
  skip
  refine sc hF rfl rfl rfl en216 rfl (Size_some k wb _ hSS.2 hwb) ?_; clear hF a; intro v w' a hv hF
  obtain ⟨rfl, rfl⟩ := hv
  refine WL_nil ⟨hSS, ?_⟩
  refine b_e2 (i := 4) (i' := 7) (by kernel_rfl) rfl rfl ?_ ?_
  ·
   skip
   refine s_mkM (E := FDx.E) (Tf := FDx.T) hF sl49 rfl rfl (by omega) (by simp only [maxLen]; omega) rfl hM ?_; clear hF a; intro w' a g1 hg1 hM hF
   clear hSS
   have hSS := hM.S hc hkb rfl
   refine WL_nil ⟨hSS, ?_⟩
   refine b_v (i := 8) rfl (by kernel_rfl) hF (fun w2 hx => v_nil rfl) rfl hSS ?_; clear hF a; intro a hF
   refine b_v (i := 9) rfl (by kernel_rfl) hF (fun w2 hx => v_fieldAddr fa288_2 rfl) rfl hSS ?_; clear hF a; intro a hF
   refine b_v (i := 10) rfl (by kernel_rfl) hF (fun w2 hx => v_fieldAddr fa286_1 rfl) rfl hSS ?_; clear hF a; intro a hF
   refine b_e2 (i := 7) (i' := 11) (by kernel_rfl) rfl rfl ?_ ?_
   ·
    skip
    refine s_mkM (E := FDx.E) (Tf := FDx.T) hF sl49 rfl rfl (by omega) (by simp only [maxLen]; omega) rfl hM ?_; clear hF a; intro w' a g2 hg2 hM hF
    clear hSS
    have hSS := hM.S hc hkb rfl
    refine WL_nil ⟨hSS, ?_⟩
    refine b_e (i := 11) (by kernel_rfl) rfl ?_
    refine s_st hF on49 rfl rfl rfl hM.blk (by simp) (fun w' hu => ?_)
    replace hM := hM.store hu
    clear hu hSS
    have hSS := hM.S hc hkb rfl
    refine WL_nil ⟨hSS, ?_⟩
    refine b_v (i := 12) rfl (by kernel_rfl) hF (fun w2 hx => v_nil rfl) rfl hSS ?_; clear hF a; intro a hF
    refine b_v (i := 13) rfl (by kernel_rfl) hF (fun w2 hx => v_fieldAddr fa288_2 rfl) rfl hSS ?_; clear hF a; intro a hF
    refine b_v (i := 14) rfl (by kernel_rfl) hF (fun w2 hx => v_fieldAddr fa286_2 rfl) rfl hSS ?_; clear hF a; intro a hF
    refine b_e (i := 15) (by kernel_rfl) rfl ?_
    refine s_st hF on49 rfl rfl rfl hM.blk (by simp) (fun w' hu => ?_)
    replace hM := hM.store hu
    clear hu hSS
    have hSS := hM.S hc hkb rfl
    refine WL_nil ⟨hSS, ?_⟩
    refine b_done (by kernel_rfl) (hK _ _ ?_)
    clear hK K
    replace hF := hF.sub _ (c_ 0 rfl n_)
    first
     | exact ⟨g1, g2, hF.sub _ (c_ 0 rfl n_), hM.tst (Nat.ne_of_lt (hg2 g1 (by simp)))⟩
     | exact ⟨g1, g2, hF.sub _ (c_ 0 rfl n_), hM.swap.tst (Nat.ne_of_gt (hg1 g2 (by simp)))⟩
   skip
   refine s_st hF on49 rfl rfl rfl hM.blk (by simp) (fun w' hu => ?_)
   replace hM := hM.store hu
   clear hu hSS
   have hSS := hM.S hc hkb rfl
   refine WL_nil ⟨hSS, ?_⟩
   refine b_e (i := 7) (by kernel_rfl) rfl ?_
   refine s_mkM (E := FDx.E) (Tf := FDx.T) hF sl49 rfl rfl (by omega) (by simp only [maxLen]; omega) rfl hM ?_; clear hF a; intro w' a g2 hg2 hM hF
   clear hSS
   have hSS := hM.S hc hkb rfl
   refine WL_nil ⟨hSS, ?_⟩
   refine b_v (i := 12) rfl (by kernel_rfl) hF (fun w2 hx => v_nil rfl) rfl hSS ?_; clear hF a; intro a hF
   refine b_v (i := 13) rfl (by kernel_rfl) hF (fun w2 hx => v_fieldAddr fa288_2 rfl) rfl hSS ?_; clear hF a; intro a hF
   refine b_v (i := 14) rfl (by kernel_rfl) hF (fun w2 hx => v_fieldAddr fa286_2 rfl) rfl hSS ?_; clear hF a; intro a hF
   refine b_e (i := 15) (by kernel_rfl) rfl ?_
   refine s_st hF on49 rfl rfl rfl hM.blk (by simp) (fun w' hu => ?_)
   replace hM := hM.store hu
   clear hu hSS
   have hSS := hM.S hc hkb rfl
   refine WL_nil ⟨hSS, ?_⟩
   refine b_done (by kernel_rfl) (hK _ _ ?_)
   clear hK K
   replace hF := hF.sub _ (c_ 0 rfl n_)
   first
    | exact ⟨g1, g2, hF.sub _ (c_ 0 rfl n_), hM.tst (Nat.ne_of_lt (hg2 g1 (by simp)))⟩
    | exact ⟨g1, g2, hF.sub _ (c_ 0 rfl n_), hM.swap.tst (Nat.ne_of_gt (hg1 g2 (by simp)))⟩
  skip
  refine s_mkM (E := FDx.E) (Tf := FDx.T) hF sl49 rfl rfl (by omega) (by simp only [maxLen]; omega) rfl hM ?_; clear hF a; intro w' a g2 hg2 hM hF
  clear hSS
  have hSS := hM.S hc hkb rfl
  refine WL_nil ⟨hSS, ?_⟩
  refine b_e (i := 4) (by kernel_rfl) rfl ?_
  refine s_mkM (E := FDx.E) (Tf := FDx.T) hF sl49 rfl rfl (by omega) (by simp only [maxLen]; omega) rfl hM ?_; clear hF a; intro w' a g1 hg1 hM hF
  clear hSS
  have hSS := hM.S hc hkb rfl
  refine WL_nil ⟨hSS, ?_⟩
  refine b_v (i := 8) rfl (by kernel_rfl) hF (fun w2 hx => v_nil rfl) rfl hSS ?_; clear hF a; intro a hF
  refine b_v (i := 9) rfl (by kernel_rfl) hF (fun w2 hx => v_fieldAddr fa288_2 rfl) rfl hSS ?_; clear hF a; intro a hF
  refine b_v (i := 10) rfl (by kernel_rfl) hF (fun w2 hx => v_fieldAddr fa286_1 rfl) rfl hSS ?_; clear hF a; intro a hF
  refine b_e (i := 11) (by kernel_rfl) rfl ?_
  refine s_st hF on49 rfl rfl rfl hM.blk (by simp) (fun w' hu => ?_)
  replace hM := hM.store hu
  clear hu hSS
  have hSS := hM.S hc hkb rfl
  refine WL_nil ⟨hSS, ?_⟩
  refine b_v (i := 12) rfl (by kernel_rfl) hF (fun w2 hx => v_nil rfl) rfl hSS ?_; clear hF a; intro a hF
  refine b_v (i := 13) rfl (by kernel_rfl) hF (fun w2 hx => v_fieldAddr fa288_2 rfl) rfl hSS ?_; clear hF a; intro a hF
  refine b_v (i := 14) rfl (by kernel_rfl) hF (fun w2 hx => v_fieldAddr fa286_2 rfl) rfl hSS ?_; clear hF a; intro a hF
  refine b_e (i := 15) (by kernel_rfl) rfl ?_
  refine s_st hF on49 rfl rfl rfl hM.blk (by simp) (fun w' hu => ?_)
  replace hM := hM.store hu
  clear hu hSS
  have hSS := hM.S hc hkb rfl
  refine WL_nil ⟨hSS, ?_⟩
  refine b_done (by kernel_rfl) (hK _ _ ?_)
  clear hK K
  replace hF := hF.sub _ (c_ 0 rfl n_)
  first
   | exact ⟨g1, g2, hF.sub _ (c_ 0 rfl n_), hM.tst (Nat.ne_of_lt (hg2 g1 (by simp)))⟩
   | exact ⟨g1, g2, hF.sub _ (c_ 0 rfl n_), hM.swap.tst (Nat.ne_of_gt (hg1 g2 (by simp)))⟩
 skip
 clear hF
 rintro a w1 ⟨g1, g2, hF, hT⟩
 refine W_sr rfl fun K hK => ?_
 refine svw hK hF (v_assign rfl) rfl ?_; clear hF a hK K; intro a hF
 refine W_sr rfl fun K hK => ?_
 refine sv hF (v_load sc138 rfl (hT.pb hc hkb)) rfl ?_; clear hF a; intro a hF
 refine sc hF rfl rfl rfl en216 rfl (Size_some k wb _ (hT.c 0 rfl) hwb) ?_; clear hF a; intro v w' a hv hF
 obtain ⟨rfl, rfl⟩ := hv
 skip
 refine sv2w hK hF (v_subN (m := 2 ^ wb) (n := 1) rfl rfl (by omega) (by omega)) (v_move rfl) rfl rfl ?_; clear hF a hK K; intro a hF
 replace hF := hF.sub _ (c_ 20 rfl (c_ 19 rfl (c_ 1 rfl (c_ 0 rfl n_))))
 refine W_block ?_
 refine W_loop (fun m a w2 => ∃ i : Nat, Fr 48 [(0, .pointer (some ⟨pb, 0, none⟩)), (1, .int .i64 (Px.pw p i : Int)), (19, .int .i64 ((2 ^ wb - 1 : Nat) : Int)), (20, .int .i64 (i : Int))] a ∧ Tst FDx w w2 k #[.int .i64 (wb : Int), .int .u32 (p : Int), z2, z3, z4, .slice (some ⟨g1, 0, none⟩) (2 ^ wb) (2 ^ wb), .slice (some ⟨g2, 0, none⟩) (2 ^ wb) (2 ^ wb)] g1 g2 (Px.expL wb p i) (Px.logL wb p i) ∧ i ≤ 2 ^ wb - 1 ∧ m + i = 2 ^ wb - 1) (2 ^ wb - 1) ?_ ?_
 · skip
   exact ⟨0, hF.sub _ (c_ 0 rfl (c_ 1 rfl (c_ 19 rfl (c_ 20 rfl n_)))), by rw [expL_zero]; exact hT, by omega, by omega⟩
 skip
 clear hF
 clear hT
 rintro m a w2 ⟨i, hF, hT, hi, hm⟩
 refine W_sr rfl fun K hK => ?_
 refine svw hK hF (v_lss rfl rfl) rfl ?_; clear hF a hK K; intro a hF
 refine W_seq ?_
 refine W_if hF rfl (fun hc1 => ?_) (fun hc1 => ?_)
 ·
  skip
  try simp only [dcl] at hc1
  refine W_skip ?_
  refine W_seq ?_
  refine W_block ?_
  refine W_sr rfl fun K hK => ?_
  refine sv2w hK hF (v_move rfl) (v_assign rfl) rfl rfl ?_; clear hF a hK K; intro a hF
  replace hF := hF.sub _ (c_ 2 rfl (c_ 0 rfl (c_ 1 rfl (c_ 19 rfl (c_ 20 rfl n_)))))
  refine W_cut (fun a w3 => Fr 48 [(0, .pointer (some ⟨pb, 0, none⟩)), (1, .int .i64 (Px.pw p i : Int)), (19, .int .i64 ((2 ^ wb - 1 : Nat) : Int)), (20, .int .i64 (i : Int))] a ∧ Tst FDx w w3 k #[.int .i64 (wb : Int), .int .u32 (p : Int), z2, z3, z4, .slice (some ⟨g1, 0, none⟩) (2 ^ wb) (2 ^ wb), .slice (some ⟨g2, 0, none⟩) (2 ^ wb) (2 ^ wb)] g1 g2 (Px.expL wb p (i + 1)) (Px.logL wb p (i + 1))) ?_ ?_
  ·
   skip
   have hpl := hp.pw_lt i
   have hlt : i < 2 ^ wb := by omega
   refine W_dS (fun w2 => w2.cell? ⟨pb, 0, none⟩ = some (.pointer (some ⟨k, 0, none⟩)) ∧ w2.cell? ⟨k, 5, none⟩ = some (.slice (some ⟨g1, 0, none⟩) (2 ^ wb) (2 ^ wb)) ∧ w2.cell? ⟨k, 6, none⟩ = some (.slice (some ⟨g2, 0, none⟩) (2 ^ wb) (2 ^ wb))) (m := 18) rfl hmix (fun K hK => ?_)
   replace hT := hT.drew
   have hSS := And.intro (hT.pb hc hkb) (And.intro (hT.c 5 rfl) (hT.c 6 rfl))
   refine b_v (i := 0) rfl (by kernel_rfl) hF (fun w2 hx => v_load sc138 rfl (hx.1)) rfl hSS ?_; clear hF a; intro a hF
   refine b_v (i := 1) rfl (by kernel_rfl) hF (fun w2 hx => v_nil rfl) rfl hSS ?_; clear hF a; intro a hF
   refine b_v (i := 2) rfl (by kernel_rfl) hF (fun w2 hx => v_fieldAddr fa288_2 rfl) rfl hSS ?_; clear hF a; intro a hF
   refine b_v (i := 3) rfl (by kernel_rfl) hF (fun w2 hx => v_fieldAddr fa286_1 rfl) rfl hSS ?_; clear hF a; intro a hF
   refine b_v (i := 4) rfl (by kernel_rfl) hF (fun w2 hx => v_load sc49 rfl hx.2.1) rfl hSS ?_; clear hF a; intro a hF
   refine b_v (i := 5) rfl (by kernel_rfl) hF (fun w2 hx => v_move rfl) rfl hSS ?_; clear hF a; intro a hF
   refine b_v (i := 6) rfl (by kernel_rfl) hF (fun w2 hx => v_load sc138 rfl (hx.1)) rfl hSS ?_; clear hF a; intro a hF
   refine b_v (i := 7) rfl (by kernel_rfl) hF (fun w2 hx => v_nil rfl) rfl hSS ?_; clear hF a; intro a hF
   refine b_v (i := 8) rfl (by kernel_rfl) hF (fun w2 hx => v_fieldAddr fa288_2 rfl) rfl hSS ?_; clear hF a; intro a hF
   refine b_v (i := 9) rfl (by kernel_rfl) hF (fun w2 hx => v_fieldAddr fa286_2 rfl) rfl hSS ?_; clear hF a; intro a hF
   refine b_v (i := 10) rfl (by kernel_rfl) hF (fun w2 hx => v_load sc49 rfl hx.2.2) rfl hSS ?_; clear hF a; intro a hF
   refine b_v (i := 11) rfl (by kernel_rfl) hF (fun w2 hx => v_move rfl) rfl hSS ?_; clear hF a; intro a hF
   refine b_v (i := 12) rfl (by kernel_rfl) hF (fun w2 hx => v_move rfl) rfl hSS ?_; clear hF a; intro a hF
   refine b_v (i := 13) rfl (by kernel_rfl) hF (fun w2 hx => v_move rfl) rfl hSS ?_; clear hF a; intro a hF
   refine b_v (i := 14) rfl (by kernel_rfl) hF (fun w2 hx => v_ixS sl49 rfl rfl (by omega) (by omega)) rfl hSS ?_; clear hF a; intro a hF
   refine b_e (i := 15) (by kernel_rfl) rfl ?_
   refine s_st hF on3 rfl rfl rfl hT.b1 (by rw [toNat_c]; simp [expL_len (show i ≤ 2 ^ wb by omega)]; omega) (fun w' hu => ?_)
   rw [toNat_c, Nat.zero_add] at hu
   replace hT := hT.exp hu
   clear hu hSS
   have hSS := And.intro (hT.pb hc hkb) (And.intro (hT.c 5 rfl) (hT.c 6 rfl))
   refine WL_nil ⟨hSS, ?_⟩
   refine b_v (i := 16) rfl (by kernel_rfl) hF (fun w2 hx => v_ixS sl49 rfl rfl (by omega) (by omega)) rfl hSS ?_; clear hF a; intro a hF
   refine b_e (i := 17) (by kernel_rfl) rfl ?_
   refine s_st hF on3 rfl rfl rfl hT.b2 (by rw [toNat_c]; simp [logL_len]; omega) (fun w' hu => ?_)
   rw [toNat_c, Nat.zero_add] at hu
   replace hT := hT.log hu
   clear hu hSS
   have hSS := And.intro (hT.pb hc hkb) (And.intro (hT.c 5 rfl) (hT.c 6 rfl))
   refine WL_nil ⟨hSS, ?_⟩
   refine b_done (by kernel_rfl) (hK _ _ ?_)
   clear hK K
   replace hF := hF.sub _ (c_ 0 rfl (c_ 1 rfl (c_ 19 rfl (c_ 20 rfl n_))))
   rw [expL_step hlt] at hT
   exact ⟨hF.sub _ (c_ 0 rfl (c_ 1 rfl (c_ 19 rfl (c_ 20 rfl n_)))), hT⟩
  skip
  clear hF
  clear hT
  rintro a w3 ⟨hF, hT⟩
  have hpl := hp.pw_lt i
  refine W_reg rfl fun K hK => ?_
  refine sv6 hF (v_move rfl) (v_cv Tryz.underlying3 Tryz.underlying93 rfl (wrap_u32 _ (by omega))) (v_load sc138 rfl (hT.pb hc hkb)) (v_nil rfl) (v_fieldAddr fa288_1 rfl) (v_load sc93 rfl (hT.c 1 rfl)) rfl rfl rfl rfl rfl rfl ?_; clear hF a; intro a hF
  refine sc hF rfl rfl rfl en218 rfl (MulMod_ok (w.heap.size + 2) (Px.pw p i) 2 p _ hT.inv (by omega) (by decide) (by have := hp.lt; omega)) ?_; clear hF a; intro v w' a hv hF
  obtain ⟨rfl, hS'⟩ := hv
  replace hT := hT.step hS'
  clear hS'
  skip
  have hml := hp.pw_lt (i + 1)
  unfold Px.pw at hml
  refine sv2w hK hF (v_cv Tryz.underlying93 Tryz.underlying3 rfl (wrap_i64 _ (by omega))) (v_assign rfl) rfl rfl ?_; clear hF a hK K; intro a hF
  replace hF := hF.sub _ (c_ 1 rfl (c_ 0 rfl (c_ 19 rfl (c_ 20 rfl n_))))
  refine W_reg rfl fun K hK => ?_
  refine sv2w hK hF (v_addI rfl rfl (by omega)) (v_move rfl) rfl rfl ?_; clear hF a hK K; intro a hF
  exact ⟨m - 1, by omega, i + 1, hF.sub _ (c_ 0 rfl (c_ 1 rfl (c_ 19 rfl (c_ 20 rfl n_)))), hT, by omega, by omega⟩
 skip
 try simp only [dcl] at hc1
 refine W_exit rfl ?_
 refine ⟨_, hF, ?_⟩
 obtain rfl : i = 2 ^ wb - 1 := by omega
 exact ⟨rfl, g1, g2, hT⟩
end Go.Proofs.YtoabojbpeafdkaaGreatDoor
