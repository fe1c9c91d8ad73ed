/- The walks of package poly: each function returns what the plain function on numbers tells. -/
import Derived.Test.YtcnlooajjnghaaaGreatGDraw
import Derived.Test.YtcnlooajjnghaaaGreatGPolyM
import Derived.Test.YtcnlooajjnghaaaGreatProg
set_option linter.unusedVariables false
set_option linter.unusedSimpArgs false
namespace Go.Proofs.YtcnlooajjnghaaaGreat
open Go Go.Gam


namespace FxFPoly
theorem en51 : Ent Tryz.prog 51 := ent Tryz.func51 (by kernel_rfl) (by kernel_rfl)
theorem en74 : Ent Tryz.prog 74 := ent Tryz.func74 (by kernel_rfl) (by kernel_rfl)
theorem en75 : Ent Tryz.prog 75 := ent Tryz.func75 (by kernel_rfl) (by kernel_rfl)
theorem en76 : Ent Tryz.prog 76 := ent Tryz.func76 (by kernel_rfl) (by kernel_rfl)
theorem en77 : Ent Tryz.prog 77 := ent Tryz.func77 (by kernel_rfl) (by kernel_rfl)
theorem en78 : Ent Tryz.prog 78 := ent Tryz.func78 (by kernel_rfl) (by kernel_rfl)
theorem en80 : Ent Tryz.prog 80 := ent Tryz.func80 (by kernel_rfl) (by kernel_rfl)
theorem en86 : Ent Tryz.prog 86 := ent Tryz.func86 (by kernel_rfl) (by kernel_rfl)
theorem en87 : Ent Tryz.prog 87 := ent Tryz.func87 (by kernel_rfl) (by kernel_rfl)
theorem en88 : Ent Tryz.prog 88 := ent Tryz.func88 (by kernel_rfl) (by kernel_rfl)
theorem en94 : Ent Tryz.prog 94 := ent Tryz.func94 (by kernel_rfl) (by kernel_rfl)
theorem en95 : Ent Tryz.prog 95 := ent Tryz.func95 (by kernel_rfl) (by kernel_rfl)
theorem sc27 : Scalar Tryz.prog 27 := ⟨_, Tryz.underlying27, by simp, by simp⟩
theorem sc3 : Scalar Tryz.prog 3 := ⟨_, Tryz.underlying3, by simp, by simp⟩
theorem sl23 : Sl Tryz.prog 23 3 (.int .i64 0) 8 := sl_of Tryz.underlying23 rfl (by kernel_rfl)
end FxFPoly
open FxFPoly

/-- The field's type and the type of whole numbers in this program. -/
def FDx : FD := ⟨91, 3, by decide⟩

def len8 : List UInt8 := [0, 1, 2, 2, 3, 3, 3, 3, 4, 4, 4, 4, 4, 4, 4, 4, 5, 5, 5, 5, 5, 5, 5, 5, 5, 5, 5, 5, 5, 5, 5, 5, 6, 6, 6, 6, 6, 6, 6, 6, 6, 6, 6, 6, 6, 6, 6, 6, 6, 6, 6, 6, 6, 6, 6, 6, 6, 6, 6, 6, 6, 6, 6, 6, 7, 7, 7, 7, 7, 7, 7, 7, 7, 7, 7, 7, 7, 7, 7, 7, 7, 7, 7, 7, 7, 7, 7, 7, 7, 7, 7, 7, 7, 7, 7, 7, 7, 7, 7, 7, 7, 7, 7, 7, 7, 7, 7, 7, 7, 7, 7, 7, 7, 7, 7, 7, 7, 7, 7, 7, 7, 7, 7, 7, 7, 7, 7, 7, 8, 8, 8, 8, 8, 8, 8, 8, 8, 8, 8, 8, 8, 8, 8, 8, 8, 8, 8, 8, 8, 8, 8, 8, 8, 8, 8, 8, 8, 8, 8, 8, 8, 8, 8, 8, 8, 8, 8, 8, 8, 8, 8, 8, 8, 8, 8, 8, 8, 8, 8, 8, 8, 8, 8, 8, 8, 8, 8, 8, 8, 8, 8, 8, 8, 8, 8, 8, 8, 8, 8, 8, 8, 8, 8, 8, 8, 8, 8, 8, 8, 8, 8, 8, 8, 8, 8, 8, 8, 8, 8, 8, 8, 8, 8, 8, 8, 8, 8, 8, 8, 8, 8, 8, 8, 8, 8, 8, 8, 8, 8, 8, 8, 8, 8, 8, 8, 8, 8, 8, 8, 8, 8, 8, 8, 8, 8, 8]
theorem len8_eq : len8 = (List.range 256).map fun n => UInt8.ofNat (blen n) := by decide +kernel
theorem len8_at {x : Nat} (h : x < 256) : len8[x]? = some (UInt8.ofNat (blen x)) := by rw [len8_eq]; exact blen_table x h

set_option maxRecDepth 100000 in
set_option maxHeartbeats 1000000 in
theorem Len64_ok (B X : Nat) (w : World) (hI : Inv FDx B w) (hX : X < 18446744073709551616) : Ret Tryz.prog 74 [.int .u64 (X : Int)] w fun v w' => v = .int .i64 (blen X : Int) ∧ w' = w := by
  refine enter 25 [(0, .int .u64 (X : Int))] 2 Tryz.func74 rfl rfl rfl rfl rfl ?_; intro a hF
  have hS := St.refl hI
  refine W_sr rfl (fun K hK => ?_)
  refine sv hF (v_assign rfl) rfl ?_; clear hF a; intro a hF
  refine WL_nil (hK _ _ ?_)
  clear hK K
  refine W_cut (fun a w' => ∃ x n : Nat, Fr 25 [(0, .int .u64 (x : Int)), (2, .int .i64 (n : Int))] a ∧ w = w' ∧ x < 2 ^ 32 ∧ n ≤ 32 ∧ blen x + n = blen X) ?_ ?_
  · skip
    refine W_sr rfl (fun K hK => ?_)
    refine sv hF (v_move rfl) rfl ?_; clear hF a; intro a hF
    refine sv hF (v_geq rfl rfl) rfl ?_; clear hF a; intro a hF
    refine WL_nil (hK _ _ ?_)
    clear hK K
    replace hF := hF.sub _ (c_ 4 rfl (c_ 2 rfl (c_ 0 rfl (n_))))
    refine W_if hF rfl (fun hc1 => ?_) (fun hc1 => ?_)
    · skip
      try simp only [decide_eq_true_eq, decide_eq_false_iff_not, Bool.not_eq_true', Bool.not_eq_false', Bool.not_true, Bool.not_false] at hc1
      refine W_sr rfl (fun K hK => ?_)
      refine sv hF (v_move rfl) rfl ?_; clear hF a; intro a hF
      refine sv hF ((v_shrN (m := X) rfl rfl (by decide))) rfl ?_; clear hF a; intro a hF
      refine sv hF (v_assign rfl) rfl ?_; clear hF a; intro a hF
      refine WL_nil (hK _ _ ?_)
      clear hK K
      replace hF := hF.sub _ (c_ 0 rfl (c_ 2 rfl (n_)))
      refine W_reg rfl (fun K hK => ?_)
      refine sv hF (v_assign rfl) rfl ?_; clear hF a; intro a hF
      refine WL_nil (hK _ _ ?_)
      clear hK K
      exact ⟨X / 2 ^ 32, 32, hF.sub _ (c_ 0 rfl (c_ 2 rfl n_)), rfl, (Nat.div_lt_iff_lt_mul (by decide)).2 (by omega), by omega, blen_shift (by omega)⟩
    · skip
      try simp only [decide_eq_true_eq, decide_eq_false_iff_not, Bool.not_eq_true', Bool.not_eq_false', Bool.not_true, Bool.not_false] at hc1
      refine W_skip ?_
      exact ⟨X, 0, hF.sub _ (c_ 0 rfl (c_ 2 rfl n_)), rfl, by omega, by omega, rfl⟩
  · skip
    clear hF
    rintro a _ ⟨x, n, hF, rfl, hx, hn, he⟩
    refine W_cut (fun a w' => ∃ x n : Nat, Fr 25 [(0, .int .u64 (x : Int)), (2, .int .i64 (n : Int))] a ∧ w = w' ∧ x < 2 ^ 16 ∧ n ≤ 48 ∧ blen x + n = blen X) ?_ ?_
    · skip
      refine W_sr rfl (fun K hK => ?_)
      refine sv hF (v_move rfl) rfl ?_; clear hF a; intro a hF
      refine sv hF (v_geq rfl rfl) rfl ?_; clear hF a; intro a hF
      refine WL_nil (hK _ _ ?_)
      clear hK K
      replace hF := hF.sub _ (c_ 8 rfl (c_ 0 rfl (c_ 2 rfl (n_))))
      refine W_if hF rfl (fun hc2 => ?_) (fun hc2 => ?_)
      · skip
        try simp only [decide_eq_true_eq, decide_eq_false_iff_not, Bool.not_eq_true', Bool.not_eq_false', Bool.not_true, Bool.not_false] at hc2
        refine W_sr rfl (fun K hK => ?_)
        refine sv hF (v_move rfl) rfl ?_; clear hF a; intro a hF
        refine sv hF ((v_shrN (m := x) rfl rfl (by decide))) rfl ?_; clear hF a; intro a hF
        refine sv hF (v_assign rfl) rfl ?_; clear hF a; intro a hF
        refine WL_nil (hK _ _ ?_)
        clear hK K
        replace hF := hF.sub _ (c_ 0 rfl (c_ 2 rfl (n_)))
        refine W_reg rfl (fun K hK => ?_)
        refine sv hF (v_move rfl) rfl ?_; clear hF a; intro a hF
        refine sv hF (v_addI rfl rfl (by omega)) rfl ?_; clear hF a; intro a hF
        refine sv hF (v_assign rfl) rfl ?_; clear hF a; intro a hF
        refine WL_nil (hK _ _ ?_)
        clear hK K
        replace hF := hF.sub _ (c_ 2 rfl (c_ 0 rfl (n_)))
        exact ⟨x / 2 ^ 16, n + 16, hF.sub _ (c_ 0 rfl (c_ 2 rfl n_)), rfl, (Nat.div_lt_iff_lt_mul (by decide)).2 (by omega), by omega, by have := blen_shift (x := x) (k := 16) (by omega); omega⟩
      · skip
        try simp only [decide_eq_true_eq, decide_eq_false_iff_not, Bool.not_eq_true', Bool.not_eq_false', Bool.not_true, Bool.not_false] at hc2
        refine W_skip ?_
        exact ⟨x, n, hF.sub _ (c_ 0 rfl (c_ 2 rfl n_)), rfl, by omega, by omega, he⟩
    · skip
      clear hF
      rintro a _ ⟨x, n, hF, rfl, hx, hn, he⟩
      refine W_cut (fun a w' => ∃ x n : Nat, Fr 25 [(0, .int .u64 (x : Int)), (2, .int .i64 (n : Int))] a ∧ w = w' ∧ x < 2 ^ 8 ∧ n ≤ 56 ∧ blen x + n = blen X) ?_ ?_
      · skip
        refine W_sr rfl (fun K hK => ?_)
        refine sv hF (v_move rfl) rfl ?_; clear hF a; intro a hF
        refine sv hF (v_geq rfl rfl) rfl ?_; clear hF a; intro a hF
        refine WL_nil (hK _ _ ?_)
        clear hK K
        replace hF := hF.sub _ (c_ 14 rfl (c_ 0 rfl (c_ 2 rfl (n_))))
        refine W_if hF rfl (fun hc3 => ?_) (fun hc3 => ?_)
        · skip
          try simp only [decide_eq_true_eq, decide_eq_false_iff_not, Bool.not_eq_true', Bool.not_eq_false', Bool.not_true, Bool.not_false] at hc3
          refine W_sr rfl (fun K hK => ?_)
          refine sv hF (v_move rfl) rfl ?_; clear hF a; intro a hF
          refine sv hF ((v_shrN (m := x) rfl rfl (by decide))) rfl ?_; clear hF a; intro a hF
          refine sv hF (v_assign rfl) rfl ?_; clear hF a; intro a hF
          refine WL_nil (hK _ _ ?_)
          clear hK K
          replace hF := hF.sub _ (c_ 0 rfl (c_ 2 rfl (n_)))
          refine W_reg rfl (fun K hK => ?_)
          refine sv hF (v_move rfl) rfl ?_; clear hF a; intro a hF
          refine sv hF (v_addI rfl rfl (by omega)) rfl ?_; clear hF a; intro a hF
          refine sv hF (v_assign rfl) rfl ?_; clear hF a; intro a hF
          refine WL_nil (hK _ _ ?_)
          clear hK K
          replace hF := hF.sub _ (c_ 2 rfl (c_ 0 rfl (n_)))
          exact ⟨x / 2 ^ 8, n + 8, hF.sub _ (c_ 0 rfl (c_ 2 rfl n_)), rfl, (Nat.div_lt_iff_lt_mul (by decide)).2 (by omega), by omega, by have := blen_shift (x := x) (k := 8) (by omega); omega⟩
        · skip
          try simp only [decide_eq_true_eq, decide_eq_false_iff_not, Bool.not_eq_true', Bool.not_eq_false', Bool.not_true, Bool.not_false] at hc3
          refine W_skip ?_
          exact ⟨x, n, hF.sub _ (c_ 0 rfl (c_ 2 rfl n_)), rfl, by omega, by omega, he⟩
      · skip
        clear hF
        rintro a _ ⟨x, n, hF, rfl, hx, hn, he⟩
        have hbl := blen_le (n := x) (k := 8) (by omega)
        refine W_sr rfl (fun K hK => ?_)
        refine sv hF (v_move rfl) rfl ?_; clear hF a; intro a hF
        refine sv hF (v_move rfl) rfl ?_; clear hF a; intro a hF
        refine sv hF (v_cv Tryz.underlying75 Tryz.underlying5 rfl (wrap_u8 _ (by omega))) rfl ?_; clear hF a; intro a hF
        refine sv hF (v_ixStr (b := UInt8.ofNat (blen x)) Tryz.underlying9 rfl rfl (by omega) (by rw [toNat_c]; exact len8_at (by omega))) rfl ?_; clear hF a; intro a hF
        refine sv hF ((v_cv Tryz.underlying5 Tryz.underlying3 rfl ((congrArg _ (blen_byte (by omega))).trans (wrap_i64 _ (by omega))))) rfl ?_; clear hF a; intro a hF
        refine sv hF (v_addI rfl rfl (by omega)) rfl ?_; clear hF a; intro a hF
        refine sv hF (v_assign rfl) rfl ?_; clear hF a; intro a hF
        refine WL_nil (hK _ _ ?_)
        clear hK K
        replace hF := hF.sub _ (c_ 2 rfl (n_))
        refine W_ret ?_
        refine ⟨_, _, hF, rfl, ?_⟩
        exact ⟨by rw [← he]; congr 1; omega, rfl⟩

set_option maxRecDepth 100000 in
set_option maxHeartbeats 1000000 in
theorem Len32_ok (B X : Nat) (w : World) (hI : Inv FDx B w) (hX : X < 4294967296) : Ret Tryz.prog 95 [.int .u32 (X : Int)] w fun v w' => v = .int .i64 (blen X : Int) ∧ w' = w := by
  refine enter 19 [(0, .int .u32 (X : Int))] 2 Tryz.func95 rfl rfl rfl rfl rfl ?_; intro a hF
  have hS := St.refl hI
  refine W_sr rfl (fun K hK => ?_)
  refine sv hF (v_assign rfl) rfl ?_; clear hF a; intro a hF
  refine WL_nil (hK _ _ ?_)
  clear hK K
  refine W_cut (fun a w' => ∃ x n : Nat, Fr 19 [(0, .int .u32 (x : Int)), (2, .int .i64 (n : Int))] a ∧ w = w' ∧ x < 2 ^ 16 ∧ n ≤ 48 ∧ blen x + n = blen X) ?_ ?_
  · skip
    refine W_sr rfl (fun K hK => ?_)
    refine sv hF (v_move rfl) rfl ?_; clear hF a; intro a hF
    refine sv hF (v_geq rfl rfl) rfl ?_; clear hF a; intro a hF
    refine WL_nil (hK _ _ ?_)
    clear hK K
    replace hF := hF.sub _ (c_ 4 rfl (c_ 2 rfl (c_ 0 rfl (n_))))
    refine W_if hF rfl (fun hc1 => ?_) (fun hc1 => ?_)
    · skip
      try simp only [decide_eq_true_eq, decide_eq_false_iff_not, Bool.not_eq_true', Bool.not_eq_false', Bool.not_true, Bool.not_false] at hc1
      refine W_sr rfl (fun K hK => ?_)
      refine sv hF (v_move rfl) rfl ?_; clear hF a; intro a hF
      refine sv hF ((v_shrN (m := X) rfl rfl (by decide))) rfl ?_; clear hF a; intro a hF
      refine sv hF (v_assign rfl) rfl ?_; clear hF a; intro a hF
      refine WL_nil (hK _ _ ?_)
      clear hK K
      replace hF := hF.sub _ (c_ 0 rfl (c_ 2 rfl (n_)))
      refine W_reg rfl (fun K hK => ?_)
      refine sv hF (v_assign rfl) rfl ?_; clear hF a; intro a hF
      refine WL_nil (hK _ _ ?_)
      clear hK K
      exact ⟨X / 2 ^ 16, 16, hF.sub _ (c_ 0 rfl (c_ 2 rfl n_)), rfl, (Nat.div_lt_iff_lt_mul (by decide)).2 (by omega), by omega, blen_shift (by omega)⟩
    · skip
      try simp only [decide_eq_true_eq, decide_eq_false_iff_not, Bool.not_eq_true', Bool.not_eq_false', Bool.not_true, Bool.not_false] at hc1
      refine W_skip ?_
      exact ⟨X, 0, hF.sub _ (c_ 0 rfl (c_ 2 rfl n_)), rfl, by omega, by omega, rfl⟩
  · skip
    clear hF
    rintro a _ ⟨x, n, hF, rfl, hx, hn, he⟩
    refine W_cut (fun a w' => ∃ x n : Nat, Fr 19 [(0, .int .u32 (x : Int)), (2, .int .i64 (n : Int))] a ∧ w = w' ∧ x < 2 ^ 8 ∧ n ≤ 56 ∧ blen x + n = blen X) ?_ ?_
    · skip
      refine W_sr rfl (fun K hK => ?_)
      refine sv hF (v_move rfl) rfl ?_; clear hF a; intro a hF
      refine sv hF (v_geq rfl rfl) rfl ?_; clear hF a; intro a hF
      refine WL_nil (hK _ _ ?_)
      clear hK K
      replace hF := hF.sub _ (c_ 8 rfl (c_ 0 rfl (c_ 2 rfl (n_))))
      refine W_if hF rfl (fun hc2 => ?_) (fun hc2 => ?_)
      · skip
        try simp only [decide_eq_true_eq, decide_eq_false_iff_not, Bool.not_eq_true', Bool.not_eq_false', Bool.not_true, Bool.not_false] at hc2
        refine W_sr rfl (fun K hK => ?_)
        refine sv hF (v_move rfl) rfl ?_; clear hF a; intro a hF
        refine sv hF ((v_shrN (m := x) rfl rfl (by decide))) rfl ?_; clear hF a; intro a hF
        refine sv hF (v_assign rfl) rfl ?_; clear hF a; intro a hF
        refine WL_nil (hK _ _ ?_)
        clear hK K
        replace hF := hF.sub _ (c_ 0 rfl (c_ 2 rfl (n_)))
        refine W_reg rfl (fun K hK => ?_)
        refine sv hF (v_move rfl) rfl ?_; clear hF a; intro a hF
        refine sv hF (v_addI rfl rfl (by omega)) rfl ?_; clear hF a; intro a hF
        refine sv hF (v_assign rfl) rfl ?_; clear hF a; intro a hF
        refine WL_nil (hK _ _ ?_)
        clear hK K
        replace hF := hF.sub _ (c_ 2 rfl (c_ 0 rfl (n_)))
        exact ⟨x / 2 ^ 8, n + 8, hF.sub _ (c_ 0 rfl (c_ 2 rfl n_)), rfl, (Nat.div_lt_iff_lt_mul (by decide)).2 (by omega), by omega, by have := blen_shift (x := x) (k := 8) (by omega); omega⟩
      · skip
        try simp only [decide_eq_true_eq, decide_eq_false_iff_not, Bool.not_eq_true', Bool.not_eq_false', Bool.not_true, Bool.not_false] at hc2
        refine W_skip ?_
        exact ⟨x, n, hF.sub _ (c_ 0 rfl (c_ 2 rfl n_)), rfl, by omega, by omega, he⟩
    · skip
      clear hF
      rintro a _ ⟨x, n, hF, rfl, hx, hn, he⟩
      have hbl := blen_le (n := x) (k := 8) (by omega)
      refine W_sr rfl (fun K hK => ?_)
      refine sv hF (v_move rfl) rfl ?_; clear hF a; intro a hF
      refine sv hF (v_move rfl) rfl ?_; clear hF a; intro a hF
      refine sv hF (v_cv Tryz.underlying27 Tryz.underlying5 rfl (wrap_u8 _ (by omega))) rfl ?_; clear hF a; intro a hF
      refine sv hF (v_ixStr (b := UInt8.ofNat (blen x)) Tryz.underlying9 rfl rfl (by omega) (by rw [toNat_c]; exact len8_at (by omega))) rfl ?_; clear hF a; intro a hF
      refine sv hF ((v_cv Tryz.underlying5 Tryz.underlying3 rfl ((congrArg _ (blen_byte (by omega))).trans (wrap_i64 _ (by omega))))) rfl ?_; clear hF a; intro a hF
      refine sv hF (v_addI rfl rfl (by omega)) rfl ?_; clear hF a; intro a hF
      refine sv hF (v_assign rfl) rfl ?_; clear hF a; intro a hF
      refine WL_nil (hK _ _ ?_)
      clear hK K
      replace hF := hF.sub _ (c_ 2 rfl (n_))
      refine W_ret ?_
      refine ⟨_, _, hF, rfl, ?_⟩
      exact ⟨by rw [← he]; congr 1; omega, rfl⟩

set_option maxRecDepth 100000 in
set_option maxHeartbeats 1000000 in
theorem Deg_ok (B p : Nat) (w : World) (hI : Inv FDx B w) (hp : p < 18446744073709551616) : Ret Tryz.prog 51 [.int .u64 (p : Int)] w fun v w' => v = .int .i64 (Px.deg p) ∧ St FDx B w w'  := by
  refine enter 6 [(0, .int .u64 (p : Int))] 2 Tryz.func51 rfl rfl rfl rfl rfl ?_; intro a hF
  have hS := St.refl hI
  have hb := blen_le (n := p) (k := 64) (by omega)
  refine W_sr rfl (fun K hK => ?_)
  refine sv hF (v_assign rfl) rfl ?_; clear hF a; intro a hF
  refine WL_nil (hK _ _ ?_)
  clear hK K
  refine W_sr rfl (fun K hK => ?_)
  refine sv hF (v_move rfl) rfl ?_; clear hF a; intro a hF
  refine sc hF rfl rfl rfl en74 rfl (Len64_ok B p _ hI hp) ?_; clear hF a; intro v w' a hv hF
  obtain ⟨rfl, rfl⟩ := hv
  have hS' := St.refl hS.inv
  replace hS := hS.trans hS'
  clear hS'
  refine sv hF (v_subI rfl rfl (by omega)) rfl ?_; clear hF a; intro a hF
  refine sv hF (v_assign rfl) rfl ?_; clear hF a; intro a hF
  refine WL_nil (hK _ _ ?_)
  clear hK K
  replace hF := hF.sub _ (c_ 2 rfl (n_))
  refine W_ret ?_
  refine ⟨_, _, hF, rfl, ?_⟩
  exact ⟨congrArg _ (deg_blen p), hS⟩

set_option maxRecDepth 100000 in
set_option maxHeartbeats 1000000 in
theorem Mul1_ok (B : Nat) (i b c : Nat) (w : World) (hI : Inv FDx B w) (hi : i ≤ 32) (hb : b < 4294967296) (hc : w.cell? ⟨c, 0, none⟩ = some (.int .u32 (b : Int))) :
    Ret Tryz.prog 94 [.int .i64 (i : Int), .pointer (some ⟨c, 0, none⟩)] w fun v w' => v = .bool (b.testBit i) ∧ w' = w := by
  refine enter 9 [(0, .int .i64 (i : Int)), (1, .pointer (some ⟨c, 0, none⟩))] 3 Tryz.func94 rfl rfl rfl rfl rfl ?_; intro a hF
  have hS := St.refl hI
  refine W_sr rfl (fun K hK => ?_)
  refine sv hF (v_assign rfl) rfl ?_; clear hF a; intro a hF
  refine WL_nil (hK _ _ ?_)
  clear hK K
  refine W_sr rfl (fun K hK => ?_)
  refine sv hF (v_load sc27 rfl (by first | assumption | (rw [toNat_c]; assumption) | exact KC.c (by assumption) | (rw [toNat_c]; exact KC.c (by assumption)) | exact Box.at (by assumption))) rfl ?_; clear hF a; intro a hF
  refine sv hF (v_move rfl) rfl ?_; clear hF a; intro a hF
  refine sv hF (v_shrN rfl rfl (by omega)) rfl ?_; clear hF a; intro a hF
  refine sv hF (v_andN (n := 1) rfl rfl (fits_u32 (div_lt hb)) (fits_u32 (by decide))) rfl ?_; clear hF a; intro a hF
  refine sv hF (v_eql rfl rfl) rfl ?_; clear hF a; intro a hF
  refine sv hF (v_assign rfl) rfl ?_; clear hF a; intro a hF
  refine WL_nil (hK _ _ ?_)
  clear hK K
  replace hF := hF.sub _ (c_ 3 rfl (n_))
  refine W_ret ?_
  refine ⟨_, _, hF, rfl, ?_⟩
  exact ⟨congrArg _ (bit_says .u32 hi), rfl⟩

set_option maxRecDepth 100000 in
set_option maxHeartbeats 1000000 in
theorem Mul_ok (B A b : Nat) (w : World) (hI : Inv FDx B w) (ha : A < 4294967296) (hb : b < 4294967296) : Ret Tryz.prog 88 [.int .u32 (A : Int), .int .u32 (b : Int)] w fun v w' => v = .int .u64 (Px.mul A b : Int) ∧ St FDx B w w'  := by
  refine enter 25 [(0, .int .u32 (A : Int)), (1, .int .u32 (b : Int))] 4 Tryz.func88 rfl rfl rfl rfl rfl ?_; intro a hF
  have hS := St.refl hI
  refine W_sr rfl (fun K hK => ?_)
  refine s_box (D := FDx) (B := B) hF rfl (by decide) hI rfl (fun w' a hm hbox hsz hF => ?_)
  replace hS := hS.mb0 hm
  have hc : w'.cell? ⟨w.heap.size, 0, none⟩ = some (.int .u32 (b : Int)) := hbox.at 0 rfl
  clear hbox hm
  generalize w.heap.size = c at *
  have hbl := blen_le (n := b) (k := 32) (by omega)
  refine sv hF (v_assign rfl) rfl ?_; clear hF a; intro a hF
  refine WL_nil (hK _ _ ?_)
  clear hK K
  replace hF := hF.sub _ (c_ 4 rfl (c_ 3 rfl (c_ 0 rfl (n_))))
  refine W_sr rfl (fun K hK => ?_)
  refine sv hF (v_assign rfl) rfl ?_; clear hF a; intro a hF
  refine WL_nil (hK _ _ ?_)
  clear hK K
  refine W_sr rfl (fun K hK => ?_)
  refine sv hF (v_mkf rfl) rfl ?_; clear hF a; intro a hF
  refine sv hF (v_assign rfl) rfl ?_; clear hF a; intro a hF
  refine WL_nil (hK _ _ ?_)
  clear hK K
  replace hF := hF.sub _ (c_ 6 rfl (c_ 5 rfl (c_ 4 rfl (c_ 3 rfl (c_ 0 rfl (n_))))))
  refine W_seq ?_
  refine W_sr rfl (fun K hK => ?_)
  refine sv hF (v_load sc27 rfl (by first | assumption | (rw [toNat_c]; assumption) | exact KC.c (by assumption) | (rw [toNat_c]; exact KC.c (by assumption)) | exact Box.at (by assumption))) rfl ?_; clear hF a; intro a hF
  refine sc hF rfl rfl rfl en95 rfl (Len32_ok B b _ hS.inv hb) ?_; clear hF a; intro v w' a hv hF
  obtain ⟨rfl, rfl⟩ := hv
  have hS' := St.refl hS.inv
  replace hS := hS.trans hS'
  clear hS'
  refine sv hF (v_move rfl) rfl ?_; clear hF a; intro a hF
  refine WL_nil (hK _ _ ?_)
  clear hK K
  replace hF := hF.sub _ (c_ 11 rfl (c_ 10 rfl (c_ 6 rfl (c_ 5 rfl (c_ 4 rfl (c_ 0 rfl (n_)))))))
  refine W_block ?_
  refine W_loop (fun m a w1 => ∃ i q : Nat, Fr 25 [(0, .int .u32 (A : Int)), (5, .int .u64 (q : Int)), (6, .func (.func 94) ([] : List Value).toArray [.pointer (some ⟨c, 0, none⟩)].toArray), (10, .int .i64 (blen b : Int)), (11, .int .i64 (i : Int))] a ∧ w1 = w' ∧ i ≤ blen b ∧ q = Px.mul A (b % 2 ^ i) ∧ m + i = blen b) (blen b) ?_ ?_
  · skip
    exact ⟨0, 0, hF.sub _ (c_ 0 rfl (c_ 5 rfl (c_ 6 rfl (c_ 10 rfl (c_ 11 rfl n_))))), rfl, by omega, (mul_none A b).symm, by omega⟩
  · skip
    clear hF
    rintro m a _ ⟨i, q, hF, rfl, hi, hq, hm⟩
    refine W_sr rfl (fun K hK => ?_)
    refine sv hF (v_lss rfl rfl) rfl ?_; clear hF a; intro a hF
    refine WL_nil (hK _ _ ?_)
    clear hK K
    refine W_seq ?_
    refine W_if hF rfl (fun hc1 => ?_) (fun hc1 => ?_)
    · skip
      try simp only [decide_eq_true_eq, decide_eq_false_iff_not, Bool.not_eq_true', Bool.not_eq_false', Bool.not_true, Bool.not_false] at hc1
      refine W_skip ?_
      refine W_seq ?_
      refine W_block ?_
      refine W_sr rfl (fun K hK => ?_)
      refine sv hF (v_move rfl) rfl ?_; clear hF a; intro a hF
      refine sv hF (v_assign rfl) rfl ?_; clear hF a; intro a hF
      refine WL_nil (hK _ _ ?_)
      clear hK K
      replace hF := hF.sub _ (c_ 7 rfl (c_ 0 rfl (c_ 5 rfl (c_ 6 rfl (c_ 10 rfl (c_ 11 rfl (n_)))))))
      refine W_sr rfl (fun K hK => ?_)
      refine sv hF (v_move rfl) rfl ?_; clear hF a; intro a hF
      refine sv hF (v_move rfl) rfl ?_; clear hF a; intro a hF
      refine sc hF rfl rfl rfl en94 rfl (Mul1_ok B i b c _ hS.inv (by omega) hb hc) ?_; clear hF a; intro v w' a hv hF
      obtain ⟨rfl, rfl⟩ := hv
      have hS' := St.refl hS.inv
      replace hS := hS.trans hS'
      clear hS'
      refine WL_nil (hK _ _ ?_)
      clear hK K
      replace hF := hF.sub _ (c_ 16 rfl (c_ 7 rfl (c_ 0 rfl (c_ 5 rfl (c_ 6 rfl (c_ 10 rfl (c_ 11 rfl (n_))))))))
      refine W_if hF rfl (fun hc2 => ?_) (fun hc2 => ?_)
      · skip
        try simp only [decide_eq_true_eq, decide_eq_false_iff_not, Bool.not_eq_true', Bool.not_eq_false', Bool.not_true, Bool.not_false] at hc2
        have hst := mul_bit A b i
        rw [hc2, if_pos rfl, ← hq] at hst
        have h1 : A * 2 ^ i < 18446744073709551616 := Nat.lt_of_lt_of_le (shl_lt (m := 32) ha) ((Nat.pow_le_pow_right (n := 2) (by decide) (show 32 + i ≤ 64 by omega)))
        have h2 : b % 2 ^ i < 4294967296 := Nat.lt_of_le_of_lt (Nat.mod_le _ _) hb
        have h3 := mul_lt64 ha h2
        rw [← hq] at h3
        refine W_reg rfl (fun K hK => ?_)
        refine sv hF (v_move rfl) rfl ?_; clear hF a; intro a hF
        refine sv hF (v_move rfl) rfl ?_; clear hF a; intro a hF
        refine sv hF (v_cv Tryz.underlying27 Tryz.underlying75 rfl (wrap_u64 _ (by omega))) rfl ?_; clear hF a; intro a hF
        refine sv hF (v_move rfl) rfl ?_; clear hF a; intro a hF
        refine sv hF ((v_shl rfl rfl (by omega)).as (congrArg _ (shl_says h1 (by omega)))) rfl ?_; clear hF a; intro a hF
        refine sv hF (v_xorN rfl rfl (fits_u64 h3) (fits_u64 (by rw [Nat.shiftLeft_eq]; exact h1))) rfl ?_; clear hF a; intro a hF
        refine sv hF (v_assign rfl) rfl ?_; clear hF a; intro a hF
        refine WL_nil (hK _ _ ?_)
        clear hK K
        replace hF := hF.sub _ (c_ 5 rfl (c_ 0 rfl (c_ 6 rfl (c_ 10 rfl (c_ 11 rfl (n_))))))
        refine W_reg rfl (fun K hK => ?_)
        refine sv hF (v_addI rfl rfl (by omega)) rfl ?_; clear hF a; intro a hF
        refine sv hF (v_move rfl) rfl ?_; clear hF a; intro a hF
        refine WL_nil (hK _ _ ?_)
        clear hK K
        exact ⟨m - 1, by omega, i + 1, _, hF.sub _ (c_ 0 rfl (c_ 5 rfl (c_ 6 rfl (c_ 10 rfl (c_ 11 rfl n_))))), rfl, by omega, hst.symm, by omega⟩
      · skip
        try simp only [decide_eq_true_eq, decide_eq_false_iff_not, Bool.not_eq_true', Bool.not_eq_false', Bool.not_true, Bool.not_false] at hc2
        have hst := mul_bit A b i
        rw [hc2, if_neg (by decide), ← hq, Nat.xor_zero] at hst
        refine W_skip ?_
        refine W_reg rfl (fun K hK => ?_)
        refine sv hF (v_addI rfl rfl (by omega)) rfl ?_; clear hF a; intro a hF
        refine sv hF (v_move rfl) rfl ?_; clear hF a; intro a hF
        refine WL_nil (hK _ _ ?_)
        clear hK K
        replace hF := hF.sub _ (c_ 11 rfl (c_ 23 rfl (c_ 0 rfl (c_ 5 rfl (c_ 6 rfl (c_ 10 rfl (n_)))))))
        exact ⟨m - 1, by omega, i + 1, _, hF.sub _ (c_ 0 rfl (c_ 5 rfl (c_ 6 rfl (c_ 10 rfl (c_ 11 rfl n_))))), rfl, by omega, hst.symm, by omega⟩
    · skip
      try simp only [decide_eq_true_eq, decide_eq_false_iff_not, Bool.not_eq_true', Bool.not_eq_false', Bool.not_true, Bool.not_false] at hc1
      refine W_exit rfl ?_
      refine W_sr rfl (fun K hK => ?_)
      refine sv hF (v_move rfl) rfl ?_; clear hF a; intro a hF
      refine sv hF (v_assign rfl) rfl ?_; clear hF a; intro a hF
      refine WL_nil (hK _ _ ?_)
      clear hK K
      replace hF := hF.sub _ (c_ 4 rfl (c_ 24 rfl (c_ 0 rfl (c_ 5 rfl (c_ 6 rfl (c_ 10 rfl (c_ 11 rfl (n_))))))))
      refine W_ret ?_
      refine ⟨_, _, hF, rfl, ?_⟩
      refine ⟨?_, hS⟩
      obtain rfl : i = blen b := by omega
      rw [hq, mul_all]

set_option maxRecDepth 100000 in
set_option maxHeartbeats 1000000 in
theorem Mod_ok (B A p : Nat) (w : World) (hI : Inv FDx B w) (hA : A < 18446744073709551616) (hp : p < 4294967296) : Ret Tryz.prog 76 [.int .u64 (A : Int), .int .u32 (p : Int)] w fun v w' => v = .int .u32 (Px.mod A p : Int) ∧ St FDx B w w'  := by
  refine enter 34 [(0, .int .u64 (A : Int)), (1, .int .u32 (p : Int))] 4 Tryz.func76 rfl rfl rfl rfl rfl ?_; intro a hF
  have hS := St.refl hI
  refine W_sr rfl (fun K hK => ?_)
  refine sv hF (v_assign rfl) rfl ?_; clear hF a; intro a hF
  refine WL_nil (hK _ _ ?_)
  clear hK K
  refine W_seq ?_
  refine W_sr rfl (fun K hK => ?_)
  refine sv hF (v_move rfl) rfl ?_; clear hF a; intro a hF
  refine sv hF (v_eql rfl rfl) rfl ?_; clear hF a; intro a hF
  refine WL_nil (hK _ _ ?_)
  clear hK K
  replace hF := hF.sub _ (c_ 8 rfl (c_ 4 rfl (c_ 0 rfl (c_ 1 rfl (n_)))))
  refine W_if hF rfl (fun hc1 => ?_) (fun hc1 => ?_)
  · skip
    try simp only [decide_eq_true_eq, decide_eq_false_iff_not, Bool.not_eq_true', Bool.not_eq_false', Bool.not_true, Bool.not_false] at hc1
    obtain rfl : p = 0 := by omega
    refine W_sr rfl (fun K hK => ?_)
    refine sv hF (v_assign rfl) rfl ?_; clear hF a; intro a hF
    refine WL_nil (hK _ _ ?_)
    clear hK K
    replace hF := hF.sub _ (c_ 4 rfl (c_ 0 rfl (c_ 1 rfl (n_))))
    refine W_ret ?_
    refine ⟨_, _, hF, rfl, ?_⟩
    exact ⟨by rw [Px.mod_zero]; rfl, hS⟩
  · skip
    try simp only [decide_eq_true_eq, decide_eq_false_iff_not, Bool.not_eq_true', Bool.not_eq_false', Bool.not_true, Bool.not_false] at hc1
    have hp0 : p ≠ 0 := by omega
    have hl := log2_lt hp0 (k := 32) hp
    refine W_skip ?_
    refine W_sr rfl (fun K hK => ?_)
    refine sv hF (v_move rfl) rfl ?_; clear hF a; intro a hF
    refine sv hF (v_cv Tryz.underlying27 Tryz.underlying75 rfl (wrap_u64 _ (by omega))) rfl ?_; clear hF a; intro a hF
    refine sc hF rfl rfl rfl en51 rfl (Deg_ok B p _ hS.inv (by omega)) ?_; clear hF a; intro v w' a hv hF
    obtain ⟨rfl, hS'⟩ := hv
    replace hS := hS.trans hS'
    clear hS'
    refine sv hF (v_assign rfl) rfl ?_; clear hF a; intro a hF
    refine WL_nil (hK _ _ ?_)
    clear hK K
    replace hF := hF.sub _ (c_ 5 rfl (c_ 4 rfl (c_ 0 rfl (c_ 1 rfl (n_)))))
    refine W_seq ?_
    refine W_sr rfl (fun K hK => ?_)
    refine sv hF (v_move rfl) rfl ?_; clear hF a; intro a hF
    refine sc hF rfl rfl rfl en51 rfl (Deg_ok B A _ hS.inv hA) ?_; clear hF a; intro v w' a hv hF
    obtain ⟨rfl, hS'⟩ := hv
    replace hS := hS.trans hS'
    clear hS'
    refine sv hF (v_assign rfl) rfl ?_; clear hF a; intro a hF
    refine WL_nil (hK _ _ ?_)
    clear hK K
    replace hF := hF.sub _ (c_ 6 rfl (c_ 5 rfl (c_ 4 rfl (c_ 0 rfl (c_ 1 rfl (n_))))))
    refine W_block ?_
    refine W_loop (fun m a w1 => ∃ (i : Int) (q : Nat), Fr 34 [(0, .int .u64 (q : Int)), (1, .int .u32 (p : Int)), (5, .int .i64 (Px.deg p)), (6, .int .i64 i)] a ∧ St FDx B w w1 ∧ m = (i + 1).toNat ∧ -1 ≤ i ∧ ((Px.deg A < Px.deg p ∧ i = Px.deg A ∧ q = A) ∨ ModAt A p i q)) ((Px.deg A + 1).toNat) ?_ ?_
    · skip
      refine ⟨_, _, hF.sub _ (c_ 0 rfl (c_ 1 rfl (c_ 5 rfl (c_ 6 rfl n_)))), hS, rfl, deg_ge _, ?_⟩
      by_cases h9 : Px.deg A < Px.deg p
      · exact .inl ⟨h9, rfl, rfl⟩
      · exact .inr (modAt_start hp0 hA (by rw [deg_pos hp0] at h9; omega))
    · skip
      clear hF
      clear hS
      rintro m a w1 ⟨i, q, hF, hS, rfl, hi1, hm⟩
      refine W_seq ?_
      refine W_sr rfl (fun K hK => ?_)
      refine sv hF (v_move rfl) rfl ?_; clear hF a; intro a hF
      refine sv hF (v_move rfl) rfl ?_; clear hF a; intro a hF
      refine sv hF (v_geq rfl rfl) rfl ?_; clear hF a; intro a hF
      refine WL_nil (hK _ _ ?_)
      clear hK K
      replace hF := hF.sub _ (c_ 16 rfl (c_ 0 rfl (c_ 1 rfl (c_ 5 rfl (c_ 6 rfl (n_))))))
      refine W_if hF rfl (fun hc2 => ?_) (fun hc2 => ?_)
      · skip
        try simp only [decide_eq_true_eq, decide_eq_false_iff_not, Bool.not_eq_true', Bool.not_eq_false', Bool.not_true, Bool.not_false] at hc2
        replace hm : ModAt A p i q := by
          rcases hm with ⟨h1, h2, h3⟩ | h1
          · omega
          · exact h1
        rw [deg_pos hp0] at hc2 hF
        obtain ⟨j, rfl⟩ : ∃ j : Nat, i = (j : Int) := ⟨i.toNat, by omega⟩
        have hq : q < 2 ^ 64 := Nat.lt_of_lt_of_le hm.lt (Nat.pow_le_pow_right (by decide) (by have := hm.hi; omega))
        have hj := hm.hi
        have hst := (modAt_step hm hp0 (by omega)).1
        rw [toNat_c] at hst
        refine W_skip ?_
        refine W_seq ?_
        refine W_block ?_
        refine W_sr rfl (fun K hK => ?_)
        refine sv hF (v_move rfl) rfl ?_; clear hF a; intro a hF
        refine sv hF (v_move rfl) rfl ?_; clear hF a; intro a hF
        refine sv hF (v_shrN rfl rfl (by omega)) rfl ?_; clear hF a; intro a hF
        refine sv hF (v_andN (n := 1) rfl rfl (fits_u64 (div_lt hq)) (fits_u64 (by decide))) rfl ?_; clear hF a; intro a hF
        refine sv hF (v_eql rfl rfl) rfl ?_; clear hF a; intro a hF
        refine WL_nil (hK _ _ ?_)
        clear hK K
        replace hF := hF.sub _ (c_ 23 rfl (c_ 0 rfl (c_ 1 rfl (c_ 5 rfl (c_ 6 rfl (n_))))))
        refine W_if hF rfl (fun hc3 => ?_) (fun hc3 => ?_)
        · skip
          try simp only [decide_eq_true_eq, decide_eq_false_iff_not, Bool.not_eq_true', Bool.not_eq_false', Bool.not_true, Bool.not_false] at hc3
          replace hc3 := bit_T .u64 (show j ≤ 64 by omega) hc3
          rw [red_bit hc3] at hst
          have hsh := shl_lt64 hp0 hp hj (by omega)
          refine W_reg rfl (fun K hK => ?_)
          refine sv hF (v_move rfl) rfl ?_; clear hF a; intro a hF
          refine sv hF (v_move rfl) rfl ?_; clear hF a; intro a hF
          refine sv hF (v_cv Tryz.underlying27 Tryz.underlying75 rfl (wrap_u64 _ (by omega))) rfl ?_; clear hF a; intro a hF
          refine sv hF (v_move rfl) rfl ?_; clear hF a; intro a hF
          refine sv hF (v_move rfl) rfl ?_; clear hF a; intro a hF
          refine sv hF (v_subI rfl rfl (by omega)) rfl ?_; clear hF a; intro a hF
          refine sv hF ((v_shl rfl rfl (by omega)).as (congrArg _ (shl_says' (i := j - Nat.log2 p) (by omega) hsh (by omega)))) rfl ?_; clear hF a; intro a hF
          refine sv hF (v_xorN rfl rfl (fits_u64 hq) (fits_u64 (by rw [Nat.shiftLeft_eq]; exact hsh))) rfl ?_; clear hF a; intro a hF
          refine sv hF (v_assign rfl) rfl ?_; clear hF a; intro a hF
          refine WL_nil (hK _ _ ?_)
          clear hK K
          replace hF := hF.sub _ (c_ 0 rfl (c_ 1 rfl (c_ 5 rfl (c_ 6 rfl (n_)))))
          refine W_reg rfl (fun K hK => ?_)
          refine sv hF (v_move rfl) rfl ?_; clear hF a; intro a hF
          refine sv hF (v_subI rfl rfl (by omega)) rfl ?_; clear hF a; intro a hF
          refine sv hF (v_assign rfl) rfl ?_; clear hF a; intro a hF
          refine WL_nil (hK _ _ ?_)
          clear hK K
          rw [← deg_pos hp0] at hF
          exact ⟨_, by omega, _, _, hF.sub _ (c_ 0 rfl (c_ 1 rfl (c_ 5 rfl (c_ 6 rfl n_)))), hS, rfl, by omega, .inr hst⟩
        · skip
          try simp only [decide_eq_true_eq, decide_eq_false_iff_not, Bool.not_eq_true', Bool.not_eq_false', Bool.not_true, Bool.not_false] at hc3
          replace hc3 := bit_F .u64 (show j ≤ 64 by omega) hc3
          rw [red_nobit hc3] at hst
          refine W_skip ?_
          refine W_reg rfl (fun K hK => ?_)
          refine sv hF (v_move rfl) rfl ?_; clear hF a; intro a hF
          refine sv hF (v_subI rfl rfl (by omega)) rfl ?_; clear hF a; intro a hF
          refine sv hF (v_assign rfl) rfl ?_; clear hF a; intro a hF
          refine WL_nil (hK _ _ ?_)
          clear hK K
          replace hF := hF.sub _ (c_ 6 rfl (c_ 18 rfl (c_ 17 rfl (c_ 0 rfl (c_ 1 rfl (c_ 5 rfl (n_)))))))
          rw [← deg_pos hp0] at hF
          exact ⟨_, by omega, _, _, hF.sub _ (c_ 0 rfl (c_ 1 rfl (c_ 5 rfl (c_ 6 rfl n_)))), hS, rfl, by omega, .inr hst⟩
      · skip
        try simp only [decide_eq_true_eq, decide_eq_false_iff_not, Bool.not_eq_true', Bool.not_eq_false', Bool.not_true, Bool.not_false] at hc2
        have hfin : q = Px.mod A p := by
          rcases hm with ⟨h1, h2, h3⟩ | h1
          · rw [h3]; exact (mod_low hp0 (by rw [← deg_pos hp0]; exact h1)).symm
          · exact modAt_end h1 (by rw [← deg_pos hp0]; omega)
        have hlt := mod_lt32 A hp
        rw [← hfin] at hlt
        refine W_exit rfl ?_
        refine W_sr rfl (fun K hK => ?_)
        refine sv hF (v_move rfl) rfl ?_; clear hF a; intro a hF
        refine sv hF (v_cv Tryz.underlying75 Tryz.underlying27 rfl (wrap_u32 _ (by omega))) rfl ?_; clear hF a; intro a hF
        refine sv hF (v_assign rfl) rfl ?_; clear hF a; intro a hF
        refine WL_nil (hK _ _ ?_)
        clear hK K
        replace hF := hF.sub _ (c_ 4 rfl (c_ 33 rfl (c_ 32 rfl (c_ 0 rfl (c_ 1 rfl (c_ 5 rfl (c_ 6 rfl (n_))))))))
        refine W_ret ?_
        refine ⟨_, _, hF, rfl, ?_⟩
        exact ⟨by rw [hfin], hS⟩

set_option maxRecDepth 100000 in
set_option maxHeartbeats 1000000 in
theorem MulMod_ok (B x y p : Nat) (w : World) (hI : Inv FDx B w) (hx : x < 4294967296) (hy : y < 4294967296) (hp : p < 4294967296) : Ret Tryz.prog 80 [.int .u32 (x : Int), .int .u32 (y : Int), .int .u32 (p : Int)] w fun v w' => v = .int .u32 (Px.mulMod x y p : Int) ∧ St FDx B w w'  := by
  refine enter 12 [(0, .int .u32 (x : Int)), (1, .int .u32 (y : Int)), (2, .int .u32 (p : Int))] 6 Tryz.func80 rfl rfl rfl rfl rfl ?_; intro a hF
  have hS := St.refl hI
  refine W_sr rfl (fun K hK => ?_)
  refine sv hF (v_assign rfl) rfl ?_; clear hF a; intro a hF
  refine WL_nil (hK _ _ ?_)
  clear hK K
  refine W_sr rfl (fun K hK => ?_)
  refine sv hF (v_move rfl) rfl ?_; clear hF a; intro a hF
  refine sv hF (v_move rfl) rfl ?_; clear hF a; intro a hF
  refine sc hF rfl rfl rfl en88 rfl (Mul_ok B x y _ hS.inv hx hy) ?_; clear hF a; intro v w' a hv hF
  obtain ⟨rfl, hS'⟩ := hv
  replace hS := hS.trans hS'
  clear hS'
  refine sv hF (v_move rfl) rfl ?_; clear hF a; intro a hF
  refine sc hF rfl rfl rfl en76 rfl (Mod_ok B (Px.mul x y) p _ hS.inv (mul_lt64 hx hy) hp) ?_; clear hF a; intro v w' a hv hF
  obtain ⟨rfl, hS'⟩ := hv
  replace hS := hS.trans hS'
  clear hS'
  refine sv hF (v_assign rfl) rfl ?_; clear hF a; intro a hF
  refine WL_nil (hK _ _ ?_)
  clear hK K
  replace hF := hF.sub _ (c_ 6 rfl (n_))
  refine W_ret ?_
  refine ⟨_, _, hF, rfl, ?_⟩
  exact ⟨rfl, hS⟩

set_option maxRecDepth 100000 in
set_option maxHeartbeats 1000000 in
theorem gcd_ok (B X Y : Nat) (w : World) (hI : Inv FDx B w) (hX : X < 4294967296) (hY : Y < 4294967296) : Ret Tryz.prog 87 [.int .u32 (X : Int), .int .u32 (Y : Int)] w fun v w' => v = .int .u32 (Gam.gcd X Y : Int) ∧ St FDx B w w'  := by
  refine enter 13 [(0, .int .u32 (X : Int)), (1, .int .u32 (Y : Int))] 4 Tryz.func87 rfl rfl rfl rfl rfl ?_; intro a hF
  have hS := St.refl hI
  refine W_sr rfl (fun K hK => ?_)
  refine sv hF (v_assign rfl) rfl ?_; clear hF a; intro a hF
  refine WL_nil (hK _ _ ?_)
  clear hK K
  refine W_seq ?_
  refine W_block ?_
  refine W_loop (fun m a w1 => ∃ x y : Nat, Fr 13 [(0, .int .u32 (x : Int)), (1, .int .u32 (y : Int))] a ∧ St FDx B w w1 ∧ Gam.gcd x y = Gam.gcd X Y ∧ x < 4294967296 ∧ y < 4294967296 ∧ m = y) (Y) ?_ ?_
  · skip
    exact ⟨_, _, hF.sub _ (c_ 0 rfl (c_ 1 rfl n_)), hS, rfl, hX, hY, rfl⟩
  · skip
    clear hF
    clear hS
    rintro m a w1 ⟨x, y, hF, hS, hg, hx, hy, rfl⟩
    refine W_seq ?_
    refine W_sr rfl (fun K hK => ?_)
    refine sv hF (v_move rfl) rfl ?_; clear hF a; intro a hF
    refine sv hF (v_neq rfl rfl) rfl ?_; clear hF a; intro a hF
    refine WL_nil (hK _ _ ?_)
    clear hK K
    replace hF := hF.sub _ (c_ 6 rfl (c_ 0 rfl (c_ 1 rfl (n_))))
    refine W_if hF rfl (fun hc1 => ?_) (fun hc1 => ?_)
    · skip
      try simp only [decide_eq_true_eq, decide_eq_false_iff_not, Bool.not_eq_true', Bool.not_eq_false', Bool.not_true, Bool.not_false] at hc1
      have hy0 : m ≠ 0 := by omega
      rw [gcd_step x hy0] at hg
      have hml := mod_lt_self x hy0
      refine W_skip ?_
      refine W_block ?_
      refine W_reg rfl (fun K hK => ?_)
      refine sv hF (v_move rfl) rfl ?_; clear hF a; intro a hF
      refine sv hF (v_move rfl) rfl ?_; clear hF a; intro a hF
      refine sv hF (v_cv Tryz.underlying27 Tryz.underlying75 rfl (wrap_u64 _ (by omega))) rfl ?_; clear hF a; intro a hF
      refine sv hF (v_move rfl) rfl ?_; clear hF a; intro a hF
      refine sc hF rfl rfl rfl en76 rfl (Mod_ok B x m _ hS.inv (by omega) hy) ?_; clear hF a; intro v w' a hv hF
      obtain ⟨rfl, hS'⟩ := hv
      replace hS := hS.trans hS'
      clear hS'
      refine sv hF (v_assign rfl) rfl ?_; clear hF a; intro a hF
      refine sv hF (v_assign rfl) rfl ?_; clear hF a; intro a hF
      refine WL_nil (hK _ _ ?_)
      clear hK K
      replace hF := hF.sub _ (c_ 1 rfl (c_ 0 rfl (n_)))
      exact ⟨_, hml, _, _, hF.sub _ (c_ 0 rfl (c_ 1 rfl n_)), hS, hg, hy, by omega, rfl⟩
    · skip
      try simp only [decide_eq_true_eq, decide_eq_false_iff_not, Bool.not_eq_true', Bool.not_eq_false', Bool.not_true, Bool.not_false] at hc1
      obtain rfl : m = 0 := by omega
      rw [gcd_zero] at hg
      refine W_exit rfl ?_
      refine W_sr rfl (fun K hK => ?_)
      refine sv hF (v_move rfl) rfl ?_; clear hF a; intro a hF
      refine sv hF (v_assign rfl) rfl ?_; clear hF a; intro a hF
      refine WL_nil (hK _ _ ?_)
      clear hK K
      replace hF := hF.sub _ (c_ 4 rfl (c_ 12 rfl (c_ 0 rfl (c_ 1 rfl (n_)))))
      refine W_ret ?_
      refine ⟨_, _, hF, rfl, ?_⟩
      exact ⟨by rw [hg], hS⟩

set_option maxRecDepth 100000 in
set_option maxHeartbeats 1000000 in
theorem power_ok (B X n p : Nat) (w : World) (hI : Inv FDx B w) (hX : X < 4294967296) (hn : n < 9223372036854775808) (hp : p < 4294967296) : Ret Tryz.prog 78 [.int .u32 (X : Int), .int .i64 (n : Int), .int .u32 (p : Int)] w fun v w' => v = .int .u32 (powB X p (Px.mod 1 p) n : Int) ∧ St FDx B w w'  := by
  refine enter 26 [(0, .int .u32 (X : Int)), (1, .int .i64 (n : Int)), (2, .int .u32 (p : Int))] 6 Tryz.func78 rfl rfl rfl rfl rfl ?_; intro a hF
  have hS := St.refl hI
  refine W_sr rfl (fun K hK => ?_)
  refine sv hF (v_assign rfl) rfl ?_; clear hF a; intro a hF
  refine WL_nil (hK _ _ ?_)
  clear hK K
  refine W_sr rfl (fun K hK => ?_)
  refine sv hF (v_move rfl) rfl ?_; clear hF a; intro a hF
  refine sc hF rfl rfl rfl en76 rfl (Mod_ok B 1 p _ hS.inv (by decide) hp) ?_; clear hF a; intro v w' a hv hF
  obtain ⟨rfl, hS'⟩ := hv
  replace hS := hS.trans hS'
  clear hS'
  refine sv hF (v_assign rfl) rfl ?_; clear hF a; intro a hF
  refine WL_nil (hK _ _ ?_)
  clear hK K
  replace hF := hF.sub _ (c_ 7 rfl (c_ 6 rfl (c_ 0 rfl (c_ 1 rfl (c_ 2 rfl (n_))))))
  refine W_seq ?_
  refine W_block ?_
  refine W_loop (fun m a w1 => ∃ x o : Nat, Fr 26 [(0, .int .u32 (x : Int)), (1, .int .i64 (m : Int)), (2, .int .u32 (p : Int)), (7, .int .u32 (o : Int))] a ∧ St FDx B w w1 ∧ powB x p o m = powB X p (Px.mod 1 p) n ∧ x < 4294967296 ∧ o < 4294967296 ∧ m < 9223372036854775808) (n) ?_ ?_
  · skip
    exact ⟨_, _, hF.sub _ (c_ 0 rfl (c_ 1 rfl (c_ 2 rfl (c_ 7 rfl n_)))), hS, rfl, hX, mod_lt32 1 hp, hn⟩
  · skip
    clear hF
    clear hS
    rintro m a w1 ⟨x, o, hF, hS, hg, hx, ho, hm⟩
    refine W_seq ?_
    refine W_sr rfl (fun K hK => ?_)
    refine sv hF (v_move rfl) rfl ?_; clear hF a; intro a hF
    refine sv hF (v_gtr rfl rfl) rfl ?_; clear hF a; intro a hF
    refine WL_nil (hK _ _ ?_)
    clear hK K
    replace hF := hF.sub _ (c_ 11 rfl (c_ 0 rfl (c_ 1 rfl (c_ 2 rfl (c_ 7 rfl (n_))))))
    refine W_if hF rfl (fun hc1 => ?_) (fun hc1 => ?_)
    · skip
      try simp only [decide_eq_true_eq, decide_eq_false_iff_not, Bool.not_eq_true', Bool.not_eq_false', Bool.not_true, Bool.not_false] at hc1
      refine W_skip ?_
      refine W_seq ?_
      refine W_block ?_
      refine W_seq ?_
      refine W_sr rfl (fun K hK => ?_)
      refine sv hF (v_move rfl) rfl ?_; clear hF a; intro a hF
      refine sv hF (v_andN (n := 1) rfl rfl (fits_i64 hm) (fits_i64 (by decide))) rfl ?_; clear hF a; intro a hF
      refine sv hF (v_eql rfl rfl) rfl ?_; clear hF a; intro a hF
      refine WL_nil (hK _ _ ?_)
      clear hK K
      replace hF := hF.sub _ (c_ 16 rfl (c_ 0 rfl (c_ 1 rfl (c_ 2 rfl (c_ 7 rfl (n_))))))
      refine W_if hF rfl (fun hc2 => ?_) (fun hc2 => ?_)
      · skip
        try simp only [decide_eq_true_eq, decide_eq_false_iff_not, Bool.not_eq_true', Bool.not_eq_false', Bool.not_true, Bool.not_false] at hc2
        rw [Nat.and_one_is_mod] at hc2
        rw [powB_odd x p o (by omega)] at hg
        refine W_reg rfl (fun K hK => ?_)
        refine sv hF (v_move rfl) rfl ?_; clear hF a; intro a hF
        refine sv hF (v_move rfl) rfl ?_; clear hF a; intro a hF
        refine sv hF (v_move rfl) rfl ?_; clear hF a; intro a hF
        refine sc hF rfl rfl rfl en80 rfl (MulMod_ok B o x p _ hS.inv ho hx hp) ?_; clear hF a; intro v w' a hv hF
        obtain ⟨rfl, hS'⟩ := hv
        replace hS := hS.trans hS'
        clear hS'
        refine sv hF (v_assign rfl) rfl ?_; clear hF a; intro a hF
        refine WL_nil (hK _ _ ?_)
        clear hK K
        replace hF := hF.sub _ (c_ 7 rfl (c_ 0 rfl (c_ 1 rfl (c_ 2 rfl (n_)))))
        refine W_reg rfl (fun K hK => ?_)
        refine sv hF (v_move rfl) rfl ?_; clear hF a; intro a hF
        refine sv hF (v_move rfl) rfl ?_; clear hF a; intro a hF
        refine sv hF (v_move rfl) rfl ?_; clear hF a; intro a hF
        refine sc hF rfl rfl rfl en80 rfl (MulMod_ok B x x p _ hS.inv hx hx hp) ?_; clear hF a; intro v w' a hv hF
        obtain ⟨rfl, hS'⟩ := hv
        replace hS := hS.trans hS'
        clear hS'
        refine sv hF (v_assign rfl) rfl ?_; clear hF a; intro a hF
        refine WL_nil (hK _ _ ?_)
        clear hK K
        replace hF := hF.sub _ (c_ 0 rfl (c_ 7 rfl (c_ 1 rfl (c_ 2 rfl (n_)))))
        refine W_reg rfl (fun K hK => ?_)
        refine sv hF (v_move rfl) rfl ?_; clear hF a; intro a hF
        refine sv hF (v_shrN (m := m) rfl rfl (by decide)) rfl ?_; clear hF a; intro a hF
        refine sv hF (v_assign rfl) rfl ?_; clear hF a; intro a hF
        refine WL_nil (hK _ _ ?_)
        clear hK K
        exact ⟨m / 2, by omega, _, _, hF.sub _ (c_ 0 rfl (c_ 1 rfl (c_ 2 rfl (c_ 7 rfl n_)))), hS, hg, mod_lt32 _ hp, by first | exact mod_lt32 _ hp | exact ho, by omega⟩
      · skip
        try simp only [decide_eq_true_eq, decide_eq_false_iff_not, Bool.not_eq_true', Bool.not_eq_false', Bool.not_true, Bool.not_false] at hc2
        rw [Nat.and_one_is_mod] at hc2
        rw [powB_even x p o (by omega) (by omega)] at hg
        refine W_skip ?_
        refine W_reg rfl (fun K hK => ?_)
        refine sv hF (v_move rfl) rfl ?_; clear hF a; intro a hF
        refine sv hF (v_move rfl) rfl ?_; clear hF a; intro a hF
        refine sv hF (v_move rfl) rfl ?_; clear hF a; intro a hF
        refine sc hF rfl rfl rfl en80 rfl (MulMod_ok B x x p _ hS.inv hx hx hp) ?_; clear hF a; intro v w' a hv hF
        obtain ⟨rfl, hS'⟩ := hv
        replace hS := hS.trans hS'
        clear hS'
        refine sv hF (v_assign rfl) rfl ?_; clear hF a; intro a hF
        refine WL_nil (hK _ _ ?_)
        clear hK K
        replace hF := hF.sub _ (c_ 0 rfl (c_ 1 rfl (c_ 2 rfl (c_ 7 rfl (n_)))))
        refine W_reg rfl (fun K hK => ?_)
        refine sv hF (v_move rfl) rfl ?_; clear hF a; intro a hF
        refine sv hF (v_shrN (m := m) rfl rfl (by decide)) rfl ?_; clear hF a; intro a hF
        refine sv hF (v_assign rfl) rfl ?_; clear hF a; intro a hF
        refine WL_nil (hK _ _ ?_)
        clear hK K
        exact ⟨m / 2, by omega, _, _, hF.sub _ (c_ 0 rfl (c_ 1 rfl (c_ 2 rfl (c_ 7 rfl n_)))), hS, hg, mod_lt32 _ hp, by first | exact mod_lt32 _ hp | exact ho, by omega⟩
    · skip
      try simp only [decide_eq_true_eq, decide_eq_false_iff_not, Bool.not_eq_true', Bool.not_eq_false', Bool.not_true, Bool.not_false] at hc1
      obtain rfl : m = 0 := by omega
      rw [powB_zero] at hg
      refine W_exit rfl ?_
      refine W_sr rfl (fun K hK => ?_)
      refine sv hF (v_move rfl) rfl ?_; clear hF a; intro a hF
      refine sv hF (v_assign rfl) rfl ?_; clear hF a; intro a hF
      refine WL_nil (hK _ _ ?_)
      clear hK K
      replace hF := hF.sub _ (c_ 6 rfl (c_ 25 rfl (c_ 0 rfl (c_ 1 rfl (c_ 2 rfl (c_ 7 rfl (n_)))))))
      refine W_ret ?_
      refine ⟨_, _, hF, rfl, ?_⟩
      exact ⟨by rw [hg], hS⟩

set_option maxRecDepth 100000 in
set_option maxHeartbeats 1000000 in
theorem frob_ok (B n p : Nat) (w : World) (hI : Inv FDx B w) (hn : n < 1000) (hp : p < 4294967296) : Ret Tryz.prog 86 [.int .i64 (n : Int), .int .u32 (p : Int)] w fun v w' => v = .int .u32 (frob p n (Px.mod 2 p) : Int) ∧ St FDx B w w'  := by
  refine enter 17 [(0, .int .i64 (n : Int)), (1, .int .u32 (p : Int))] 4 Tryz.func86 rfl rfl rfl rfl rfl ?_; intro a hF
  have hS := St.refl hI
  refine W_sr rfl (fun K hK => ?_)
  refine sv hF (v_assign rfl) rfl ?_; clear hF a; intro a hF
  refine WL_nil (hK _ _ ?_)
  clear hK K
  refine W_sr rfl (fun K hK => ?_)
  refine sv hF (v_move rfl) rfl ?_; clear hF a; intro a hF
  refine sc hF rfl rfl rfl en76 rfl (Mod_ok B 2 p _ hS.inv (by decide) hp) ?_; clear hF a; intro v w' a hv hF
  obtain ⟨rfl, hS'⟩ := hv
  replace hS := hS.trans hS'
  clear hS'
  refine sv hF (v_assign rfl) rfl ?_; clear hF a; intro a hF
  refine WL_nil (hK _ _ ?_)
  clear hK K
  replace hF := hF.sub _ (c_ 5 rfl (c_ 4 rfl (c_ 0 rfl (c_ 1 rfl (n_)))))
  refine W_seq ?_
  refine W_sr rfl (fun K hK => ?_)
  refine sv hF (v_move rfl) rfl ?_; clear hF a; intro a hF
  refine sv hF (v_move rfl) rfl ?_; clear hF a; intro a hF
  refine WL_nil (hK _ _ ?_)
  clear hK K
  replace hF := hF.sub _ (c_ 9 rfl (c_ 8 rfl (c_ 5 rfl (c_ 4 rfl (c_ 1 rfl (n_))))))
  refine W_block ?_
  refine W_loop (fun m a w1 => ∃ j : Nat, Fr 17 [(1, .int .u32 (p : Int)), (5, .int .u32 (frob p j (Px.mod 2 p) : Int)), (8, .int .i64 (n : Int)), (9, .int .i64 (j : Int))] a ∧ St FDx B w w1 ∧ j ≤ n ∧ m = n - j) (n) ?_ ?_
  · skip
    exact ⟨0, hF.sub _ (c_ 1 rfl (c_ 5 rfl (c_ 8 rfl (c_ 9 rfl n_)))), hS, by omega, rfl⟩
  · skip
    clear hF
    clear hS
    rintro m a w1 ⟨j, hF, hS, hj, rfl⟩
    refine W_sr rfl (fun K hK => ?_)
    refine sv hF (v_lss rfl rfl) rfl ?_; clear hF a; intro a hF
    refine WL_nil (hK _ _ ?_)
    clear hK K
    refine W_seq ?_
    refine W_if hF rfl (fun hc1 => ?_) (fun hc1 => ?_)
    · skip
      try simp only [decide_eq_true_eq, decide_eq_false_iff_not, Bool.not_eq_true', Bool.not_eq_false', Bool.not_true, Bool.not_false] at hc1
      refine W_skip ?_
      refine W_seq ?_
      refine W_block ?_
      refine W_reg rfl (fun K hK => ?_)
      refine sv hF (v_move rfl) rfl ?_; clear hF a; intro a hF
      refine sv hF (v_move rfl) rfl ?_; clear hF a; intro a hF
      refine sv hF (v_move rfl) rfl ?_; clear hF a; intro a hF
      refine sc hF rfl rfl rfl en80 rfl (MulMod_ok B _ _ p _ hS.inv (frob_lt32 j hp) (frob_lt32 j hp) hp) ?_; clear hF a; intro v w' a hv hF
      obtain ⟨rfl, hS'⟩ := hv
      replace hS := hS.trans hS'
      clear hS'
      refine sv hF (v_assign rfl) rfl ?_; clear hF a; intro a hF
      refine WL_nil (hK _ _ ?_)
      clear hK K
      replace hF := hF.sub _ (c_ 5 rfl (c_ 1 rfl (c_ 8 rfl (c_ 9 rfl (n_)))))
      refine W_reg rfl (fun K hK => ?_)
      refine sv hF (v_addI rfl rfl (by omega)) rfl ?_; clear hF a; intro a hF
      refine sv hF (v_move rfl) rfl ?_; clear hF a; intro a hF
      refine WL_nil (hK _ _ ?_)
      clear hK K
      rw [← frob_succ] at hF
      exact ⟨n - (j + 1), by omega, j + 1, hF.sub _ (c_ 1 rfl (c_ 5 rfl (c_ 8 rfl (c_ 9 rfl n_)))), hS, by omega, rfl⟩
    · skip
      try simp only [decide_eq_true_eq, decide_eq_false_iff_not, Bool.not_eq_true', Bool.not_eq_false', Bool.not_true, Bool.not_false] at hc1
      obtain rfl : j = n := by omega
      refine W_exit rfl ?_
      refine W_sr rfl (fun K hK => ?_)
      refine sv hF (v_move rfl) rfl ?_; clear hF a; intro a hF
      refine sv hF (v_assign rfl) rfl ?_; clear hF a; intro a hF
      refine WL_nil (hK _ _ ?_)
      clear hK K
      replace hF := hF.sub _ (c_ 4 rfl (c_ 16 rfl (c_ 1 rfl (c_ 5 rfl (c_ 8 rfl (c_ 9 rfl (n_)))))))
      refine W_ret ?_
      refine ⟨_, _, hF, rfl, ?_⟩
      exact ⟨rfl, hS⟩

set_option maxRecDepth 100000 in
set_option maxHeartbeats 1000000 in
theorem irr_ok (B p : Nat) (w : World) (hI : Inv FDx B w) (hp : p < 4294967296) : Ret Tryz.prog 75 [.int .u32 (p : Int)] w fun v w' => v = .bool (irr p) ∧ St FDx B w w'  := by
  refine enter 35 [(0, .int .u32 (p : Int))] 2 Tryz.func75 rfl rfl rfl rfl rfl ?_; intro a hF
  have hS := St.refl hI
  refine W_sr rfl (fun K hK => ?_)
  refine sv hF (v_assign rfl) rfl ?_; clear hF a; intro a hF
  refine WL_nil (hK _ _ ?_)
  clear hK K
  refine W_sr rfl (fun K hK => ?_)
  refine sv hF (v_move rfl) rfl ?_; clear hF a; intro a hF
  refine sv hF (v_cv Tryz.underlying27 Tryz.underlying75 rfl (wrap_u64 _ (by omega))) rfl ?_; clear hF a; intro a hF
  refine sc hF rfl rfl rfl en51 rfl (Deg_ok B p _ hS.inv (by omega)) ?_; clear hF a; intro v w' a hv hF
  obtain ⟨rfl, hS'⟩ := hv
  replace hS := hS.trans hS'
  clear hS'
  refine sv hF (v_assign rfl) rfl ?_; clear hF a; intro a hF
  refine WL_nil (hK _ _ ?_)
  clear hK K
  replace hF := hF.sub _ (c_ 3 rfl (c_ 2 rfl (c_ 0 rfl (n_))))
  refine W_seq ?_
  refine W_sr rfl (fun K hK => ?_)
  refine sv hF (v_move rfl) rfl ?_; clear hF a; intro a hF
  refine sb hF (v_lss rfl rfl) rfl ?_ ?_
  · clear hF a; intro hc1 a hF
    try simp only [decide_eq_true_eq, decide_eq_false_iff_not, Bool.not_eq_true', Bool.not_eq_false', Bool.not_true, Bool.not_false] at hc1
    refine sv hF (v_move rfl) rfl ?_; clear hF a; intro a hF
    refine svn hF rfl rfl rfl ?_; clear hF a; intro a hF
    refine svn hF rfl rfl rfl ?_; clear hF a; intro a hF
    refine sv hF (v_pickT rfl rfl) rfl ?_; clear hF a; intro a hF
    refine sv hF (v_move rfl) rfl ?_; clear hF a; intro a hF
    refine svn hF rfl rfl rfl ?_; clear hF a; intro a hF
    refine svn hF rfl rfl rfl ?_; clear hF a; intro a hF
    refine svn hF rfl rfl rfl ?_; clear hF a; intro a hF
    refine svn hF rfl rfl rfl ?_; clear hF a; intro a hF
    refine svn hF rfl rfl rfl ?_; clear hF a; intro a hF
    refine svn hF rfl rfl rfl ?_; clear hF a; intro a hF
    refine sv hF (v_pickT rfl rfl) rfl ?_; clear hF a; intro a hF
    refine WL_nil (hK _ _ ?_)
    clear hK K
    replace hF := hF.sub _ (c_ 21 rfl (c_ 3 rfl (c_ 2 rfl (c_ 0 rfl (n_)))))
    refine W_ifT hF rfl ?_
    refine W_sr rfl (fun K hK => ?_)
    refine sv hF (v_assign rfl) rfl ?_; clear hF a; intro a hF
    refine WL_nil (hK _ _ ?_)
    clear hK K
    replace hF := hF.sub _ (c_ 2 rfl (c_ 3 rfl (c_ 0 rfl (n_))))
    refine W_ret ?_
    refine ⟨_, _, hF, rfl, ?_⟩
    first
    | exact ⟨congrArg _ (irr_out (by rw [← deg_range]; omega)).symm, hS⟩
    | exact ⟨congrArg _ (irr_f2 (by assumption)).symm, hS⟩
    | exact ⟨congrArg _ hbad.symm, hS⟩
    | exact ⟨congrArg _ (irr_t hr hfr (fun j hj => hall j (by omega))).symm, hS⟩
  · clear hF a; intro hc1 a hF
    try simp only [decide_eq_true_eq, decide_eq_false_iff_not, Bool.not_eq_true', Bool.not_eq_false', Bool.not_true, Bool.not_false] at hc1
    refine sv hF (v_move rfl) rfl ?_; clear hF a; intro a hF
    refine svg hF rfl ?_
    refine sv hF (v_move rfl) rfl ?_; clear hF a; intro a hF
    refine svg hF rfl ?_
    refine sb hF (v_gtr rfl rfl) rfl ?_ ?_
    · clear hF a; intro hc2 a hF
      try simp only [decide_eq_true_eq, decide_eq_false_iff_not, Bool.not_eq_true', Bool.not_eq_false', Bool.not_true, Bool.not_false] at hc2
      refine sv hF (v_pickF rfl rfl) rfl ?_; clear hF a; intro a hF
      refine sv hF (v_move rfl) rfl ?_; clear hF a; intro a hF
      refine svn hF rfl rfl rfl ?_; clear hF a; intro a hF
      refine svn hF rfl rfl rfl ?_; clear hF a; intro a hF
      refine svn hF rfl rfl rfl ?_; clear hF a; intro a hF
      refine svn hF rfl rfl rfl ?_; clear hF a; intro a hF
      refine svn hF rfl rfl rfl ?_; clear hF a; intro a hF
      refine svn hF rfl rfl rfl ?_; clear hF a; intro a hF
      refine sv hF (v_pickT rfl rfl) rfl ?_; clear hF a; intro a hF
      refine WL_nil (hK _ _ ?_)
      clear hK K
      replace hF := hF.sub _ (c_ 21 rfl (c_ 3 rfl (c_ 2 rfl (c_ 0 rfl (n_)))))
      refine W_ifT hF rfl ?_
      refine W_sr rfl (fun K hK => ?_)
      refine sv hF (v_assign rfl) rfl ?_; clear hF a; intro a hF
      refine WL_nil (hK _ _ ?_)
      clear hK K
      replace hF := hF.sub _ (c_ 2 rfl (c_ 3 rfl (c_ 0 rfl (n_))))
      refine W_ret ?_
      refine ⟨_, _, hF, rfl, ?_⟩
      first
      | exact ⟨congrArg _ (irr_out (by rw [← deg_range]; omega)).symm, hS⟩
      | exact ⟨congrArg _ (irr_f2 (by assumption)).symm, hS⟩
      | exact ⟨congrArg _ hbad.symm, hS⟩
      | exact ⟨congrArg _ (irr_t hr hfr (fun j hj => hall j (by omega))).symm, hS⟩
    · clear hF a; intro hc2 a hF
      try simp only [decide_eq_true_eq, decide_eq_false_iff_not, Bool.not_eq_true', Bool.not_eq_false', Bool.not_true, Bool.not_false] at hc2
      refine sv hF (v_pickF rfl rfl) rfl ?_; clear hF a; intro a hF
      refine sv hF (v_move rfl) rfl ?_; clear hF a; intro a hF
      refine svg hF rfl ?_
      have hr : 2 ≤ p ∧ p < 131072 := deg_range.1 ⟨by assumption, by assumption⟩
      have hp0 : p ≠ 0 := by omega
      have hl := log2_lt hp0 (k := 17) (by omega)
      rw [deg_pos hp0] at hF
      refine sv hF (v_move rfl) rfl ?_; clear hF a; intro a hF
      refine svg hF rfl ?_
      refine sv hF (v_move rfl) rfl ?_; clear hF a; intro a hF
      refine svg hF rfl ?_
      refine sc hF rfl rfl rfl en86 rfl (frob_ok B (Nat.log2 p) p _ hS.inv (by omega) hp) ?_; clear hF a; intro v w' a hv hF
      obtain ⟨rfl, hS'⟩ := hv
      replace hS := hS.trans hS'
      clear hS'
      refine svg hF rfl ?_
      refine sv hF (v_move rfl) rfl ?_; clear hF a; intro a hF
      refine svg hF rfl ?_
      refine sc hF rfl rfl rfl en76 rfl (Mod_ok B 2 p _ hS.inv (by decide) hp) ?_; clear hF a; intro v w' a hv hF
      obtain ⟨rfl, hS'⟩ := hv
      replace hS := hS.trans hS'
      clear hS'
      refine svg hF rfl ?_
      refine sv hF (v_neq rfl rfl) rfl ?_; clear hF a; intro a hF
      refine sv hF (v_pickF rfl rfl) rfl ?_; clear hF a; intro a hF
      refine WL_nil (hK _ _ ?_)
      clear hK K
      replace hF := hF.sub _ (c_ 21 rfl (c_ 3 rfl (c_ 2 rfl (c_ 0 rfl (n_)))))
      refine W_if hF rfl (fun hc3 => ?_) (fun hc3 => ?_)
      · skip
        try simp only [decide_eq_true_eq, decide_eq_false_iff_not, Bool.not_eq_true', Bool.not_eq_false', Bool.not_true, Bool.not_false] at hc3
        refine W_sr rfl (fun K hK => ?_)
        refine sv hF (v_assign rfl) rfl ?_; clear hF a; intro a hF
        refine WL_nil (hK _ _ ?_)
        clear hK K
        replace hF := hF.sub _ (c_ 2 rfl (c_ 3 rfl (c_ 0 rfl (n_))))
        refine W_ret ?_
        refine ⟨_, _, hF, rfl, ?_⟩
        first
        | exact ⟨congrArg _ (irr_out (by rw [← deg_range]; omega)).symm, hS⟩
        | exact ⟨congrArg _ (irr_f2 (by assumption)).symm, hS⟩
        | exact ⟨congrArg _ hbad.symm, hS⟩
        | exact ⟨congrArg _ (irr_t hr hfr (fun j hj => hall j (by omega))).symm, hS⟩
      · skip
        try simp only [decide_eq_true_eq, decide_eq_false_iff_not, Bool.not_eq_true', Bool.not_eq_false', Bool.not_true, Bool.not_false] at hc3
        refine W_skip ?_
        refine W_seq ?_
        have hfr : frob p (Nat.log2 p) (Px.mod 2 p) = Px.mod 2 p := by omega
        refine W_sr rfl (fun K hK => ?_)
        refine sv hF (v_assign rfl) rfl ?_; clear hF a; intro a hF
        refine WL_nil (hK _ _ ?_)
        clear hK K
        replace hF := hF.sub _ (c_ 4 rfl (c_ 3 rfl (c_ 2 rfl (c_ 0 rfl (n_)))))
        refine W_block ?_
        refine W_loop (fun m a w1 => ∃ i : Nat, Fr 35 [(0, .int .u32 (p : Int)), (3, .int .i64 (Nat.log2 p : Int)), (4, .int .i64 (i : Int))] a ∧ St FDx B w w1 ∧ 1 ≤ i ∧ i ≤ Nat.log2 p + 1 ∧ (∀ j, j + 1 < i → Gam.gcd p (frob p (j + 1) (Px.mod 2 p) ^^^ 2) = 1) ∧ m = Nat.log2 p + 1 - i) (Nat.log2 p) ?_ ?_
        · skip
          exact ⟨1, hF.sub _ (c_ 0 rfl (c_ 3 rfl (c_ 4 rfl n_))), hS, by omega, by omega, fun j hj => by omega, by omega⟩
        · skip
          clear hF
          clear hS
          rintro m a w1 ⟨i, hF, hS, hi1, hi2, hall, rfl⟩
          refine W_seq ?_
          refine W_sr rfl (fun K hK => ?_)
          refine sv hF (v_move rfl) rfl ?_; clear hF a; intro a hF
          refine sv hF (v_move rfl) rfl ?_; clear hF a; intro a hF
          refine sv hF (v_quoI rfl rfl (by omega) (by omega) (by omega)) rfl ?_; clear hF a; intro a hF
          refine sv hF (v_leq rfl rfl) rfl ?_; clear hF a; intro a hF
          refine WL_nil (hK _ _ ?_)
          clear hK K
          replace hF := hF.sub _ (c_ 25 rfl (c_ 0 rfl (c_ 3 rfl (c_ 4 rfl (n_)))))
          refine W_if hF rfl (fun hc4 => ?_) (fun hc4 => ?_)
          · skip
            try simp only [decide_eq_true_eq, decide_eq_false_iff_not, Bool.not_eq_true', Bool.not_eq_false', Bool.not_true, Bool.not_false] at hc4
            refine W_skip ?_
            refine W_seq ?_
            refine W_block ?_
            refine W_sr rfl (fun K hK => ?_)
            refine sv hF (v_move rfl) rfl ?_; clear hF a; intro a hF
            refine sv hF (v_move rfl) rfl ?_; clear hF a; intro a hF
            refine sv hF (v_move rfl) rfl ?_; clear hF a; intro a hF
            refine sc hF rfl rfl rfl en86 rfl (frob_ok B i p _ hS.inv (by omega) hp) ?_; clear hF a; intro v w' a hv hF
            obtain ⟨rfl, hS'⟩ := hv
            replace hS := hS.trans hS'
            clear hS'
            refine sv hF (v_xorN (n := 2) rfl rfl (fits_u32 (frob_lt32 i hp)) (fits_u32 (by decide))) rfl ?_; clear hF a; intro a hF
            refine sc hF rfl rfl rfl en87 rfl (gcd_ok B p _ _ hS.inv hp (Px.xor_lt (k := 32) (frob_lt32 i hp) (by decide))) ?_; clear hF a; intro v w' a hv hF
            obtain ⟨rfl, hS'⟩ := hv
            replace hS := hS.trans hS'
            clear hS'
            refine sv hF (v_neq rfl rfl) rfl ?_; clear hF a; intro a hF
            refine WL_nil (hK _ _ ?_)
            clear hK K
            replace hF := hF.sub _ (c_ 34 rfl (c_ 0 rfl (c_ 3 rfl (c_ 4 rfl (n_)))))
            refine W_if hF rfl (fun hc5 => ?_) (fun hc5 => ?_)
            · skip
              try simp only [decide_eq_true_eq, decide_eq_false_iff_not, Bool.not_eq_true', Bool.not_eq_false', Bool.not_true, Bool.not_false] at hc5
              obtain ⟨i, rfl⟩ : ∃ k, i = k + 1 := ⟨i - 1, by omega⟩
              have hbad := irr_f3 i (by omega) (show Gam.gcd p (frob p (i + 1) (Px.mod 2 p) ^^^ 2) ≠ 1 by omega)
              refine W_sr rfl (fun K hK => ?_)
              refine sv hF (v_assign rfl) rfl ?_; clear hF a; intro a hF
              refine WL_nil (hK _ _ ?_)
              clear hK K
              replace hF := hF.sub _ (c_ 2 rfl (c_ 0 rfl (c_ 3 rfl (c_ 4 rfl (n_)))))
              refine W_ret ?_
              refine ⟨_, _, hF, rfl, ?_⟩
              first
              | exact ⟨congrArg _ (irr_out (by rw [← deg_range]; omega)).symm, hS⟩
              | exact ⟨congrArg _ (irr_f2 (by assumption)).symm, hS⟩
              | exact ⟨congrArg _ hbad.symm, hS⟩
              | exact ⟨congrArg _ (irr_t hr hfr (fun j hj => hall j (by omega))).symm, hS⟩
            · skip
              try simp only [decide_eq_true_eq, decide_eq_false_iff_not, Bool.not_eq_true', Bool.not_eq_false', Bool.not_true, Bool.not_false] at hc5
              have hall2 : ∀ j, j + 1 < i + 1 → Gam.gcd p (frob p (j + 1) (Px.mod 2 p) ^^^ 2) = 1 := fun j hj => by
                by_cases h9 : j + 1 < i
                · exact hall j h9
                · obtain rfl : j + 1 = i := by omega
                  omega
              refine W_skip ?_
              refine W_reg rfl (fun K hK => ?_)
              refine sv hF (v_move rfl) rfl ?_; clear hF a; intro a hF
              refine sv hF (v_addI rfl rfl (by omega)) rfl ?_; clear hF a; intro a hF
              refine sv hF (v_assign rfl) rfl ?_; clear hF a; intro a hF
              refine WL_nil (hK _ _ ?_)
              clear hK K
              replace hF := hF.sub _ (c_ 4 rfl (c_ 27 rfl (c_ 26 rfl (c_ 0 rfl (c_ 3 rfl (n_))))))
              exact ⟨Nat.log2 p + 1 - (i + 1), by omega, i + 1, hF.sub _ (c_ 0 rfl (c_ 3 rfl (c_ 4 rfl n_))), hS, by omega, by omega, hall2, rfl⟩
          · skip
            try simp only [decide_eq_true_eq, decide_eq_false_iff_not, Bool.not_eq_true', Bool.not_eq_false', Bool.not_true, Bool.not_false] at hc4
            refine W_exit rfl ?_
            refine W_sr rfl (fun K hK => ?_)
            refine sv hF (v_assign rfl) rfl ?_; clear hF a; intro a hF
            refine WL_nil (hK _ _ ?_)
            clear hK K
            replace hF := hF.sub _ (c_ 2 rfl (c_ 0 rfl (c_ 3 rfl (c_ 4 rfl (n_)))))
            refine W_ret ?_
            refine ⟨_, _, hF, rfl, ?_⟩
            first
            | exact ⟨congrArg _ (irr_out (by rw [← deg_range]; omega)).symm, hS⟩
            | exact ⟨congrArg _ (irr_f2 (by assumption)).symm, hS⟩
            | exact ⟨congrArg _ hbad.symm, hS⟩
            | exact ⟨congrArg _ (irr_t hr hfr (fun j hj => hall j (by omega))).symm, hS⟩

set_option maxRecDepth 100000 in
set_option maxHeartbeats 1000000 in
theorem divs_ok (B M : Nat) (w : World) (hI : Inv FDx B w) (hM : 1 ≤ M) (hM2 : M < 65536) : Ret Tryz.prog 77 [.int .i64 (M : Int)] w fun v w' => ∃ l, Row FDx B w'.heap.size w' v (ints l) ∧ ((∀ r ∈ l, 2 ≤ r ∧ r ∣ M) ∧ (∀ m, 2 ≤ m → m ∣ M → ∃ r ∈ l, r ∣ m) ∧ (∀ r ∈ l, r < 65536) ∧ l.length ≤ 65536) ∧ St FDx B w w'  := by
  refine enter 25 [(0, .int .i64 (M : Int))] 2 Tryz.func77 rfl rfl rfl rfl rfl ?_; intro a hF
  have hS := St.refl hI
  refine W_sr rfl (fun K hK => ?_)
  refine sv hF (v_assign rfl) rfl ?_; clear hF a; intro a hF
  refine WL_nil (hK _ _ ?_)
  clear hK K
  refine W_sr rfl (fun K hK => ?_)
  refine sv hF (v_assign rfl) rfl ?_; clear hF a; intro a hF
  refine WL_nil (hK _ _ ?_)
  clear hK K
  refine W_seq ?_
  refine W_sr rfl (fun K hK => ?_)
  refine sv hF (v_assign rfl) rfl ?_; clear hF a; intro a hF
  refine WL_nil (hK _ _ ?_)
  clear hK K
  refine W_block ?_
  refine W_loop (fun m a w1 => ∃ n q l v b, Fr 25 [(0, .int .i64 ((n : Nat) : Int)), (3, v), (4, .int .i64 ((q : Nat) : Int))] a ∧ St FDx B w w1 ∧ Gam.Own FDx B w.heap.size w1 3 v b (ints l) ∧ DivAt M n q l ∧ q ≤ M + 2 ∧ m = M + 1 - q + n) (M + 1 - 2 + M) ?_ ?_
  · skip
    exact ⟨_, 2, [], _, _, hF.sub _ (c_ 0 rfl (c_ 3 rfl (c_ 4 rfl n_))), hS, Gam.Own.nil _ _ _ _ _, divAt_start hM, by omega, rfl⟩
  · skip
    clear hF
    clear hS
    rintro m a w1 ⟨n, q, l, v, b, hF, hS, ho, hd, hqM, rfl⟩
    have hq2 := hd.two
    have hnM := hd.le
    have hn1 := hd.pos
    refine W_seq ?_
    refine W_sr rfl (fun K hK => ?_)
    refine sv hF (v_move rfl) rfl ?_; clear hF a; intro a hF
    refine sv hF (v_gtr rfl rfl) rfl ?_; clear hF a; intro a hF
    refine WL_nil (hK _ _ ?_)
    clear hK K
    replace hF := hF.sub _ (c_ 6 rfl (c_ 0 rfl (c_ 3 rfl (c_ 4 rfl (n_)))))
    refine W_if hF rfl (fun hc1 => ?_) (fun hc1 => ?_)
    · skip
      try simp only [decide_eq_true_eq, decide_eq_false_iff_not, Bool.not_eq_true', Bool.not_eq_false', Bool.not_true, Bool.not_false] at hc1
      have hqn := divAt_le hd (by omega)
      have hlen := hd.len
      refine W_skip ?_
      refine W_seq ?_
      refine W_block ?_
      refine W_cut (fun a w2 => ∃ l2 v b, Fr 25 [(0, .int .i64 (n : Int)), (3, v), (4, .int .i64 (q : Int))] a ∧ St FDx B w w2 ∧ Gam.Own FDx B w.heap.size w2 3 v b (ints l2) ∧ DivOut M n q l2) ?_ ?_
      · skip
        refine W_sr rfl (fun K hK => ?_)
        refine sv hF (v_move rfl) rfl ?_; clear hF a; intro a hF
        refine sv hF (v_move rfl) rfl ?_; clear hF a; intro a hF
        refine sv hF (v_remI rfl rfl (by omega) (by omega)) rfl ?_; clear hF a; intro a hF
        refine sv hF (v_eql rfl rfl) rfl ?_; clear hF a; intro a hF
        refine WL_nil (hK _ _ ?_)
        clear hK K
        replace hF := hF.sub _ (c_ 12 rfl (c_ 0 rfl (c_ 3 rfl (c_ 4 rfl (n_)))))
        refine W_if hF rfl (fun hc2 => ?_) (fun hc2 => ?_)
        · skip
          try simp only [decide_eq_true_eq, decide_eq_false_iff_not, Bool.not_eq_true', Bool.not_eq_false', Bool.not_true, Bool.not_false] at hc2
          refine W_reg rfl (fun K hK => ?_)
          refine sv hF (v_move rfl) rfl ?_; clear hF a; intro a hF
          refine sv hF (v_move rfl) rfl ?_; clear hF a; intro a hF
          refine s_bs (D := FDx) (B := B) hF sl23 rfl rfl (by decide) (by simp [Value.cells]) (by decide) hS.inv rfl ?_; clear hF a; intro w' a hm hI' hb hF
          replace ho := ho.mb hm (fun _ _ => by simp)
          replace hS := hS.mb0 hm
          clear hm hI'
          refine s_app (D := FDx) (B := B) hF rfl sl23 rfl rfl ho (hb.row (by decide)) (by simp [Value.oneCell']) (by simp; omega) (by simp [maxLen]; omega) (hS.ext.size) (by decide) hS.inv rfl ?_; clear hF a; intro v' b' w' a ho' hm hI' hb' hF
          replace hS := hS.mb hm (fun k h => Nat.le_trans (Nat.le_refl _) (ho.lt k h).1)
          replace ho := ho'
          clear hm hI' ho' hb
          refine sv hF (v_assign rfl) rfl ?_; clear hF a; intro a hF
          refine WL_nil (hK _ _ ?_)
          clear hK K
          replace hF := hF.sub _ (c_ 3 rfl (c_ 0 rfl (c_ 4 rfl (n_))))
          exact ⟨_, _, _, hF.sub _ (c_ 0 rfl (c_ 3 rfl (c_ 4 rfl n_))), hS, by rw [ints_snoc]; exact ho, divAt_found hd (mod_dvd hc2)⟩
        · skip
          try simp only [decide_eq_true_eq, decide_eq_false_iff_not, Bool.not_eq_true', Bool.not_eq_false', Bool.not_true, Bool.not_false] at hc2
          refine W_skip ?_
          exact ⟨_, _, _, hF.sub _ (c_ 0 rfl (c_ 3 rfl (c_ 4 rfl n_))), hS, ho, divAt_none hd (mod_ndvd hc2)⟩
      · skip
        clear hF
        clear hS ho
        rintro a w2 ⟨l2, v, b, hF, hS, ho, hd2⟩
        refine W_block ?_
        refine W_loop (fun m a w3 => Fr 25 [(0, .int .i64 (m : Int)), (3, v), (4, .int .i64 (q : Int))] a ∧ w2 = w3 ∧ m ≤ n ∧ DivOut M m q l2) (n) ?_ ?_
        · skip
          exact ⟨hF, rfl, Nat.le_refl _, hd2⟩
        · skip
          clear hF
          rintro m a _ ⟨hF, rfl, hmn, hd2⟩
          refine W_seq ?_
          refine W_sr rfl (fun K hK => ?_)
          refine sv hF (v_move rfl) rfl ?_; clear hF a; intro a hF
          refine sv hF (v_move rfl) rfl ?_; clear hF a; intro a hF
          refine sv hF (v_remI rfl rfl (by omega) (by omega)) rfl ?_; clear hF a; intro a hF
          refine sv hF (v_eql rfl rfl) rfl ?_; clear hF a; intro a hF
          refine WL_nil (hK _ _ ?_)
          clear hK K
          replace hF := hF.sub _ (c_ 20 rfl (c_ 0 rfl (c_ 3 rfl (c_ 4 rfl (n_)))))
          refine W_if hF rfl (fun hc3 => ?_) (fun hc3 => ?_)
          · skip
            try simp only [decide_eq_true_eq, decide_eq_false_iff_not, Bool.not_eq_true', Bool.not_eq_false', Bool.not_true, Bool.not_false] at hc3
            have hst := divOut_step hd2 (mod_dvd hc3)
            refine W_skip ?_
            refine W_block ?_
            refine W_reg rfl (fun K hK => ?_)
            refine sv hF (v_move rfl) rfl ?_; clear hF a; intro a hF
            refine sv hF (v_move rfl) rfl ?_; clear hF a; intro a hF
            refine sv hF (v_quoN (m := m) (n := q) rfl rfl (by omega) (fits_i64 (by omega))) rfl ?_; clear hF a; intro a hF
            refine sv hF (v_assign rfl) rfl ?_; clear hF a; intro a hF
            refine WL_nil (hK _ _ ?_)
            clear hK K
            replace hF := hF.sub _ (c_ 0 rfl (c_ 3 rfl (c_ 4 rfl (n_))))
            exact ⟨_, hst.2, hF.sub _ (c_ 0 rfl (c_ 3 rfl (c_ 4 rfl n_))), rfl, by omega, hst.1⟩
          · skip
            try simp only [decide_eq_true_eq, decide_eq_false_iff_not, Bool.not_eq_true', Bool.not_eq_false', Bool.not_true, Bool.not_false] at hc3
            have hd3 := divOut_end hd2 (mod_ndvd hc3)
            refine W_exit rfl ?_
            refine W_reg rfl (fun K hK => ?_)
            refine sv hF (v_move rfl) rfl ?_; clear hF a; intro a hF
            refine sv hF (v_addI rfl rfl (by omega)) rfl ?_; clear hF a; intro a hF
            refine sv hF (v_assign rfl) rfl ?_; clear hF a; intro a hF
            refine WL_nil (hK _ _ ?_)
            clear hK K
            replace hF := hF.sub _ (c_ 4 rfl (c_ 8 rfl (c_ 7 rfl (c_ 0 rfl (c_ 3 rfl (n_))))))
            exact ⟨_, by omega, m, q + 1, _, _, _, hF.sub _ (c_ 0 rfl (c_ 3 rfl (c_ 4 rfl n_))), hS, ho, hd3, by omega, rfl⟩
    · skip
      try simp only [decide_eq_true_eq, decide_eq_false_iff_not, Bool.not_eq_true', Bool.not_eq_false', Bool.not_true, Bool.not_false] at hc1
      refine W_exit rfl ?_
      refine W_sr rfl (fun K hK => ?_)
      refine sv hF (v_move rfl) rfl ?_; clear hF a; intro a hF
      refine sv hF (v_assign rfl) rfl ?_; clear hF a; intro a hF
      refine WL_nil (hK _ _ ?_)
      clear hK K
      replace hF := hF.sub _ (c_ 2 rfl (c_ 24 rfl (c_ 0 rfl (c_ 3 rfl (c_ 4 rfl (n_))))))
      refine W_ret ?_
      refine ⟨_, _, hF, rfl, ?_⟩
      exact ⟨l, ho.row (by decide), ⟨hd.mem, divAt_end hd (by omega), fun r hr => Nat.lt_of_le_of_lt (Nat.le_of_dvd (by omega) (hd.mem r hr).2) hM2, by have := hd.len; omega⟩, hS⟩

set_option maxRecDepth 100000 in
set_option maxHeartbeats 1000000 in
theorem prim_ok (B p : Nat) (w : World) (hI : Inv FDx B w) (hp : p < 4294967296) : Ret Tryz.prog 52 [.int .u32 (p : Int)] w fun v w' => v = .bool (prim p) ∧ St FDx B w w'  := by
  refine enter 33 [(0, .int .u32 (p : Int))] 2 Tryz.func52 rfl rfl rfl rfl rfl ?_; intro a hF
  have hS := St.refl hI
  refine W_sr rfl (fun K hK => ?_)
  refine sv hF (v_assign rfl) rfl ?_; clear hF a; intro a hF
  refine WL_nil (hK _ _ ?_)
  clear hK K
  refine W_seq ?_
  refine W_sr rfl (fun K hK => ?_)
  refine sv hF (v_move rfl) rfl ?_; clear hF a; intro a hF
  refine sc hF rfl rfl rfl en75 rfl (irr_ok B p _ hS.inv hp) ?_; clear hF a; intro v w' a hv hF
  obtain ⟨rfl, hS'⟩ := hv
  replace hS := hS.trans hS'
  clear hS'
  refine sb hF (v_not rfl) rfl ?_ ?_
  · clear hF a; intro hc1 a hF
    try simp only [decide_eq_true_eq, decide_eq_false_iff_not, Bool.not_eq_true', Bool.not_eq_false', Bool.not_true, Bool.not_false] at hc1
    refine sv hF (v_move rfl) rfl ?_; clear hF a; intro a hF
    refine svn hF rfl rfl rfl ?_; clear hF a; intro a hF
    refine svn hF rfl rfl rfl ?_; clear hF a; intro a hF
    refine svn hF rfl rfl rfl ?_; clear hF a; intro a hF
    refine sv hF (v_pickT rfl rfl) rfl ?_; clear hF a; intro a hF
    refine WL_nil (hK _ _ ?_)
    clear hK K
    replace hF := hF.sub _ (c_ 13 rfl (c_ 2 rfl (c_ 0 rfl (n_))))
    refine W_ifT hF rfl ?_
    refine W_sr rfl (fun K hK => ?_)
    refine sv hF (v_assign rfl) rfl ?_; clear hF a; intro a hF
    refine WL_nil (hK _ _ ?_)
    clear hK K
    replace hF := hF.sub _ (c_ 2 rfl (c_ 0 rfl (n_)))
    refine W_ret ?_
    refine ⟨_, _, hF, rfl, ?_⟩
    first
    | exact ⟨congrArg _ (prim_f1 (by assumption)).symm, hS⟩
    | exact ⟨congrArg _ (prim_f2 (p := p) (by omega)).symm, hS⟩
    | exact ⟨congrArg _ hbad.symm, hS⟩
    | exact ⟨congrArg _ hgood.symm, hS⟩
  · clear hF a; intro hc1 a hF
    try simp only [decide_eq_true_eq, decide_eq_false_iff_not, Bool.not_eq_true', Bool.not_eq_false', Bool.not_true, Bool.not_false] at hc1
    refine sv hF (v_move rfl) rfl ?_; clear hF a; intro a hF
    refine svg hF rfl ?_
    refine sv hF (v_move rfl) rfl ?_; clear hF a; intro a hF
    refine svg hF rfl ?_
    refine sc hF rfl rfl rfl en76 rfl (Mod_ok B 2 p _ hS.inv (by decide) hp) ?_; clear hF a; intro v w' a hv hF
    obtain ⟨rfl, hS'⟩ := hv
    replace hS := hS.trans hS'
    clear hS'
    refine svg hF rfl ?_
    refine sv hF (v_eql rfl rfl) rfl ?_; clear hF a; intro a hF
    refine sv hF (v_pickF rfl rfl) rfl ?_; clear hF a; intro a hF
    refine WL_nil (hK _ _ ?_)
    clear hK K
    replace hF := hF.sub _ (c_ 13 rfl (c_ 2 rfl (c_ 0 rfl (n_))))
    refine W_if hF rfl (fun hc2 => ?_) (fun hc2 => ?_)
    · skip
      try simp only [decide_eq_true_eq, decide_eq_false_iff_not, Bool.not_eq_true', Bool.not_eq_false', Bool.not_true, Bool.not_false] at hc2
      refine W_sr rfl (fun K hK => ?_)
      refine sv hF (v_assign rfl) rfl ?_; clear hF a; intro a hF
      refine WL_nil (hK _ _ ?_)
      clear hK K
      replace hF := hF.sub _ (c_ 2 rfl (c_ 0 rfl (n_)))
      refine W_ret ?_
      refine ⟨_, _, hF, rfl, ?_⟩
      first
      | exact ⟨congrArg _ (prim_f1 (by assumption)).symm, hS⟩
      | exact ⟨congrArg _ (prim_f2 (p := p) (by omega)).symm, hS⟩
      | exact ⟨congrArg _ hbad.symm, hS⟩
      | exact ⟨congrArg _ hgood.symm, hS⟩
    · skip
      try simp only [decide_eq_true_eq, decide_eq_false_iff_not, Bool.not_eq_true', Bool.not_eq_false', Bool.not_true, Bool.not_false] at hc2
      refine W_skip ?_
      have hr := irr_range hc1
      have hp0 : p ≠ 0 := by omega
      have hl := log2_lt hp0 (k := 17) (by omega)
      have hl1 := log2_pos hr.1
      have hpw : 2 ^ Nat.log2 p ≤ 65536 := Nat.pow_le_pow_right (n := 2) (by decide) (show Nat.log2 p ≤ 16 by omega)
      have hpw1 : 2 ≤ 2 ^ Nat.log2 p := Nat.pow_le_pow_right (n := 2) (by decide) hl1
      refine W_sr rfl (fun K hK => ?_)
      refine sv hF (v_move rfl) rfl ?_; clear hF a; intro a hF
      refine sv hF (v_cv Tryz.underlying27 Tryz.underlying75 rfl (wrap_u64 _ (by omega))) rfl ?_; clear hF a; intro a hF
      refine sc hF rfl rfl rfl en51 rfl (Deg_ok B p _ hS.inv (by omega)) ?_; clear hF a; intro v w' a hv hF
      obtain ⟨rfl, hS'⟩ := hv
      replace hS := hS.trans hS'
      clear hS'
      rw [deg_pos hp0] at hF
      refine sv hF ((v_shl rfl rfl (by omega)).as (congrArg _ (shl_one (by omega)))) rfl ?_; clear hF a; intro a hF
      refine sv hF (v_subN (n := 1) rfl rfl (by omega) (by omega)) rfl ?_; clear hF a; intro a hF
      refine sv hF (v_assign rfl) rfl ?_; clear hF a; intro a hF
      refine WL_nil (hK _ _ ?_)
      clear hK K
      replace hF := hF.sub _ (c_ 3 rfl (c_ 2 rfl (c_ 0 rfl (n_))))
      generalize hN : 2 ^ Nat.log2 p - 1 = N at *
      have hN1 : 1 ≤ N := by omega
      have hN2 : N < 65536 := by omega
      refine W_seq ?_
      refine W_sr rfl (fun K hK => ?_)
      refine sv hF (v_move rfl) rfl ?_; clear hF a; intro a hF
      refine sc hF rfl rfl rfl en77 rfl (divs_ok B N _ hS.inv hN1 hN2) ?_; clear hF a; intro v w' a hv hF
      obtain ⟨l, hrow, ⟨hl1, hl2, hl3, hl4⟩, hS'⟩ := hv
      obtain ⟨sa, cp, rfl⟩ := hrow.sl
      replace hS := hS.trans hS'
      clear hS'
      refine sv hF (v_lenS rfl sl23 rfl) rfl ?_; clear hF a; intro a hF
      refine sv hF (v_move rfl) rfl ?_; clear hF a; intro a hF
      refine WL_nil (hK _ _ ?_)
      clear hK K
      replace hF := hF.sub _ (c_ 22 rfl (c_ 21 rfl (c_ 20 rfl (c_ 3 rfl (c_ 2 rfl (c_ 0 rfl (n_)))))))
      generalize w'.heap.size = M0 at hrow
      rw [ints_length] at hF hrow
      subst hN
      refine W_block ?_
      refine W_loop (fun m a w1 => ∃ i : Nat, Fr 33 [(0, .int .u32 (p : Int)), (3, .int .i64 ((2 ^ Nat.log2 p - 1 : Nat) : Int)), (20, .slice sa l.length cp), (21, .int .i64 (l.length : Int)), (22, .int .i64 (i : Int))] a ∧ St FDx B w w1 ∧ Row FDx B M0 w1 (.slice sa l.length cp) (ints l) ∧ i ≤ l.length ∧ (∀ j q, j < i → l[j]? = some q → Px.pow 2 p ((2 ^ Nat.log2 p - 1) / q) ≠ 1) ∧ m = l.length - i) (l.length) ?_ ?_
      · skip
        exact ⟨0, hF.sub _ (c_ 0 rfl (c_ 3 rfl (c_ 20 rfl (c_ 21 rfl (c_ 22 rfl n_))))), hS, hrow, by omega, fun j q hj => by omega, by omega⟩
      · skip
        clear hF
        clear hS hrow
        rintro m a w1 ⟨i, hF, hS, hrow, hi, hall, rfl⟩
        refine W_sr rfl (fun K hK => ?_)
        refine sv hF (v_lss rfl rfl) rfl ?_; clear hF a; intro a hF
        refine WL_nil (hK _ _ ?_)
        clear hK K
        refine W_seq ?_
        refine W_if hF rfl (fun hc3 => ?_) (fun hc3 => ?_)
        · skip
          try simp only [decide_eq_true_eq, decide_eq_false_iff_not, Bool.not_eq_true', Bool.not_eq_false', Bool.not_true, Bool.not_false] at hc3
          obtain ⟨q, hq⟩ : ∃ q, l[i]? = some q := ⟨_, List.getElem?_eq_getElem (by omega)⟩
          obtain ⟨-, g, o, rfl, hcell⟩ := hrow.at (ints_at hq)
          have hqm := List.mem_of_getElem? hq
          have hq2 := hl1 q hqm
          refine W_skip ?_
          refine W_seq ?_
          refine W_block ?_
          refine W_sr rfl (fun K hK => ?_)
          refine sv hF (v_ixS sl23 rfl rfl (by omega) (by omega)) rfl ?_; clear hF a; intro a hF
          refine sv hF (v_load sc3 rfl (by first | assumption | (rw [toNat_c]; assumption) | exact KC.c (by assumption) | (rw [toNat_c]; exact KC.c (by assumption)) | exact Box.at (by assumption))) rfl ?_; clear hF a; intro a hF
          refine sv hF (v_assign rfl) rfl ?_; clear hF a; intro a hF
          refine WL_nil (hK _ _ ?_)
          clear hK K
          replace hF := hF.sub _ (c_ 5 rfl (c_ 0 rfl (c_ 3 rfl (c_ 20 rfl (c_ 21 rfl (c_ 22 rfl (n_)))))))
          refine W_sr rfl (fun K hK => ?_)
          refine sv hF (v_move rfl) rfl ?_; clear hF a; intro a hF
          refine sv hF (v_move rfl) rfl ?_; clear hF a; intro a hF
          refine sv hF (v_quoN (m := 2 ^ Nat.log2 p - 1) (n := q) rfl rfl (by omega) (fits_i64 (by omega))) rfl ?_; clear hF a; intro a hF
          refine sv hF (v_move rfl) rfl ?_; clear hF a; intro a hF
          refine sc hF rfl rfl rfl en78 rfl (power_ok B 2 ((2 ^ Nat.log2 p - 1) / q) p _ hS.inv (by decide) (by have := Nat.div_le_self (2 ^ Nat.log2 p - 1) q; omega) hp) ?_; clear hF a; intro v w' a hv hF
          obtain ⟨rfl, hS'⟩ := hv
          have hS1 := hS'
          replace hS := hS.trans hS'
          clear hS'
          rw [powB_one] at hF
          replace hrow := hrow.st hS1
          refine sv hF (v_eql rfl rfl) rfl ?_; clear hF a; intro a hF
          refine WL_nil (hK _ _ ?_)
          clear hK K
          replace hF := hF.sub _ (c_ 31 rfl (c_ 0 rfl (c_ 3 rfl (c_ 20 rfl (c_ 21 rfl (c_ 22 rfl (n_)))))))
          refine W_if hF rfl (fun hc4 => ?_) (fun hc4 => ?_)
          · skip
            try simp only [decide_eq_true_eq, decide_eq_false_iff_not, Bool.not_eq_true', Bool.not_eq_false', Bool.not_true, Bool.not_false] at hc4
            have hbad := prim_f3 hq2.1 hq2.2 (by omega)
            refine W_sr rfl (fun K hK => ?_)
            refine sv hF (v_assign rfl) rfl ?_; clear hF a; intro a hF
            refine WL_nil (hK _ _ ?_)
            clear hK K
            replace hF := hF.sub _ (c_ 2 rfl (c_ 0 rfl (c_ 3 rfl (c_ 20 rfl (c_ 21 rfl (c_ 22 rfl (n_)))))))
            refine W_ret ?_
            refine ⟨_, _, hF, rfl, ?_⟩
            first
            | exact ⟨congrArg _ (prim_f1 (by assumption)).symm, hS⟩
            | exact ⟨congrArg _ (prim_f2 (p := p) (by omega)).symm, hS⟩
            | exact ⟨congrArg _ hbad.symm, hS⟩
            | exact ⟨congrArg _ hgood.symm, hS⟩
          · skip
            try simp only [decide_eq_true_eq, decide_eq_false_iff_not, Bool.not_eq_true', Bool.not_eq_false', Bool.not_true, Bool.not_false] at hc4
            have hall2 : ∀ j r, j < i + 1 → l[j]? = some r → Px.pow 2 p ((2 ^ Nat.log2 p - 1) / r) ≠ 1 := fun j r hj hr => by
              by_cases h9 : j < i
              · exact hall j r h9 hr
              · obtain rfl : j = i := by omega
                rw [hq] at hr
                obtain rfl := Option.some.inj hr
                omega
            refine W_skip ?_
            refine W_reg rfl (fun K hK => ?_)
            refine sv hF (v_addI rfl rfl (by omega)) rfl ?_; clear hF a; intro a hF
            refine sv hF (v_move rfl) rfl ?_; clear hF a; intro a hF
            refine WL_nil (hK _ _ ?_)
            clear hK K
            replace hF := hF.sub _ (c_ 22 rfl (c_ 32 rfl (c_ 0 rfl (c_ 3 rfl (c_ 20 rfl (c_ 21 rfl (n_)))))))
            exact ⟨l.length - (i + 1), by omega, i + 1, hF.sub _ (c_ 0 rfl (c_ 3 rfl (c_ 20 rfl (c_ 21 rfl (c_ 22 rfl n_))))), hS, hrow, by omega, hall2, rfl⟩
        · skip
          try simp only [decide_eq_true_eq, decide_eq_false_iff_not, Bool.not_eq_true', Bool.not_eq_false', Bool.not_true, Bool.not_false] at hc3
          have hgood := prim_list hc1 (by omega) hl1 hl2 (fun q hq => by
            obtain ⟨j, hj, e⟩ := List.getElem_of_mem hq
            exact hall j q (by omega) (by rw [List.getElem?_eq_getElem hj, e]))
          refine W_exit rfl ?_
          refine W_sr rfl (fun K hK => ?_)
          refine sv hF (v_assign rfl) rfl ?_; clear hF a; intro a hF
          refine WL_nil (hK _ _ ?_)
          clear hK K
          replace hF := hF.sub _ (c_ 2 rfl (c_ 0 rfl (c_ 3 rfl (c_ 20 rfl (c_ 21 rfl (c_ 22 rfl (n_)))))))
          refine W_ret ?_
          refine ⟨_, _, hF, rfl, ?_⟩
          first
          | exact ⟨congrArg _ (prim_f1 (by assumption)).symm, hS⟩
          | exact ⟨congrArg _ (prim_f2 (p := p) (by omega)).symm, hS⟩
          | exact ⟨congrArg _ hbad.symm, hS⟩
          | exact ⟨congrArg _ hgood.symm, hS⟩

end Go.Proofs.YtcnlooajjnghaaaGreat
