/- The walks of package gf: fields. -/
import Derived.Test.YtcnlooajjnghaaaGreatFPoly
import Derived.Test.YtcnlooajjnghaaaGreatGTab
import Derived.Test.YtcnlooajjnghaaaGreatSync
set_option linter.unusedVariables false
set_option linter.unusedSimpArgs false
namespace Go.Proofs.YtcnlooajjnghaaaGreat
open Go Go.Gam


namespace FxFGf
theorem en37 : Ent Tryz.prog 37 := ent Tryz.func37 (by kernel_rfl) (by kernel_rfl)
theorem en51 : Ent Tryz.prog 51 := ent Tryz.func51 (by kernel_rfl) (by kernel_rfl)
theorem en52 : Ent Tryz.prog 52 := ent Tryz.func52 (by kernel_rfl) (by kernel_rfl)
theorem en80 : Ent Tryz.prog 80 := ent Tryz.func80 (by kernel_rfl) (by kernel_rfl)
theorem fa89_1 : FieldFact Tryz.prog 89 1 3 := ff_of (sz := 0) Tryz.underlying89 (by kernel_rfl)
theorem fa89_2 : FieldFact Tryz.prog 89 2 4 := ff_of (sz := 0) Tryz.underlying89 (by kernel_rfl)
theorem fa91_0 : FieldFact Tryz.prog 91 0 0 := ff_of (sz := 0) Tryz.underlying91 (by kernel_rfl)
theorem fa91_1 : FieldFact Tryz.prog 91 1 1 := ff_of (sz := 0) Tryz.underlying91 (by kernel_rfl)
theorem fa91_2 : FieldFact Tryz.prog 91 2 2 := ff_of (sz := 4) Tryz.underlying91 (by kernel_rfl)
theorem hmix : Tryz.prog.follows .mixedOrders = true := by kernel_rfl
theorem on23 : Gam.One Tryz.prog 23 := by unfold Gam.One; kernel_rfl
theorem on3 : Gam.One Tryz.prog 3 := by unfold Gam.One; kernel_rfl
theorem sc23 : Scalar Tryz.prog 23 := ⟨_, Tryz.underlying23, by simp, by simp⟩
theorem sc26 : Scalar Tryz.prog 26 := ⟨_, Tryz.underlying26, by simp, by simp⟩
theorem sc27 : Scalar Tryz.prog 27 := ⟨_, Tryz.underlying27, by simp, by simp⟩
theorem sc3 : Scalar Tryz.prog 3 := ⟨_, Tryz.underlying3, by simp, by simp⟩
theorem sl23 : Sl Tryz.prog 23 3 (.int .i64 0) 8 := sl_of Tryz.underlying23 rfl (by kernel_rfl)
end FxFGf
open FxFGf

theorem v_newField {T : TypeId} {F : Fs} {w : World} {x y : Operand} {wb p : Nat} (hx : ev F x = some (.int .i64 (wb : Int))) (hy : ev F y = some (.int .u32 (p : Int))) :
    Val Tryz.prog (.build 91 #[(0, x), (1, y)]) T F w (.agg (fcells wb p 0 (.slice none 0 0) (.slice none 0 0))) :=
  fun ρ h d pp af g => by
    simp only [execOp, List.map_toArray, List.map_cons, List.map_nil, h x _ hx, h y _ hy]
    kernel_rfl
theorem nil_ne (a : Addr) : (some a : Option Addr).isNone = false := rfl

theorem toI (m : Nat) : ((m : Nat) : Int) = (m : Int) := rfl

set_option maxRecDepth 100000 in
set_option maxHeartbeats 1000000 in
theorem Size_nil (w : World) : Ret Tryz.prog 37 [.pointer none] w fun v w' => v = .int .i64 0 ∧ w' = w := by
  refine enter 10 [(0, .pointer none)] 2 Tryz.func37 rfl rfl rfl rfl rfl ?_; intro a hF
  refine W_sr rfl (fun K hK => ?_)
  refine sv hF (v_assign rfl) rfl ?_; clear hF a; intro a hF
  refine WL_nil (hK _ _ ?_)
  clear hK K
  refine W_seq ?_
  refine W_sr rfl (fun K hK => ?_)
  refine sv hF (v_move rfl) rfl ?_; clear hF a; intro a hF
  refine sv hF ((v_eqlNil (by exact Tryz.underlying26) rfl rfl).as (congrArg Value.bool (rfl))) rfl ?_; clear hF a; intro a hF
  refine WL_nil (hK _ _ ?_)
  clear hK K
  replace hF := hF.sub _ (c_ 4 rfl (c_ 2 rfl (c_ 0 rfl (n_))))
  refine W_ifT hF rfl ?_
  refine W_sr rfl (fun K hK => ?_)
  refine sv hF (v_assign rfl) rfl ?_; clear hF a; intro a hF
  refine WL_nil (hK _ _ ?_)
  clear hK K
  replace hF := hF.sub _ (c_ 2 rfl (c_ 0 rfl (n_)))
  refine W_ret ?_
  refine ⟨_, _, hF, rfl, ?_⟩
  exact ⟨rfl, rfl⟩

set_option maxRecDepth 100000 in
set_option maxHeartbeats 1000000 in
theorem Size_some (k wb : Nat) (w : World) (hw0 : w.cell? ⟨k, 0, none⟩ = some (.int .i64 (wb : Int))) (hwb : wb ≤ 62) : Ret Tryz.prog 37 [.pointer (some ⟨k, 0, none⟩)] w fun v w' => v = .int .i64 ((2 ^ wb : Nat) : Int) ∧ w' = w := by
  refine enter 10 [(0, .pointer (some ⟨k, 0, none⟩))] 2 Tryz.func37 rfl rfl rfl rfl rfl ?_; intro a hF
  refine W_sr rfl (fun K hK => ?_)
  refine sv hF (v_assign rfl) rfl ?_; clear hF a; intro a hF
  refine WL_nil (hK _ _ ?_)
  clear hK K
  refine W_seq ?_
  refine W_sr rfl (fun K hK => ?_)
  refine sv hF (v_move rfl) rfl ?_; clear hF a; intro a hF
  refine sv hF ((v_eqlNil (by exact Tryz.underlying26) rfl rfl).as (congrArg Value.bool (rfl))) rfl ?_; clear hF a; intro a hF
  refine WL_nil (hK _ _ ?_)
  clear hK K
  replace hF := hF.sub _ (c_ 4 rfl (c_ 2 rfl (c_ 0 rfl (n_))))
  refine W_ifF hF rfl ?_
  refine W_skip ?_
  refine W_sr rfl (fun K hK => ?_)
  refine sv hF (v_move rfl) rfl ?_; clear hF a; intro a hF
  refine sv hF (v_nil rfl) rfl ?_; clear hF a; intro a hF
  refine sv hF (v_fieldAddr fa91_0 rfl) rfl ?_; clear hF a; intro a hF
  refine sv hF (v_load sc3 rfl (by first | assumption | (rw [toNat_c]; assumption) | exact KC.c (by assumption) | (rw [toNat_c]; exact KC.c (by assumption)) | exact Box.at (by assumption))) rfl ?_; clear hF a; intro a hF
  refine sv hF ((v_shl rfl rfl (by omega)).as (congrArg _ (shl_i64 hwb))) rfl ?_; clear hF a; intro a hF
  refine sv hF (v_assign rfl) rfl ?_; clear hF a; intro a hF
  refine WL_nil (hK _ _ ?_)
  clear hK K
  replace hF := hF.sub _ (c_ 2 rfl (n_))
  refine W_ret ?_
  refine ⟨_, _, hF, rfl, ?_⟩
  exact ⟨rfl, rfl⟩

theorem Size_ok (B : Nat) (o : Fq) (fv : Value) (w : World) (hf : Fo FDx B w fv o) : Ret Tryz.prog 37 [fv] w fun v w' => v = .int .i64 (fsz o : Int) ∧ w' = w := by
  cases o with
  | none => obtain rfl : fv = .pointer none := hf; exact Size_nil w
  | some q => obtain ⟨h1, k, rfl, h2⟩ := hf; exact Size_some k q.1 w h2.w0 (by have := h1.w; omega)
def fbits : Fq → Nat
  | none => 0
  | some q => q.1

set_option maxRecDepth 100000 in
set_option maxHeartbeats 1000000 in
theorem in_ok (B : Nat) (o : Fq) (fv : Value) (sa : Option Addr) (cp : Nat) (zs : List Int) (w : World) (hI : Inv FDx B w) (hf : Fo FDx B w fv o) (hz : zs.length < 4294967296) (hr : ∀ (i : Nat) (z : Int), zs[i]? = some z → ∃ g o, sa = some ⟨g, o, none⟩ ∧ w.cell? ⟨g, o + i, none⟩ = some (.int .i64 z)) : Ret Tryz.prog 69 [fv, .slice sa zs.length cp] w fun v w' => v = .bool (zs.all (inF o)) ∧ w' = w := by
  refine enter 22 [(0, fv), (1, .slice sa zs.length cp)] 4 Tryz.func69 rfl rfl rfl rfl rfl ?_; intro a hF
  have hS := St.refl hI
  refine W_sr rfl (fun K hK => ?_)
  refine sv hF (v_assign rfl) rfl ?_; clear hF a; intro a hF
  refine WL_nil (hK _ _ ?_)
  clear hK K
  refine W_seq ?_
  refine W_sr rfl (fun K hK => ?_)
  refine sv hF (v_move rfl) rfl ?_; clear hF a; intro a hF
  refine sv hF (v_lenS rfl sl23 rfl) rfl ?_; clear hF a; intro a hF
  refine sv hF (v_move rfl) rfl ?_; clear hF a; intro a hF
  refine WL_nil (hK _ _ ?_)
  clear hK K
  replace hF := hF.sub _ (c_ 9 rfl (c_ 8 rfl (c_ 7 rfl (c_ 4 rfl (c_ 0 rfl (n_))))))
  refine W_block ?_
  refine W_loop (fun m a w1 => ∃ i : Nat, Fr 22 [(0, fv), (7, .slice sa zs.length cp), (8, .int .i64 (zs.length : Int)), (9, .int .i64 (i : Int))] a ∧ w = w1 ∧ i ≤ zs.length ∧ (zs.take i).all (inF o) = true ∧ m + i = zs.length) (zs.length) ?_ ?_
  · skip
    exact ⟨0, hF.sub _ (c_ 0 rfl (c_ 7 rfl (c_ 8 rfl (c_ 9 rfl n_)))), rfl, by omega, rfl, by omega⟩
  · skip
    clear hF
    rintro m a _ ⟨i, hF, rfl, hi, hall, hm⟩
    refine W_sr rfl (fun K hK => ?_)
    refine sv hF (v_lss rfl rfl) rfl ?_; clear hF a; intro a hF
    refine WL_nil (hK _ _ ?_)
    clear hK K
    refine W_seq ?_
    refine W_if hF rfl (fun hc1 => ?_) (fun hc1 => ?_)
    · skip
      try simp only [decide_eq_true_eq, decide_eq_false_iff_not, Bool.not_eq_true', Bool.not_eq_false', Bool.not_true, Bool.not_false] at hc1
      have hlt : i < zs.length := by omega
      obtain ⟨g, oo, rfl, hc⟩ := hr i _ (List.getElem?_eq_getElem hlt)
      generalize hzi : zs[i] = z at hc
      refine W_skip ?_
      refine W_seq ?_
      refine W_block ?_
      refine W_sr rfl (fun K hK => ?_)
      refine sv hF (v_ixS sl23 rfl rfl (by omega) (by omega)) rfl ?_; clear hF a; intro a hF
      refine sv hF (v_load sc3 rfl (by first | assumption | (rw [toNat_c]; assumption) | exact KC.c (by assumption) | (rw [toNat_c]; exact KC.c (by assumption)) | exact Box.at (by assumption))) rfl ?_; clear hF a; intro a hF
      refine sv hF (v_assign rfl) rfl ?_; clear hF a; intro a hF
      refine WL_nil (hK _ _ ?_)
      clear hK K
      replace hF := hF.sub _ (c_ 6 rfl (c_ 0 rfl (c_ 7 rfl (c_ 8 rfl (c_ 9 rfl (n_))))))
      refine W_sr rfl (fun K hK => ?_)
      refine sv hF (v_move rfl) rfl ?_; clear hF a; intro a hF
      refine sb hF (v_lss rfl rfl) rfl ?_ ?_
      · clear hF a; intro hc2 a hF
        try simp only [decide_eq_true_eq, decide_eq_false_iff_not, Bool.not_eq_true', Bool.not_eq_false', Bool.not_true, Bool.not_false] at hc2
        refine sv hF (v_move rfl) rfl ?_; clear hF a; intro a hF
        refine svn hF rfl rfl rfl ?_; clear hF a; intro a hF
        refine svn hF rfl rfl rfl ?_; clear hF a; intro a hF
        refine svn hF rfl rfl rfl ?_; clear hF a; intro a hF
        refine svn hF rfl rfl rfl ?_; clear hF a; intro a hF
        refine sv hF (v_pickT rfl rfl) rfl ?_; clear hF a; intro a hF
        refine WL_nil (hK _ _ ?_)
        clear hK K
        replace hF := hF.sub _ (c_ 20 rfl (c_ 0 rfl (c_ 7 rfl (c_ 8 rfl (c_ 9 rfl (n_))))))
        refine W_ifT hF rfl ?_
        refine W_sr rfl (fun K hK => ?_)
        refine sv hF (v_assign rfl) rfl ?_; clear hF a; intro a hF
        refine WL_nil (hK _ _ ?_)
        clear hK K
        replace hF := hF.sub _ (c_ 4 rfl (c_ 0 rfl (c_ 7 rfl (c_ 8 rfl (c_ 9 rfl (n_))))))
        refine W_ret ?_
        refine ⟨_, _, hF, rfl, ?_⟩
        refine ⟨congrArg _ (Eq.symm ?_), rfl⟩
        rw [List.all_eq_false]
        exact ⟨z, hzi ▸ List.getElem_mem hlt, by unfold inF; simp; omega⟩
      · clear hF a; intro hc2 a hF
        try simp only [decide_eq_true_eq, decide_eq_false_iff_not, Bool.not_eq_true', Bool.not_eq_false', Bool.not_true, Bool.not_false] at hc2
        refine sv hF (v_move rfl) rfl ?_; clear hF a; intro a hF
        refine svg hF rfl ?_
        refine sv hF (v_move rfl) rfl ?_; clear hF a; intro a hF
        refine svg hF rfl ?_
        refine sv hF (v_move rfl) rfl ?_; clear hF a; intro a hF
        refine svg hF rfl ?_
        refine sc hF rfl rfl rfl en37 rfl (Size_ok B o fv _ hf) ?_; clear hF a; intro v w' a hv hF
        obtain ⟨rfl, rfl⟩ := hv
        have hS' := St.refl hS.inv
        replace hS := hS.trans hS'
        clear hS'
        refine svg hF rfl ?_
        refine sv hF (v_geq rfl rfl) rfl ?_; clear hF a; intro a hF
        refine sv hF (v_pickF rfl rfl) rfl ?_; clear hF a; intro a hF
        refine WL_nil (hK _ _ ?_)
        clear hK K
        replace hF := hF.sub _ (c_ 20 rfl (c_ 0 rfl (c_ 7 rfl (c_ 8 rfl (c_ 9 rfl (n_))))))
        refine W_if hF rfl (fun hc3 => ?_) (fun hc3 => ?_)
        · skip
          try simp only [decide_eq_true_eq, decide_eq_false_iff_not, Bool.not_eq_true', Bool.not_eq_false', Bool.not_true, Bool.not_false] at hc3
          refine W_sr rfl (fun K hK => ?_)
          refine sv hF (v_assign rfl) rfl ?_; clear hF a; intro a hF
          refine WL_nil (hK _ _ ?_)
          clear hK K
          replace hF := hF.sub _ (c_ 4 rfl (c_ 0 rfl (c_ 7 rfl (c_ 8 rfl (c_ 9 rfl (n_))))))
          refine W_ret ?_
          refine ⟨_, _, hF, rfl, ?_⟩
          refine ⟨congrArg _ (Eq.symm ?_), rfl⟩
          rw [List.all_eq_false]
          exact ⟨z, hzi ▸ List.getElem_mem hlt, by unfold inF; simp; omega⟩
        · skip
          try simp only [decide_eq_true_eq, decide_eq_false_iff_not, Bool.not_eq_true', Bool.not_eq_false', Bool.not_true, Bool.not_false] at hc3
          refine W_skip ?_
          refine W_reg rfl (fun K hK => ?_)
          refine sv hF (v_addI rfl rfl (by omega)) rfl ?_; clear hF a; intro a hF
          refine sv hF (v_move rfl) rfl ?_; clear hF a; intro a hF
          refine WL_nil (hK _ _ ?_)
          clear hK K
          replace hF := hF.sub _ (c_ 9 rfl (c_ 21 rfl (c_ 0 rfl (c_ 7 rfl (c_ 8 rfl (n_))))))
          refine ⟨m - 1, by omega, i + 1, hF.sub _ (c_ 0 rfl (c_ 7 rfl (c_ 8 rfl (c_ 9 rfl n_)))), rfl, by omega, ?_, by omega⟩
          rw [List.take_succ_eq_append_getElem hlt, List.all_append, hall, hzi]
          simp [inF]; omega
    · skip
      try simp only [decide_eq_true_eq, decide_eq_false_iff_not, Bool.not_eq_true', Bool.not_eq_false', Bool.not_true, Bool.not_false] at hc1
      refine W_exit rfl ?_
      refine W_sr rfl (fun K hK => ?_)
      refine sv hF (v_assign rfl) rfl ?_; clear hF a; intro a hF
      refine WL_nil (hK _ _ ?_)
      clear hK K
      replace hF := hF.sub _ (c_ 4 rfl (c_ 0 rfl (c_ 7 rfl (c_ 8 rfl (c_ 9 rfl (n_))))))
      refine W_ret ?_
      refine ⟨_, _, hF, rfl, ?_⟩
      obtain rfl : i = zs.length := by omega
      rw [List.take_length] at hall
      exact ⟨congrArg _ hall.symm, rfl⟩

set_option maxRecDepth 100000 in
set_option maxHeartbeats 1000000 in
theorem New_ok (B : Nat) (W : Int) (p : Nat) (w : World) (hI : Inv FDx B w) (hW : -9223372036854775808 ≤ W ∧ W < 9223372036854775808) (hp : p < 4294967296) : Ret Tryz.prog 25 [.int .i64 W, .int .u32 (p : Int)] w fun v w' => Fo FDx B w' v (newF W p) ∧ St FDx B w w' := by
  refine enter 27 [(0, .int .i64 W), (1, .int .u32 (p : Int))] 4 Tryz.func25 rfl rfl rfl rfl rfl ?_; intro a hF
  have hS := St.refl hI
  refine W_sr rfl (fun K hK => ?_)
  refine sv hF (v_assign rfl) rfl ?_; clear hF a; intro a hF
  refine WL_nil (hK _ _ ?_)
  clear hK K
  refine W_seq ?_
  refine W_sr rfl (fun K hK => ?_)
  refine sv hF (v_move rfl) rfl ?_; clear hF a; intro a hF
  refine sb hF (v_neq rfl rfl) rfl ?_ ?_
  · clear hF a; intro hc1 a hF
    try simp only [decide_eq_true_eq, decide_eq_false_iff_not, Bool.not_eq_true', Bool.not_eq_false', Bool.not_true, Bool.not_false] at hc1
    refine sv hF (v_move rfl) rfl ?_; clear hF a; intro a hF
    refine svg hF rfl ?_
    refine sv hF (v_move rfl) rfl ?_; clear hF a; intro a hF
    refine svg hF rfl ?_
    refine sb hF (v_neq rfl rfl) rfl ?_ ?_
    · clear hF a; intro hc2 a hF
      try simp only [decide_eq_true_eq, decide_eq_false_iff_not, Bool.not_eq_true', Bool.not_eq_false', Bool.not_true, Bool.not_false] at hc2
      refine sv hF (v_pickT rfl rfl) rfl ?_; clear hF a; intro a hF
      refine sv hF (v_move rfl) rfl ?_; clear hF a; intro a hF
      refine svn hF rfl rfl rfl ?_; clear hF a; intro a hF
      refine svn hF rfl rfl rfl ?_; clear hF a; intro a hF
      refine svn hF rfl rfl rfl ?_; clear hF a; intro a hF
      refine svn hF rfl rfl rfl ?_; clear hF a; intro a hF
      refine svn hF rfl rfl rfl ?_; clear hF a; intro a hF
      refine sv hF (v_pickT rfl rfl) rfl ?_; clear hF a; intro a hF
      refine sv hF (v_move rfl) rfl ?_; clear hF a; intro a hF
      refine svn hF rfl rfl rfl ?_; clear hF a; intro a hF
      refine svn hF rfl rfl rfl ?_; clear hF a; intro a hF
      refine svn hF rfl rfl rfl ?_; clear hF a; intro a hF
      refine sv hF (v_pickT rfl rfl) rfl ?_; clear hF a; intro a hF
      refine WL_nil (hK _ _ ?_)
      clear hK K
      replace hF := hF.sub _ (c_ 22 rfl (c_ 4 rfl (c_ 0 rfl (c_ 1 rfl (n_)))))
      refine W_ifT hF rfl ?_
      refine W_sr rfl (fun K hK => ?_)
      refine sv hF (v_assign rfl) rfl ?_; clear hF a; intro a hF
      refine WL_nil (hK _ _ ?_)
      clear hK K
      replace hF := hF.sub _ (c_ 4 rfl (c_ 0 rfl (c_ 1 rfl (n_))))
      refine W_ret ?_
      refine ⟨_, _, hF, rfl, ?_⟩
      first
        | exact ⟨by rw [newF_f (by rintro ⟨h1, h2, h3⟩; first | omega | (simp_all; done))]; rfl, hS⟩
        | (have hc : ((wb : Int) = 8 ∨ (wb : Int) = 16) ∧ Px.deg p = (wb : Int) ∧ prim p = true := ⟨by omega, by omega, by simp_all⟩
           rw [newF_t hc]
           exact ⟨⟨newF_prm hc, _, rfl, hfk⟩, hS⟩)
    · clear hF a; intro hc2 a hF
      try simp only [decide_eq_true_eq, decide_eq_false_iff_not, Bool.not_eq_true', Bool.not_eq_false', Bool.not_true, Bool.not_false] at hc2
      refine sv hF (v_pickT rfl rfl) rfl ?_; clear hF a; intro a hF
      refine sv hF (v_move rfl) rfl ?_; clear hF a; intro a hF
      refine svg hF rfl ?_
      refine sv hF (v_move rfl) rfl ?_; clear hF a; intro a hF
      refine svg hF rfl ?_
      refine sv hF (v_cv Tryz.underlying27 Tryz.underlying75 rfl (wrap_u64 _ (by omega))) rfl ?_; clear hF a; intro a hF
      refine svg hF rfl ?_
      refine sc hF rfl rfl rfl en51 rfl (Deg_ok B p _ hS.inv (by omega)) ?_; clear hF a; intro v w' a hv hF
      obtain ⟨rfl, hS'⟩ := hv
      replace hS := hS.trans hS'
      clear hS'
      refine svg hF rfl ?_
      refine sv hF (v_move rfl) rfl ?_; clear hF a; intro a hF
      refine svg hF rfl ?_
      refine sb hF (v_neq rfl rfl) rfl ?_ ?_
      · clear hF a; intro hc3 a hF
        try simp only [decide_eq_true_eq, decide_eq_false_iff_not, Bool.not_eq_true', Bool.not_eq_false', Bool.not_true, Bool.not_false] at hc3
        refine sv hF (v_pickF rfl rfl) rfl ?_; clear hF a; intro a hF
        refine sv hF (v_move rfl) rfl ?_; clear hF a; intro a hF
        refine svn hF rfl rfl rfl ?_; clear hF a; intro a hF
        refine svn hF rfl rfl rfl ?_; clear hF a; intro a hF
        refine svn hF rfl rfl rfl ?_; clear hF a; intro a hF
        refine sv hF (v_pickT rfl rfl) rfl ?_; clear hF a; intro a hF
        refine WL_nil (hK _ _ ?_)
        clear hK K
        replace hF := hF.sub _ (c_ 22 rfl (c_ 4 rfl (c_ 0 rfl (c_ 1 rfl (n_)))))
        refine W_ifT hF rfl ?_
        refine W_sr rfl (fun K hK => ?_)
        refine sv hF (v_assign rfl) rfl ?_; clear hF a; intro a hF
        refine WL_nil (hK _ _ ?_)
        clear hK K
        replace hF := hF.sub _ (c_ 4 rfl (c_ 0 rfl (c_ 1 rfl (n_))))
        refine W_ret ?_
        refine ⟨_, _, hF, rfl, ?_⟩
        first
          | exact ⟨by rw [newF_f (by rintro ⟨h1, h2, h3⟩; first | omega | (simp_all; done))]; rfl, hS⟩
          | (have hc : ((wb : Int) = 8 ∨ (wb : Int) = 16) ∧ Px.deg p = (wb : Int) ∧ prim p = true := ⟨by omega, by omega, by simp_all⟩
             rw [newF_t hc]
             exact ⟨⟨newF_prm hc, _, rfl, hfk⟩, hS⟩)
      · clear hF a; intro hc3 a hF
        try simp only [decide_eq_true_eq, decide_eq_false_iff_not, Bool.not_eq_true', Bool.not_eq_false', Bool.not_true, Bool.not_false] at hc3
        refine sv hF (v_pickF rfl rfl) rfl ?_; clear hF a; intro a hF
        refine sv hF (v_move rfl) rfl ?_; clear hF a; intro a hF
        refine svg hF rfl ?_
        refine sv hF (v_move rfl) rfl ?_; clear hF a; intro a hF
        refine svg hF rfl ?_
        refine sc hF rfl rfl rfl en52 rfl (prim_ok B p _ hS.inv hp) ?_; clear hF a; intro v w' a hv hF
        obtain ⟨rfl, hS'⟩ := hv
        replace hS := hS.trans hS'
        clear hS'
        refine svg hF rfl ?_
        refine sv hF (v_not rfl) rfl ?_; clear hF a; intro a hF
        refine sv hF (v_pickF rfl rfl) rfl ?_; clear hF a; intro a hF
        refine WL_nil (hK _ _ ?_)
        clear hK K
        replace hF := hF.sub _ (c_ 22 rfl (c_ 4 rfl (c_ 0 rfl (c_ 1 rfl (n_)))))
        refine W_if hF rfl (fun hc4 => ?_) (fun hc4 => ?_)
        · skip
          try simp only [decide_eq_true_eq, decide_eq_false_iff_not, Bool.not_eq_true', Bool.not_eq_false', Bool.not_true, Bool.not_false] at hc4
          refine W_sr rfl (fun K hK => ?_)
          refine sv hF (v_assign rfl) rfl ?_; clear hF a; intro a hF
          refine WL_nil (hK _ _ ?_)
          clear hK K
          replace hF := hF.sub _ (c_ 4 rfl (c_ 0 rfl (c_ 1 rfl (n_))))
          refine W_ret ?_
          refine ⟨_, _, hF, rfl, ?_⟩
          first
            | exact ⟨by rw [newF_f (by rintro ⟨h1, h2, h3⟩; first | omega | (simp_all; done))]; rfl, hS⟩
            | (have hc : ((wb : Int) = 8 ∨ (wb : Int) = 16) ∧ Px.deg p = (wb : Int) ∧ prim p = true := ⟨by omega, by omega, by simp_all⟩
               rw [newF_t hc]
               exact ⟨⟨newF_prm hc, _, rfl, hfk⟩, hS⟩)
        · skip
          try simp only [decide_eq_true_eq, decide_eq_false_iff_not, Bool.not_eq_true', Bool.not_eq_false', Bool.not_true, Bool.not_false] at hc4
          refine W_skip ?_
          obtain ⟨wb, rfl⟩ : ∃ wb : Nat, W = (wb : Int) := ⟨W.toNat, by omega⟩
          refine W_sr rfl (fun K hK => ?_)
          refine sv hF (v_move rfl) rfl ?_; clear hF a; intro a hF
          refine sv hF (v_move rfl) rfl ?_; clear hF a; intro a hF
          refine sv hF (v_newField rfl rfl) rfl ?_; clear hF a; intro a hF
          refine s_field (D := FDx) (B := B) hF rfl rfl hS.inv rfl ?_; clear hF a; intro w' a hS' hfk hF
          replace hS := hS.trans hS'
          refine sv hF (v_assign rfl) rfl ?_; clear hF a; intro a hF
          refine WL_nil (hK _ _ ?_)
          clear hK K
          replace hF := hF.sub _ (c_ 4 rfl (n_))
          refine W_ret ?_
          refine ⟨_, _, hF, rfl, ?_⟩
          first
            | exact ⟨by rw [newF_f (by rintro ⟨h1, h2, h3⟩; first | omega | (simp_all; done))]; rfl, hS⟩
            | (have hc : ((wb : Int) = 8 ∨ (wb : Int) = 16) ∧ Px.deg p = (wb : Int) ∧ prim p = true := ⟨by omega, by omega, by simp_all⟩
               rw [newF_t hc]
               exact ⟨⟨newF_prm hc, _, rfl, hfk⟩, hS⟩)
  · clear hF a; intro hc1 a hF
    try simp only [decide_eq_true_eq, decide_eq_false_iff_not, Bool.not_eq_true', Bool.not_eq_false', Bool.not_true, Bool.not_false] at hc1
    refine sv hF (v_move rfl) rfl ?_; clear hF a; intro a hF
    refine svn hF rfl rfl rfl ?_; clear hF a; intro a hF
    refine svn hF rfl rfl rfl ?_; clear hF a; intro a hF
    refine sv hF (v_pickF rfl rfl) rfl ?_; clear hF a; intro a hF
    refine sv hF (v_move rfl) rfl ?_; clear hF a; intro a hF
    refine svg hF rfl ?_
    refine sv hF (v_move rfl) rfl ?_; clear hF a; intro a hF
    refine svg hF rfl ?_
    refine sv hF (v_cv Tryz.underlying27 Tryz.underlying75 rfl (wrap_u64 _ (by omega))) rfl ?_; clear hF a; intro a hF
    refine svg hF rfl ?_
    refine sc hF rfl rfl rfl en51 rfl (Deg_ok B p _ hS.inv (by omega)) ?_; clear hF a; intro v w' a hv hF
    obtain ⟨rfl, hS'⟩ := hv
    replace hS := hS.trans hS'
    clear hS'
    refine svg hF rfl ?_
    refine sv hF (v_move rfl) rfl ?_; clear hF a; intro a hF
    refine svg hF rfl ?_
    refine sb hF (v_neq rfl rfl) rfl ?_ ?_
    · clear hF a; intro hc5 a hF
      try simp only [decide_eq_true_eq, decide_eq_false_iff_not, Bool.not_eq_true', Bool.not_eq_false', Bool.not_true, Bool.not_false] at hc5
      refine sv hF (v_pickF rfl rfl) rfl ?_; clear hF a; intro a hF
      refine sv hF (v_move rfl) rfl ?_; clear hF a; intro a hF
      refine svn hF rfl rfl rfl ?_; clear hF a; intro a hF
      refine svn hF rfl rfl rfl ?_; clear hF a; intro a hF
      refine svn hF rfl rfl rfl ?_; clear hF a; intro a hF
      refine sv hF (v_pickT rfl rfl) rfl ?_; clear hF a; intro a hF
      refine WL_nil (hK _ _ ?_)
      clear hK K
      replace hF := hF.sub _ (c_ 22 rfl (c_ 4 rfl (c_ 0 rfl (c_ 1 rfl (n_)))))
      refine W_ifT hF rfl ?_
      refine W_sr rfl (fun K hK => ?_)
      refine sv hF (v_assign rfl) rfl ?_; clear hF a; intro a hF
      refine WL_nil (hK _ _ ?_)
      clear hK K
      replace hF := hF.sub _ (c_ 4 rfl (c_ 0 rfl (c_ 1 rfl (n_))))
      refine W_ret ?_
      refine ⟨_, _, hF, rfl, ?_⟩
      first
        | exact ⟨by rw [newF_f (by rintro ⟨h1, h2, h3⟩; first | omega | (simp_all; done))]; rfl, hS⟩
        | (have hc : ((wb : Int) = 8 ∨ (wb : Int) = 16) ∧ Px.deg p = (wb : Int) ∧ prim p = true := ⟨by omega, by omega, by simp_all⟩
           rw [newF_t hc]
           exact ⟨⟨newF_prm hc, _, rfl, hfk⟩, hS⟩)
    · clear hF a; intro hc5 a hF
      try simp only [decide_eq_true_eq, decide_eq_false_iff_not, Bool.not_eq_true', Bool.not_eq_false', Bool.not_true, Bool.not_false] at hc5
      refine sv hF (v_pickF rfl rfl) rfl ?_; clear hF a; intro a hF
      refine sv hF (v_move rfl) rfl ?_; clear hF a; intro a hF
      refine svg hF rfl ?_
      refine sv hF (v_move rfl) rfl ?_; clear hF a; intro a hF
      refine svg hF rfl ?_
      refine sc hF rfl rfl rfl en52 rfl (prim_ok B p _ hS.inv hp) ?_; clear hF a; intro v w' a hv hF
      obtain ⟨rfl, hS'⟩ := hv
      replace hS := hS.trans hS'
      clear hS'
      refine svg hF rfl ?_
      refine sv hF (v_not rfl) rfl ?_; clear hF a; intro a hF
      refine sv hF (v_pickF rfl rfl) rfl ?_; clear hF a; intro a hF
      refine WL_nil (hK _ _ ?_)
      clear hK K
      replace hF := hF.sub _ (c_ 22 rfl (c_ 4 rfl (c_ 0 rfl (c_ 1 rfl (n_)))))
      refine W_if hF rfl (fun hc6 => ?_) (fun hc6 => ?_)
      · skip
        try simp only [decide_eq_true_eq, decide_eq_false_iff_not, Bool.not_eq_true', Bool.not_eq_false', Bool.not_true, Bool.not_false] at hc6
        refine W_sr rfl (fun K hK => ?_)
        refine sv hF (v_assign rfl) rfl ?_; clear hF a; intro a hF
        refine WL_nil (hK _ _ ?_)
        clear hK K
        replace hF := hF.sub _ (c_ 4 rfl (c_ 0 rfl (c_ 1 rfl (n_))))
        refine W_ret ?_
        refine ⟨_, _, hF, rfl, ?_⟩
        first
          | exact ⟨by rw [newF_f (by rintro ⟨h1, h2, h3⟩; first | omega | (simp_all; done))]; rfl, hS⟩
          | (have hc : ((wb : Int) = 8 ∨ (wb : Int) = 16) ∧ Px.deg p = (wb : Int) ∧ prim p = true := ⟨by omega, by omega, by simp_all⟩
             rw [newF_t hc]
             exact ⟨⟨newF_prm hc, _, rfl, hfk⟩, hS⟩)
      · skip
        try simp only [decide_eq_true_eq, decide_eq_false_iff_not, Bool.not_eq_true', Bool.not_eq_false', Bool.not_true, Bool.not_false] at hc6
        refine W_skip ?_
        obtain ⟨wb, rfl⟩ : ∃ wb : Nat, W = (wb : Int) := ⟨W.toNat, by omega⟩
        refine W_sr rfl (fun K hK => ?_)
        refine sv hF (v_move rfl) rfl ?_; clear hF a; intro a hF
        refine sv hF (v_move rfl) rfl ?_; clear hF a; intro a hF
        refine sv hF (v_newField rfl rfl) rfl ?_; clear hF a; intro a hF
        refine s_field (D := FDx) (B := B) hF rfl rfl hS.inv rfl ?_; clear hF a; intro w' a hS' hfk hF
        replace hS := hS.trans hS'
        refine sv hF (v_assign rfl) rfl ?_; clear hF a; intro a hF
        refine WL_nil (hK _ _ ?_)
        clear hK K
        replace hF := hF.sub _ (c_ 4 rfl (n_))
        refine W_ret ?_
        refine ⟨_, _, hF, rfl, ?_⟩
        first
          | exact ⟨by rw [newF_f (by rintro ⟨h1, h2, h3⟩; first | omega | (simp_all; done))]; rfl, hS⟩
          | (have hc : ((wb : Int) = 8 ∨ (wb : Int) = 16) ∧ Px.deg p = (wb : Int) ∧ prim p = true := ⟨by omega, by omega, by simp_all⟩
             rw [newF_t hc]
             exact ⟨⟨newF_prm hc, _, rfl, hfk⟩, hS⟩)

set_option maxRecDepth 100000 in
set_option maxHeartbeats 1000000 in
theorem ready1_ok (wb p k pb : Nat) (z2 z3 z4 : Value) (w : World) (hp : Prm wb p) (hk : w.heap[k]? = some (.cells #[.int .i64 (wb : Int), .int .u32 (p : Int), z2, z3, z4, .slice none 0 0, .slice none 0 0] FDx.T (0, 0))) (hc : w.cell? ⟨pb, 0, none⟩ = some (.pointer (some ⟨k, 0, none⟩))) (hkb : k ≠ pb) : Ret Tryz.prog 90 [.pointer (some ⟨pb, 0, none⟩)] w fun v w' => v = .tuple #[] ∧ ∃ g1 g2, Tst FDx w w' k #[.int .i64 (wb : Int), .int .u32 (p : Int), z2, z3, z4, .slice (some ⟨g1, 0, none⟩) (2 ^ wb) (2 ^ wb), .slice (some ⟨g2, 0, none⟩) (2 ^ wb) (2 ^ wb)] g1 g2 (Px.expL wb p (2 ^ wb - 1)) (Px.logL wb p (2 ^ wb - 1)) := by
  refine enter0 48 [(0, .pointer (some ⟨pb, 0, none⟩))]  Tryz.func90 rfl rfl rfl rfl rfl ?_; intro a hF
  have hwb : wb ≤ 62 := by have := hp.w; omega
  have hsz := hp.size
  have horder := hp.order
  refine W_cut (fun a w1 => ∃ g1 g2, Fr 48 [(0, .pointer (some ⟨pb, 0, none⟩))] a ∧ Tst FDx w w1 k #[.int .i64 (wb : Int), .int .u32 (p : Int), z2, z3, z4, .slice (some ⟨g1, 0, none⟩) (2 ^ wb) (2 ^ wb), .slice (some ⟨g2, 0, none⟩) (2 ^ wb) (2 ^ wb)] g1 g2 (List.replicate (2 ^ wb) 0) (List.replicate (2 ^ wb) 0)) ?_ ?_
  · skip
    refine W_dS (fun w2 => w2.cell? ⟨pb, 0, none⟩ = some (.pointer (some ⟨k, 0, none⟩)) ∧ w2.cell? ⟨k, 0, none⟩ = some (.int .i64 (wb : Int))) (m := 16) rfl hmix (fun K hK => ?_)
    have hM := Mid.start (E := FDx.E) (T := FDx.T) (m := 2 ^ wb) hk
    have hSS := hM.S hc hkb rfl
    refine b_v (i := 0) rfl (by kernel_rfl) hF (fun w2 hx => v_load sc26 rfl (hx.1)) rfl hSS ?_; clear hF a; intro a hF
    refine b_v (i := 1) rfl (by kernel_rfl) hF (fun w2 hx => v_load sc26 rfl (hx.1)) rfl hSS ?_; clear hF a; intro a hF
    refine b_v (i := 2) rfl (by kernel_rfl) hF (fun w2 hx => v_load sc26 rfl (hx.1)) rfl hSS ?_; clear hF a; intro a hF
    refine b_v (i := 5) rfl (by kernel_rfl) hF (fun w2 hx => v_load sc26 rfl (hx.1)) rfl hSS ?_; clear hF a; intro a hF
    refine b_e (i := 3) (by kernel_rfl) rfl ?_
    refine sc hF rfl rfl rfl en37 rfl (Size_some k wb _ hSS.2 hwb) ?_; clear hF a; intro v w' a hv hF
    obtain ⟨rfl, rfl⟩ := hv
    refine WL_nil ⟨hSS, ?_⟩
    refine b_e2 (i := 4) (i' := 6) (by kernel_rfl) rfl rfl ?_ ?_
    · skip
      refine s_mkM (E := FDx.E) (Tf := FDx.T) hF sl23 rfl rfl (by omega) (by simp only [maxLen]; omega) rfl hM ?_; clear hF a; intro w' a g1 hg1 hM hF
      clear hSS
      have hSS := hM.S hc hkb rfl
      refine WL_nil ⟨hSS, ?_⟩
      refine b_e (i := 6) (by kernel_rfl) rfl ?_
      refine sc hF rfl rfl rfl en37 rfl (Size_some k wb _ hSS.2 hwb) ?_; clear hF a; intro v w' a hv hF
      obtain ⟨rfl, rfl⟩ := hv
      refine WL_nil ⟨hSS, ?_⟩
      refine b_v (i := 8) rfl (by kernel_rfl) hF (fun w2 hx => v_nil rfl) rfl hSS ?_; clear hF a; intro a hF
      refine b_v (i := 9) rfl (by kernel_rfl) hF (fun w2 hx => v_fieldAddr fa91_2 rfl) rfl hSS ?_; clear hF a; intro a hF
      refine b_v (i := 10) rfl (by kernel_rfl) hF (fun w2 hx => v_fieldAddr fa89_1 rfl) rfl hSS ?_; clear hF a; intro a hF
      refine b_e2 (i := 7) (i' := 11) (by kernel_rfl) rfl rfl ?_ ?_
      · skip
        refine s_mkM (E := FDx.E) (Tf := FDx.T) hF sl23 rfl rfl (by omega) (by simp only [maxLen]; omega) rfl hM ?_; clear hF a; intro w' a g2 hg2 hM hF
        clear hSS
        have hSS := hM.S hc hkb rfl
        refine WL_nil ⟨hSS, ?_⟩
        refine b_e (i := 11) (by kernel_rfl) rfl ?_
        refine s_st hF on23 rfl rfl rfl hM.blk (by simp) (fun w' hu => ?_)
        replace hM := hM.store hu
        clear hu hSS
        have hSS := hM.S hc hkb rfl
        refine WL_nil ⟨hSS, ?_⟩
        refine b_v (i := 12) rfl (by kernel_rfl) hF (fun w2 hx => v_nil rfl) rfl hSS ?_; clear hF a; intro a hF
        refine b_v (i := 13) rfl (by kernel_rfl) hF (fun w2 hx => v_fieldAddr fa91_2 rfl) rfl hSS ?_; clear hF a; intro a hF
        refine b_v (i := 14) rfl (by kernel_rfl) hF (fun w2 hx => v_fieldAddr fa89_2 rfl) rfl hSS ?_; clear hF a; intro a hF
        refine b_e (i := 15) (by kernel_rfl) rfl ?_
        refine s_st hF on23 rfl rfl rfl hM.blk (by simp) (fun w' hu => ?_)
        replace hM := hM.store hu
        clear hu hSS
        have hSS := hM.S hc hkb rfl
        refine WL_nil ⟨hSS, ?_⟩
        refine b_done (by kernel_rfl) (hK _ _ ?_)
        clear hK K
        replace hF := hF.sub _ (c_ 0 rfl (n_))
        first
          | exact ⟨g1, g2, hF.sub _ (c_ 0 rfl n_), hM.tst (Nat.ne_of_lt (hg2 g1 (by simp)))⟩
          | exact ⟨g1, g2, hF.sub _ (c_ 0 rfl n_), hM.swap.tst (Nat.ne_of_gt (hg1 g2 (by simp)))⟩
      · skip
        refine s_st hF on23 rfl rfl rfl hM.blk (by simp) (fun w' hu => ?_)
        replace hM := hM.store hu
        clear hu hSS
        have hSS := hM.S hc hkb rfl
        refine WL_nil ⟨hSS, ?_⟩
        refine b_e (i := 7) (by kernel_rfl) rfl ?_
        refine s_mkM (E := FDx.E) (Tf := FDx.T) hF sl23 rfl rfl (by omega) (by simp only [maxLen]; omega) rfl hM ?_; clear hF a; intro w' a g2 hg2 hM hF
        clear hSS
        have hSS := hM.S hc hkb rfl
        refine WL_nil ⟨hSS, ?_⟩
        refine b_v (i := 12) rfl (by kernel_rfl) hF (fun w2 hx => v_nil rfl) rfl hSS ?_; clear hF a; intro a hF
        refine b_v (i := 13) rfl (by kernel_rfl) hF (fun w2 hx => v_fieldAddr fa91_2 rfl) rfl hSS ?_; clear hF a; intro a hF
        refine b_v (i := 14) rfl (by kernel_rfl) hF (fun w2 hx => v_fieldAddr fa89_2 rfl) rfl hSS ?_; clear hF a; intro a hF
        refine b_e (i := 15) (by kernel_rfl) rfl ?_
        refine s_st hF on23 rfl rfl rfl hM.blk (by simp) (fun w' hu => ?_)
        replace hM := hM.store hu
        clear hu hSS
        have hSS := hM.S hc hkb rfl
        refine WL_nil ⟨hSS, ?_⟩
        refine b_done (by kernel_rfl) (hK _ _ ?_)
        clear hK K
        replace hF := hF.sub _ (c_ 0 rfl (n_))
        first
          | exact ⟨g1, g2, hF.sub _ (c_ 0 rfl n_), hM.tst (Nat.ne_of_lt (hg2 g1 (by simp)))⟩
          | exact ⟨g1, g2, hF.sub _ (c_ 0 rfl n_), hM.swap.tst (Nat.ne_of_gt (hg1 g2 (by simp)))⟩
    · skip
      refine sc hF rfl rfl rfl en37 rfl (Size_some k wb _ hSS.2 hwb) ?_; clear hF a; intro v w' a hv hF
      obtain ⟨rfl, rfl⟩ := hv
      refine WL_nil ⟨hSS, ?_⟩
      refine b_e2 (i := 4) (i' := 7) (by kernel_rfl) rfl rfl ?_ ?_
      · skip
        refine s_mkM (E := FDx.E) (Tf := FDx.T) hF sl23 rfl rfl (by omega) (by simp only [maxLen]; omega) rfl hM ?_; clear hF a; intro w' a g1 hg1 hM hF
        clear hSS
        have hSS := hM.S hc hkb rfl
        refine WL_nil ⟨hSS, ?_⟩
        refine b_v (i := 8) rfl (by kernel_rfl) hF (fun w2 hx => v_nil rfl) rfl hSS ?_; clear hF a; intro a hF
        refine b_v (i := 9) rfl (by kernel_rfl) hF (fun w2 hx => v_fieldAddr fa91_2 rfl) rfl hSS ?_; clear hF a; intro a hF
        refine b_v (i := 10) rfl (by kernel_rfl) hF (fun w2 hx => v_fieldAddr fa89_1 rfl) rfl hSS ?_; clear hF a; intro a hF
        refine b_e2 (i := 7) (i' := 11) (by kernel_rfl) rfl rfl ?_ ?_
        · skip
          refine s_mkM (E := FDx.E) (Tf := FDx.T) hF sl23 rfl rfl (by omega) (by simp only [maxLen]; omega) rfl hM ?_; clear hF a; intro w' a g2 hg2 hM hF
          clear hSS
          have hSS := hM.S hc hkb rfl
          refine WL_nil ⟨hSS, ?_⟩
          refine b_e (i := 11) (by kernel_rfl) rfl ?_
          refine s_st hF on23 rfl rfl rfl hM.blk (by simp) (fun w' hu => ?_)
          replace hM := hM.store hu
          clear hu hSS
          have hSS := hM.S hc hkb rfl
          refine WL_nil ⟨hSS, ?_⟩
          refine b_v (i := 12) rfl (by kernel_rfl) hF (fun w2 hx => v_nil rfl) rfl hSS ?_; clear hF a; intro a hF
          refine b_v (i := 13) rfl (by kernel_rfl) hF (fun w2 hx => v_fieldAddr fa91_2 rfl) rfl hSS ?_; clear hF a; intro a hF
          refine b_v (i := 14) rfl (by kernel_rfl) hF (fun w2 hx => v_fieldAddr fa89_2 rfl) rfl hSS ?_; clear hF a; intro a hF
          refine b_e (i := 15) (by kernel_rfl) rfl ?_
          refine s_st hF on23 rfl rfl rfl hM.blk (by simp) (fun w' hu => ?_)
          replace hM := hM.store hu
          clear hu hSS
          have hSS := hM.S hc hkb rfl
          refine WL_nil ⟨hSS, ?_⟩
          refine b_done (by kernel_rfl) (hK _ _ ?_)
          clear hK K
          replace hF := hF.sub _ (c_ 0 rfl (n_))
          first
            | exact ⟨g1, g2, hF.sub _ (c_ 0 rfl n_), hM.tst (Nat.ne_of_lt (hg2 g1 (by simp)))⟩
            | exact ⟨g1, g2, hF.sub _ (c_ 0 rfl n_), hM.swap.tst (Nat.ne_of_gt (hg1 g2 (by simp)))⟩
        · skip
          refine s_st hF on23 rfl rfl rfl hM.blk (by simp) (fun w' hu => ?_)
          replace hM := hM.store hu
          clear hu hSS
          have hSS := hM.S hc hkb rfl
          refine WL_nil ⟨hSS, ?_⟩
          refine b_e (i := 7) (by kernel_rfl) rfl ?_
          refine s_mkM (E := FDx.E) (Tf := FDx.T) hF sl23 rfl rfl (by omega) (by simp only [maxLen]; omega) rfl hM ?_; clear hF a; intro w' a g2 hg2 hM hF
          clear hSS
          have hSS := hM.S hc hkb rfl
          refine WL_nil ⟨hSS, ?_⟩
          refine b_v (i := 12) rfl (by kernel_rfl) hF (fun w2 hx => v_nil rfl) rfl hSS ?_; clear hF a; intro a hF
          refine b_v (i := 13) rfl (by kernel_rfl) hF (fun w2 hx => v_fieldAddr fa91_2 rfl) rfl hSS ?_; clear hF a; intro a hF
          refine b_v (i := 14) rfl (by kernel_rfl) hF (fun w2 hx => v_fieldAddr fa89_2 rfl) rfl hSS ?_; clear hF a; intro a hF
          refine b_e (i := 15) (by kernel_rfl) rfl ?_
          refine s_st hF on23 rfl rfl rfl hM.blk (by simp) (fun w' hu => ?_)
          replace hM := hM.store hu
          clear hu hSS
          have hSS := hM.S hc hkb rfl
          refine WL_nil ⟨hSS, ?_⟩
          refine b_done (by kernel_rfl) (hK _ _ ?_)
          clear hK K
          replace hF := hF.sub _ (c_ 0 rfl (n_))
          first
            | exact ⟨g1, g2, hF.sub _ (c_ 0 rfl n_), hM.tst (Nat.ne_of_lt (hg2 g1 (by simp)))⟩
            | exact ⟨g1, g2, hF.sub _ (c_ 0 rfl n_), hM.swap.tst (Nat.ne_of_gt (hg1 g2 (by simp)))⟩
      · skip
        refine s_mkM (E := FDx.E) (Tf := FDx.T) hF sl23 rfl rfl (by omega) (by simp only [maxLen]; omega) rfl hM ?_; clear hF a; intro w' a g2 hg2 hM hF
        clear hSS
        have hSS := hM.S hc hkb rfl
        refine WL_nil ⟨hSS, ?_⟩
        refine b_e (i := 4) (by kernel_rfl) rfl ?_
        refine s_mkM (E := FDx.E) (Tf := FDx.T) hF sl23 rfl rfl (by omega) (by simp only [maxLen]; omega) rfl hM ?_; clear hF a; intro w' a g1 hg1 hM hF
        clear hSS
        have hSS := hM.S hc hkb rfl
        refine WL_nil ⟨hSS, ?_⟩
        refine b_v (i := 8) rfl (by kernel_rfl) hF (fun w2 hx => v_nil rfl) rfl hSS ?_; clear hF a; intro a hF
        refine b_v (i := 9) rfl (by kernel_rfl) hF (fun w2 hx => v_fieldAddr fa91_2 rfl) rfl hSS ?_; clear hF a; intro a hF
        refine b_v (i := 10) rfl (by kernel_rfl) hF (fun w2 hx => v_fieldAddr fa89_1 rfl) rfl hSS ?_; clear hF a; intro a hF
        refine b_e (i := 11) (by kernel_rfl) rfl ?_
        refine s_st hF on23 rfl rfl rfl hM.blk (by simp) (fun w' hu => ?_)
        replace hM := hM.store hu
        clear hu hSS
        have hSS := hM.S hc hkb rfl
        refine WL_nil ⟨hSS, ?_⟩
        refine b_v (i := 12) rfl (by kernel_rfl) hF (fun w2 hx => v_nil rfl) rfl hSS ?_; clear hF a; intro a hF
        refine b_v (i := 13) rfl (by kernel_rfl) hF (fun w2 hx => v_fieldAddr fa91_2 rfl) rfl hSS ?_; clear hF a; intro a hF
        refine b_v (i := 14) rfl (by kernel_rfl) hF (fun w2 hx => v_fieldAddr fa89_2 rfl) rfl hSS ?_; clear hF a; intro a hF
        refine b_e (i := 15) (by kernel_rfl) rfl ?_
        refine s_st hF on23 rfl rfl rfl hM.blk (by simp) (fun w' hu => ?_)
        replace hM := hM.store hu
        clear hu hSS
        have hSS := hM.S hc hkb rfl
        refine WL_nil ⟨hSS, ?_⟩
        refine b_done (by kernel_rfl) (hK _ _ ?_)
        clear hK K
        replace hF := hF.sub _ (c_ 0 rfl (n_))
        first
          | exact ⟨g1, g2, hF.sub _ (c_ 0 rfl n_), hM.tst (Nat.ne_of_lt (hg2 g1 (by simp)))⟩
          | exact ⟨g1, g2, hF.sub _ (c_ 0 rfl n_), hM.swap.tst (Nat.ne_of_gt (hg1 g2 (by simp)))⟩
  · skip
    clear hF
    rintro a w1 ⟨g1, g2, hF, hT⟩
    refine W_sr rfl (fun K hK => ?_)
    refine sv hF (v_assign rfl) rfl ?_; clear hF a; intro a hF
    refine WL_nil (hK _ _ ?_)
    clear hK K
    refine W_sr rfl (fun K hK => ?_)
    refine sv hF (v_load sc26 rfl (hT.pb hc hkb)) rfl ?_; clear hF a; intro a hF
    refine sc hF rfl rfl rfl en37 rfl (Size_some k wb _ (hT.c 0 rfl) hwb) ?_; clear hF a; intro v w' a hv hF
    obtain ⟨rfl, rfl⟩ := hv
    skip
    refine sv hF (v_subN (m := 2 ^ wb) (n := 1) rfl rfl (by omega) (by omega)) rfl ?_; clear hF a; intro a hF
    refine sv hF (v_move rfl) rfl ?_; clear hF a; intro a hF
    refine WL_nil (hK _ _ ?_)
    clear hK K
    replace hF := hF.sub _ (c_ 20 rfl (c_ 19 rfl (c_ 1 rfl (c_ 0 rfl (n_)))))
    refine W_block ?_
    refine W_loop (fun m a w2 => ∃ i : Nat, Fr 48 [(0, .pointer (some ⟨pb, 0, none⟩)), (1, .int .i64 (Px.pw p i : Int)), (19, .int .i64 ((2 ^ wb - 1 : Nat) : Int)), (20, .int .i64 (i : Int))] a ∧ Tst FDx w w2 k #[.int .i64 (wb : Int), .int .u32 (p : Int), z2, z3, z4, .slice (some ⟨g1, 0, none⟩) (2 ^ wb) (2 ^ wb), .slice (some ⟨g2, 0, none⟩) (2 ^ wb) (2 ^ wb)] g1 g2 (Px.expL wb p i) (Px.logL wb p i) ∧ i ≤ 2 ^ wb - 1 ∧ m + i = 2 ^ wb - 1) (2 ^ wb - 1) ?_ ?_
    · skip
      exact ⟨0, hF.sub _ (c_ 0 rfl (c_ 1 rfl (c_ 19 rfl (c_ 20 rfl n_)))), by rw [expL_zero]; exact hT, by omega, by omega⟩
    · skip
      clear hF
      clear hT
      rintro m a w2 ⟨i, hF, hT, hi, hm⟩
      refine W_sr rfl (fun K hK => ?_)
      refine sv hF (v_lss rfl rfl) rfl ?_; clear hF a; intro a hF
      refine WL_nil (hK _ _ ?_)
      clear hK K
      refine W_seq ?_
      refine W_if hF rfl (fun hc1 => ?_) (fun hc1 => ?_)
      · skip
        try simp only [decide_eq_true_eq, decide_eq_false_iff_not, Bool.not_eq_true', Bool.not_eq_false', Bool.not_true, Bool.not_false] at hc1
        refine W_skip ?_
        refine W_seq ?_
        refine W_block ?_
        refine W_sr rfl (fun K hK => ?_)
        refine sv hF (v_move rfl) rfl ?_; clear hF a; intro a hF
        refine sv hF (v_assign rfl) rfl ?_; clear hF a; intro a hF
        refine WL_nil (hK _ _ ?_)
        clear hK K
        replace hF := hF.sub _ (c_ 2 rfl (c_ 0 rfl (c_ 1 rfl (c_ 19 rfl (c_ 20 rfl (n_))))))
        refine W_cut (fun a w3 => Fr 48 [(0, .pointer (some ⟨pb, 0, none⟩)), (1, .int .i64 (Px.pw p i : Int)), (19, .int .i64 ((2 ^ wb - 1 : Nat) : Int)), (20, .int .i64 (i : Int))] a ∧ Tst FDx w w3 k #[.int .i64 (wb : Int), .int .u32 (p : Int), z2, z3, z4, .slice (some ⟨g1, 0, none⟩) (2 ^ wb) (2 ^ wb), .slice (some ⟨g2, 0, none⟩) (2 ^ wb) (2 ^ wb)] g1 g2 (Px.expL wb p (i + 1)) (Px.logL wb p (i + 1))) ?_ ?_
        · skip
          have hpl := hp.pw_lt i
          have hlt : i < 2 ^ wb := by omega
          refine W_dS (fun w2 => w2.cell? ⟨pb, 0, none⟩ = some (.pointer (some ⟨k, 0, none⟩)) ∧ w2.cell? ⟨k, 5, none⟩ = some (.slice (some ⟨g1, 0, none⟩) (2 ^ wb) (2 ^ wb)) ∧ w2.cell? ⟨k, 6, none⟩ = some (.slice (some ⟨g2, 0, none⟩) (2 ^ wb) (2 ^ wb))) (m := 18) rfl hmix (fun K hK => ?_)
          replace hT := hT.drew
          have hSS := And.intro (hT.pb hc hkb) (And.intro (hT.c 5 rfl) (hT.c 6 rfl))
          refine b_v (i := 0) rfl (by kernel_rfl) hF (fun w2 hx => v_load sc26 rfl (hx.1)) rfl hSS ?_; clear hF a; intro a hF
          refine b_v (i := 1) rfl (by kernel_rfl) hF (fun w2 hx => v_nil rfl) rfl hSS ?_; clear hF a; intro a hF
          refine b_v (i := 2) rfl (by kernel_rfl) hF (fun w2 hx => v_fieldAddr fa91_2 rfl) rfl hSS ?_; clear hF a; intro a hF
          refine b_v (i := 3) rfl (by kernel_rfl) hF (fun w2 hx => v_fieldAddr fa89_1 rfl) rfl hSS ?_; clear hF a; intro a hF
          refine b_v (i := 4) rfl (by kernel_rfl) hF (fun w2 hx => v_load sc23 rfl hx.2.1) rfl hSS ?_; clear hF a; intro a hF
          refine b_v (i := 5) rfl (by kernel_rfl) hF (fun w2 hx => v_move rfl) rfl hSS ?_; clear hF a; intro a hF
          refine b_v (i := 6) rfl (by kernel_rfl) hF (fun w2 hx => v_load sc26 rfl (hx.1)) rfl hSS ?_; clear hF a; intro a hF
          refine b_v (i := 7) rfl (by kernel_rfl) hF (fun w2 hx => v_nil rfl) rfl hSS ?_; clear hF a; intro a hF
          refine b_v (i := 8) rfl (by kernel_rfl) hF (fun w2 hx => v_fieldAddr fa91_2 rfl) rfl hSS ?_; clear hF a; intro a hF
          refine b_v (i := 9) rfl (by kernel_rfl) hF (fun w2 hx => v_fieldAddr fa89_2 rfl) rfl hSS ?_; clear hF a; intro a hF
          refine b_v (i := 10) rfl (by kernel_rfl) hF (fun w2 hx => v_load sc23 rfl hx.2.2) rfl hSS ?_; clear hF a; intro a hF
          refine b_v (i := 11) rfl (by kernel_rfl) hF (fun w2 hx => v_move rfl) rfl hSS ?_; clear hF a; intro a hF
          refine b_v (i := 12) rfl (by kernel_rfl) hF (fun w2 hx => v_move rfl) rfl hSS ?_; clear hF a; intro a hF
          refine b_v (i := 13) rfl (by kernel_rfl) hF (fun w2 hx => v_move rfl) rfl hSS ?_; clear hF a; intro a hF
          refine b_v (i := 14) rfl (by kernel_rfl) hF (fun w2 hx => v_ixS sl23 rfl rfl (by omega) (by omega)) rfl hSS ?_; clear hF a; intro a hF
          refine b_e (i := 15) (by kernel_rfl) rfl ?_
          refine s_st hF on3 rfl rfl rfl hT.b1 (by rw [toNat_c]; simp [expL_len (show i ≤ 2 ^ wb by omega)]; omega) (fun w' hu => ?_)
          rw [toNat_c, Nat.zero_add] at hu
          replace hT := hT.exp hu
          clear hu hSS
          have hSS := And.intro (hT.pb hc hkb) (And.intro (hT.c 5 rfl) (hT.c 6 rfl))
          refine WL_nil ⟨hSS, ?_⟩
          refine b_v (i := 16) rfl (by kernel_rfl) hF (fun w2 hx => v_ixS sl23 rfl rfl (by omega) (by omega)) rfl hSS ?_; clear hF a; intro a hF
          refine b_e (i := 17) (by kernel_rfl) rfl ?_
          refine s_st hF on3 rfl rfl rfl hT.b2 (by rw [toNat_c]; simp [logL_len]; omega) (fun w' hu => ?_)
          rw [toNat_c, Nat.zero_add] at hu
          replace hT := hT.log hu
          clear hu hSS
          have hSS := And.intro (hT.pb hc hkb) (And.intro (hT.c 5 rfl) (hT.c 6 rfl))
          refine WL_nil ⟨hSS, ?_⟩
          refine b_done (by kernel_rfl) (hK _ _ ?_)
          clear hK K
          replace hF := hF.sub _ (c_ 0 rfl (c_ 1 rfl (c_ 19 rfl (c_ 20 rfl (n_)))))
          rw [expL_step hlt] at hT
          exact ⟨hF.sub _ (c_ 0 rfl (c_ 1 rfl (c_ 19 rfl (c_ 20 rfl n_)))), hT⟩
        · skip
          clear hF
          clear hT
          rintro a w3 ⟨hF, hT⟩
          have hpl := hp.pw_lt i
          refine W_reg rfl (fun K hK => ?_)
          refine sv hF (v_move rfl) rfl ?_; clear hF a; intro a hF
          refine sv hF (v_cv Tryz.underlying3 Tryz.underlying27 rfl (wrap_u32 _ (by omega))) rfl ?_; clear hF a; intro a hF
          refine sv hF (v_load sc26 rfl (hT.pb hc hkb)) rfl ?_; clear hF a; intro a hF
          refine sv hF (v_nil rfl) rfl ?_; clear hF a; intro a hF
          refine sv hF (v_fieldAddr fa91_1 rfl) rfl ?_; clear hF a; intro a hF
          refine sv hF (v_load sc27 rfl (hT.c 1 rfl)) rfl ?_; clear hF a; intro a hF
          refine sc hF rfl rfl rfl en80 rfl (MulMod_ok (w.heap.size + 2) (Px.pw p i) 2 p _ hT.inv (by omega) (by decide) (by have := hp.lt; omega)) ?_; clear hF a; intro v w' a hv hF
          obtain ⟨rfl, hS'⟩ := hv
          replace hT := hT.step hS'
          clear hS'
          skip
          have hml := hp.pw_lt (i + 1)
          unfold Px.pw at hml
          refine sv hF (v_cv Tryz.underlying27 Tryz.underlying3 rfl (wrap_i64 _ (by omega))) rfl ?_; clear hF a; intro a hF
          refine sv hF (v_assign rfl) rfl ?_; clear hF a; intro a hF
          refine WL_nil (hK _ _ ?_)
          clear hK K
          replace hF := hF.sub _ (c_ 1 rfl (c_ 0 rfl (c_ 19 rfl (c_ 20 rfl (n_)))))
          refine W_reg rfl (fun K hK => ?_)
          refine sv hF (v_addI rfl rfl (by omega)) rfl ?_; clear hF a; intro a hF
          refine sv hF (v_move rfl) rfl ?_; clear hF a; intro a hF
          refine WL_nil (hK _ _ ?_)
          clear hK K
          exact ⟨m - 1, by omega, i + 1, hF.sub _ (c_ 0 rfl (c_ 1 rfl (c_ 19 rfl (c_ 20 rfl n_)))), hT, by omega, by omega⟩
      · skip
        try simp only [decide_eq_true_eq, decide_eq_false_iff_not, Bool.not_eq_true', Bool.not_eq_false', Bool.not_true, Bool.not_false] at hc1
        refine W_exit rfl ?_
        refine ⟨_, hF, ?_⟩
        obtain rfl : i = 2 ^ wb - 1 := by omega
        exact ⟨rfl, g1, g2, hT⟩

end Go.Proofs.YtcnlooajjnghaaaGreat
