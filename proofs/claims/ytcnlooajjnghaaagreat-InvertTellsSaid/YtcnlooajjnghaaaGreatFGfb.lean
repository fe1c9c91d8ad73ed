/- The walks of package gf: products, powers, inverses. -/
import Derived.Test.YtcnlooajjnghaaaGreatFGf
import Derived.Test.YtcnlooajjnghaaaGreatGGg
set_option linter.unusedVariables false
set_option linter.unusedSimpArgs false
namespace Go.Proofs.YtcnlooajjnghaaaGreat
open Go Go.Gam


namespace FxFGfb
theorem en37 : Ent Tryz.prog 37 := ent Tryz.func37 (by kernel_rfl) (by kernel_rfl)
theorem en43 : Ent Tryz.prog 43 := ent Tryz.func43 (by kernel_rfl) (by kernel_rfl)
theorem en56 : Ent Tryz.prog 56 := ent Tryz.func56 (by kernel_rfl) (by kernel_rfl)
theorem en69 : Ent Tryz.prog 69 := ent Tryz.func69 (by kernel_rfl) (by kernel_rfl)
theorem en80 : Ent Tryz.prog 80 := ent Tryz.func80 (by kernel_rfl) (by kernel_rfl)
theorem en81 : Ent Tryz.prog 81 := ent Tryz.func81 (by kernel_rfl) (by kernel_rfl)
theorem en82 : Ent Tryz.prog 82 := ent Tryz.func82 (by kernel_rfl) (by kernel_rfl)
theorem en89 : Ent Tryz.prog 89 := ent Tryz.func89 (by kernel_rfl) (by kernel_rfl)
theorem fa89_0 : FieldFact Tryz.prog 89 0 0 := ff_of (sz := 2) Tryz.underlying89 (by kernel_rfl)
theorem fa89_1 : FieldFact Tryz.prog 89 1 3 := ff_of (sz := 0) Tryz.underlying89 (by kernel_rfl)
theorem fa89_2 : FieldFact Tryz.prog 89 2 4 := ff_of (sz := 0) Tryz.underlying89 (by kernel_rfl)
theorem fa91_0 : FieldFact Tryz.prog 91 0 0 := ff_of (sz := 0) Tryz.underlying91 (by kernel_rfl)
theorem fa91_1 : FieldFact Tryz.prog 91 1 1 := ff_of (sz := 0) Tryz.underlying91 (by kernel_rfl)
theorem fa91_2 : FieldFact Tryz.prog 91 2 2 := ff_of (sz := 4) Tryz.underlying91 (by kernel_rfl)
theorem hmix : Tryz.prog.follows .mixedOrders = true := by kernel_rfl
theorem sc23 : Scalar Tryz.prog 23 := ⟨_, Tryz.underlying23, by simp, by simp⟩
theorem sc26 : Scalar Tryz.prog 26 := ⟨_, Tryz.underlying26, by simp, by simp⟩
theorem sc27 : Scalar Tryz.prog 27 := ⟨_, Tryz.underlying27, by simp, by simp⟩
theorem sc3 : Scalar Tryz.prog 3 := ⟨_, Tryz.underlying3, by simp, by simp⟩
theorem sl23 : Sl Tryz.prog 23 3 (.int .i64 0) 8 := sl_of Tryz.underlying23 rfl (by kernel_rfl)
end FxFGfb
open FxFGfb

theorem Do_made_ok (B wb p k ge gl pb : Nat) (w : World) (hm : Made FDx B w k wb p ge gl) :
    Ret Tryz.prog 89 [.pointer (some ⟨k, 2, none⟩), .func (.func 90) #[] #[.pointer (some ⟨pb, 0, none⟩)]] w fun v w' => v = .tuple #[] ∧ w' = w :=
  (do_done k 2 _ w hm.c2).mono fun e w' ⟨h1, h2⟩ => ⟨_, h1, rfl, h2⟩

theorem Do_new_ok (B wb p k pb : Nat) (w : World) (hI : Inv FDx B w) (hB : B ≤ k) (hk : w.heap[k]? = some (.cells (fcells wb p 0 (.slice none 0 0) (.slice none 0 0)) FDx.T (0, 0))) (hp : Prm wb p)
    (hc : w.cell? ⟨pb, 0, none⟩ = some (.pointer (some ⟨k, 0, none⟩))) (hkb : k ≠ pb) :
    Ret Tryz.prog 89 [.pointer (some ⟨k, 2, none⟩), .func (.func 90) #[] #[.pointer (some ⟨pb, 0, none⟩)]] w fun v w' => v = .tuple #[] ∧ St FDx B w w' ∧ ∃ ge gl, Made FDx B w' k wb p ge gl := by
  have hu := setCell_heap (i := 3) (.int .i32 1) hk
  have hc' : (w.setCell ⟨k, 3, none⟩ (.int .i32 1)).cell? ⟨pb, 0, none⟩ = some (.pointer (some ⟨k, 0, none⟩)) := (cell_of_heap (a := ⟨pb, 0, none⟩) (hu.keep pb (Ne.symm hkb))).trans hc
  refine (do_first k 2 ⟨pb, 0, none⟩ w (fun w2 => ∃ g1 g2, Tst FDx (w.setCell ⟨k, 3, none⟩ (.int .i32 1)) w2 k #[.int .i64 (wb : Int), .int .u32 (p : Int), .int .u32 0, .int .i32 1, .int .u32 0, .slice (some ⟨g1, 0, none⟩) (2 ^ wb) (2 ^ wb), .slice (some ⟨g2, 0, none⟩) (2 ^ wb) (2 ^ wb)] g1 g2 (Px.expL wb p (2 ^ wb - 1)) (Px.logL wb p (2 ^ wb - 1))) ?_ ?_ ?_ ?_ ?_).mono ?_
  · simp [World.cell?, hk, fcells]
  · simp [World.cell?, hk, fcells]
  · simp [World.frozen?, hk]
  · exact Calls.mono (ready1_ok wb p k pb (.int .u32 0) (.int .i32 1) (.int .u32 0) _ hp hu.new hc' hkb) fun e w' ⟨v, h1, h2, h3⟩ => ⟨by rw [h1, h2], h3⟩
  · rintro w2 ⟨g1, g2, hT⟩
    exact ⟨hT.c 2 rfl, hT.c 3 rfl, by simp [World.frozen?, hT.blk], by simp [World.frozen?, hT.blk]⟩
  · rintro e w' ⟨rfl, w2, ⟨g1, g2, hT⟩, rfl⟩
    have h := hT.done hI hB hk
    exact ⟨_, rfl, rfl, h.1, g1, g2, h.2⟩

set_option maxRecDepth 100000 in
set_option maxHeartbeats 1000000 in
theorem ready_made (B wb p k ge gl : Nat) (w : World) (hI : Inv FDx B w) (hmd : Made FDx B w k wb p ge gl) : Ret Tryz.prog 81 [.pointer (some ⟨k, 0, none⟩)] w fun v w' => v = .pointer (some ⟨k, 2, none⟩) ∧ St FDx B w w' ∧ ∃ ge gl, Made FDx B w' k wb p ge gl := by
  refine enter 12 [(0, .pointer (some ⟨k, 0, none⟩))] 2 Tryz.func81 rfl rfl rfl rfl rfl ?_; intro a hF
  have hS := St.refl hI
  refine W_sr rfl (fun K hK => ?_)
  refine s_box (D := FDx) (B := B) hF rfl (by decide) hS.inv rfl ?_; clear hF a; intro w' a hm hbox hsz hF
  replace hmd := hm.made hmd
  replace hS := hS.mb0 hm
  clear hm
  refine sv hF (v_assign rfl) rfl ?_; clear hF a; intro a hF
  refine WL_nil (hK _ _ ?_)
  clear hK K
  replace hF := hF.sub _ (c_ 2 rfl (c_ 1 rfl (n_)))
  refine W_sr rfl (fun K hK => ?_)
  refine sv hF (v_load sc26 rfl (hbox.at 0 rfl)) rfl ?_; clear hF a; intro a hF
  refine sv hF (v_nil rfl) rfl ?_; clear hF a; intro a hF
  refine sv hF (v_fieldAddr fa91_2 rfl) rfl ?_; clear hF a; intro a hF
  refine sv hF (v_fieldAddr fa89_0 rfl) rfl ?_; clear hF a; intro a hF
  refine sv hF (v_mkf rfl) rfl ?_; clear hF a; intro a hF
  refine sc hF rfl rfl rfl en89 rfl (Do_made_ok B wb p k ge gl _ _ hmd) ?_; clear hF a; intro v w' a hv hF
  obtain ⟨rfl, rfl⟩ := hv
  have hS' := St.refl hS.inv
  replace hmd := hmd.st hS'
  replace hbox := hbox.st (by decide) hS'
  replace hS := hS.trans hS'
  clear hS'
  refine WL_nil (hK _ _ ?_)
  clear hK K
  replace hF := hF.sub _ (c_ 2 rfl (c_ 1 rfl (n_)))
  refine W_sr rfl (fun K hK => ?_)
  refine sv hF (v_load sc26 rfl (hbox.at 0 rfl)) rfl ?_; clear hF a; intro a hF
  refine sv hF (v_nil rfl) rfl ?_; clear hF a; intro a hF
  refine sv hF (v_fieldAddr fa91_2 rfl) rfl ?_; clear hF a; intro a hF
  refine sv hF (v_assign rfl) rfl ?_; clear hF a; intro a hF
  refine WL_nil (hK _ _ ?_)
  clear hK K
  replace hF := hF.sub _ (c_ 2 rfl (n_))
  refine W_ret ?_
  refine ⟨_, _, hF, rfl, ?_⟩
  exact ⟨rfl, hS, _, _, hmd⟩

set_option maxRecDepth 100000 in
set_option maxHeartbeats 1000000 in
theorem ready_new (B wb p k : Nat) (w : World) (hI : Inv FDx B w) (hB : B ≤ k) (hk : w.heap[k]? = some (.cells (fcells wb p 0 (.slice none 0 0) (.slice none 0 0)) FDx.T (0, 0))) (hp : Prm wb p) : Ret Tryz.prog 81 [.pointer (some ⟨k, 0, none⟩)] w fun v w' => v = .pointer (some ⟨k, 2, none⟩) ∧ St FDx B w w' ∧ ∃ ge gl, Made FDx B w' k wb p ge gl := by
  refine enter 12 [(0, .pointer (some ⟨k, 0, none⟩))] 2 Tryz.func81 rfl rfl rfl rfl rfl ?_; intro a hF
  have hS := St.refl hI
  have hlt := heap_lt hk
  refine W_sr rfl (fun K hK => ?_)
  refine s_box (D := FDx) (B := B) hF rfl (by decide) hS.inv rfl ?_; clear hF a; intro w' a hm hbox hsz hF
  replace hk := (hm.keep _ (heap_lt hk) (by simp)).trans hk
  replace hS := hS.mb0 hm
  clear hm
  have hkb : k ≠ w.heap.size := by omega
  generalize w.heap.size = pb at *
  refine sv hF (v_assign rfl) rfl ?_; clear hF a; intro a hF
  refine WL_nil (hK _ _ ?_)
  clear hK K
  replace hF := hF.sub _ (c_ 2 rfl (c_ 1 rfl (n_)))
  refine W_sr rfl (fun K hK => ?_)
  refine sv hF (v_load sc26 rfl (hbox.at 0 rfl)) rfl ?_; clear hF a; intro a hF
  refine sv hF (v_nil rfl) rfl ?_; clear hF a; intro a hF
  refine sv hF (v_fieldAddr fa91_2 rfl) rfl ?_; clear hF a; intro a hF
  refine sv hF (v_fieldAddr fa89_0 rfl) rfl ?_; clear hF a; intro a hF
  refine sv hF (v_mkf rfl) rfl ?_; clear hF a; intro a hF
  refine sc hF rfl rfl rfl en89 rfl (Do_new_ok B wb p k pb _ hS.inv hB hk hp (hbox.at 0 rfl) hkb) ?_; clear hF a; intro v w' a hv hF
  clear hk
  obtain ⟨rfl, hS', hmd⟩ := hv
  replace hbox := hbox.st (by decide) hS'
  replace hS := hS.trans hS'
  clear hS'
  refine WL_nil (hK _ _ ?_)
  clear hK K
  replace hF := hF.sub _ (c_ 2 rfl (c_ 1 rfl (n_)))
  refine W_sr rfl (fun K hK => ?_)
  refine sv hF (v_load sc26 rfl (hbox.at 0 rfl)) rfl ?_; clear hF a; intro a hF
  refine sv hF (v_nil rfl) rfl ?_; clear hF a; intro a hF
  refine sv hF (v_fieldAddr fa91_2 rfl) rfl ?_; clear hF a; intro a hF
  refine sv hF (v_assign rfl) rfl ?_; clear hF a; intro a hF
  refine WL_nil (hK _ _ ?_)
  clear hK K
  replace hF := hF.sub _ (c_ 2 rfl (n_))
  refine W_ret ?_
  refine ⟨_, _, hF, rfl, ?_⟩
  exact ⟨rfl, hS, hmd⟩

theorem ready_ok (B wb p k : Nat) (w : World) (hI : Inv FDx B w) (hf : FOK FDx B w k wb p) (hp : Prm wb p) : Ret Tryz.prog 81 [.pointer (some ⟨k, 0, none⟩)] w fun v w' => v = .pointer (some ⟨k, 2, none⟩) ∧ St FDx B w w' ∧ ∃ ge gl, Made FDx B w' k wb p ge gl := by
  rcases hf.cases with ⟨hB, hk⟩ | ⟨ge, gl, hmd⟩
  · exact ready_new B wb p k w hI hB hk hp
  · exact ready_made B wb p k ge gl w hI hmd

set_option maxRecDepth 100000 in
set_option maxHeartbeats 1000000 in
theorem Exp_nil (B : Nat) (n : Int) (w : World) (hI : Inv FDx B w) : Ret Tryz.prog 82 [.pointer none, .int .i64 n] w fun v w' => v = .int .i64 (0) ∧ St FDx B w w' := by
  refine enter 25 [(0, .pointer none), (1, .int .i64 n)] 4 Tryz.func82 rfl rfl rfl rfl rfl ?_; intro a hF
  have hS := St.refl hI
  refine W_sr rfl (fun K hK => ?_)
  refine sv hF (v_assign rfl) rfl ?_; clear hF a; intro a hF
  refine WL_nil (hK _ _ ?_)
  clear hK K
  refine W_seq ?_
  refine W_sr rfl (fun K hK => ?_)
  refine sv hF (v_move rfl) rfl ?_; clear hF a; intro a hF
  refine sv hF ((v_eqlNil (by exact Tryz.underlying26) rfl rfl).as (congrArg Value.bool (rfl))) rfl ?_; clear hF a; intro a hF
  refine WL_nil (hK _ _ ?_)
  clear hK K
  replace hF := hF.sub _ (c_ 7 rfl (c_ 4 rfl (c_ 0 rfl (c_ 1 rfl (n_)))))
  refine W_ifT hF rfl ?_
  refine W_sr rfl (fun K hK => ?_)
  refine sv hF (v_assign rfl) rfl ?_; clear hF a; intro a hF
  refine WL_nil (hK _ _ ?_)
  clear hK K
  replace hF := hF.sub _ (c_ 4 rfl (c_ 0 rfl (c_ 1 rfl (n_))))
  refine W_ret ?_
  refine ⟨_, _, hF, rfl, ?_⟩
  exact ⟨rfl, hS⟩

set_option maxRecDepth 100000 in
set_option maxHeartbeats 1000000 in
theorem Exp_some (B wb p k : Nat) (n : Int) (w : World) (hI : Inv FDx B w) (hf : FOK FDx B w k wb p) (hp : Prm wb p) (hn : -9223372036854775808 ≤ n ∧ n < 9223372036854775808) : Ret Tryz.prog 82 [.pointer (some ⟨k, 0, none⟩), .int .i64 n] w fun v w' => v = .int .i64 ((Px.pw p (n % ((2 ^ wb - 1 : Nat) : Int)).toNat : Int)) ∧ St FDx B w w' := by
  refine enter 25 [(0, .pointer (some ⟨k, 0, none⟩)), (1, .int .i64 n)] 4 Tryz.func82 rfl rfl rfl rfl rfl ?_; intro a hF
  have hS := St.refl hI
  have hsz := hp.size
  have horder := hp.order
  have htm := tmod_bd n (m := 2 ^ wb - 1) (by omega)
  have hidx := exp_index n (m := 2 ^ wb - 1) (by omega)
  have hi1 := Int.emod_nonneg n (show ((2 ^ wb - 1 : Nat) : Int) ≠ 0 by omega)
  have hi2 := Int.emod_lt_of_pos n (show (0 : Int) < ((2 ^ wb - 1 : Nat) : Int) by omega)
  obtain ⟨i, hi⟩ : ∃ i : Nat, n % ((2 ^ wb - 1 : Nat) : Int) = (i : Int) := ⟨(n % ((2 ^ wb - 1 : Nat) : Int)).toNat, by omega⟩
  rw [hi] at hidx
  refine W_sr rfl (fun K hK => ?_)
  refine sv hF (v_assign rfl) rfl ?_; clear hF a; intro a hF
  refine WL_nil (hK _ _ ?_)
  clear hK K
  refine W_seq ?_
  refine W_sr rfl (fun K hK => ?_)
  refine sv hF (v_move rfl) rfl ?_; clear hF a; intro a hF
  refine sv hF ((v_eqlNil (by exact Tryz.underlying26) rfl rfl).as (congrArg Value.bool (rfl))) rfl ?_; clear hF a; intro a hF
  refine WL_nil (hK _ _ ?_)
  clear hK K
  replace hF := hF.sub _ (c_ 7 rfl (c_ 4 rfl (c_ 0 rfl (c_ 1 rfl (n_)))))
  refine W_ifF hF rfl ?_
  refine W_skip ?_
  refine W_sr rfl (fun K hK => ?_)
  refine sv hF (v_move rfl) rfl ?_; clear hF a; intro a hF
  refine sc hF rfl rfl rfl en37 rfl (Size_some k wb _ hf.w0 (by have := hp.w; omega)) ?_; clear hF a; intro v w' a hv hF
  obtain ⟨rfl, rfl⟩ := hv
  have hS' := St.refl hS.inv
  replace hf := hf.st hS'
  replace hS := hS.trans hS'
  clear hS'
  refine sv hF (v_subN (m := 2 ^ wb) (n := 1) rfl rfl (by omega) (by omega)) rfl ?_; clear hF a; intro a hF
  refine sv hF (v_assign rfl) rfl ?_; clear hF a; intro a hF
  refine WL_nil (hK _ _ ?_)
  clear hK K
  replace hF := hF.sub _ (c_ 5 rfl (c_ 4 rfl (c_ 0 rfl (c_ 1 rfl (n_)))))
  refine W_sd (m := 15) rfl hmix hS.inv (fun K hK w1 hS' hh => ?_)
  replace hf := hf.st hS'
  replace hS := hS.trans hS'
  clear hS'
  clear hh
  refine a_v (i := 0) rfl (by kernel_rfl) hF (fun w2 hx => v_move rfl) rfl ?_; clear hF a; intro a hF
  refine a_v (i := 5) rfl (by kernel_rfl) hF (fun w2 hx => v_move rfl) rfl ?_; clear hF a; intro a hF
  refine a_v (i := 6) rfl (by kernel_rfl) hF (fun w2 hx => v_move rfl) rfl ?_; clear hF a; intro a hF
  refine a_v (i := 7) rfl (by kernel_rfl) hF (fun w2 hx => v_rem rfl rfl (by omega)) rfl ?_; clear hF a; intro a hF
  refine a_v (i := 8) rfl (by kernel_rfl) hF (fun w2 hx => v_move rfl) rfl ?_; clear hF a; intro a hF
  refine a_v (i := 9) rfl (by kernel_rfl) hF (fun w2 hx => v_addI rfl rfl (by omega)) rfl ?_; clear hF a; intro a hF
  refine a_v (i := 10) rfl (by kernel_rfl) hF (fun w2 hx => v_move rfl) rfl ?_; clear hF a; intro a hF
  refine a_v (i := 11) rfl (by kernel_rfl) hF (fun w2 hx => (v_remI rfl rfl (by omega) (by omega)).as (congrArg _ hidx)) rfl ?_; clear hF a; intro a hF
  refine a_e (i := 1) rfl (by kernel_rfl) ?_
  refine sc hF rfl rfl rfl en81 rfl (ready_ok B wb p k _ hS.inv hf hp) ?_; clear hF a; intro v w' a hv hF
  obtain ⟨rfl, hS', ge, gl, hmd⟩ := hv
  refine WL_nil ⟨hS'.ext, ?_⟩
  replace hS := hS.trans hS'
  clear hS'
  refine a_v (i := 2) rfl (by kernel_rfl) hF (fun w2 hx => v_nil rfl) rfl ?_; clear hF a; intro a hF
  refine a_v (i := 3) rfl (by kernel_rfl) hF (fun w2 hx => v_fieldAddr fa89_1 rfl) rfl ?_; clear hF a; intro a hF
  refine a_v (i := 4) rfl (by kernel_rfl) hF (fun w2 hx => v_load sc23 rfl (hx.made _ _ _ _ _ hmd).c5) rfl ?_; clear hF a; intro a hF
  refine a_v (i := 12) rfl (by kernel_rfl) hF (fun w2 hx => v_ixS sl23 rfl rfl (by omega) (by omega)) rfl ?_; clear hF a; intro a hF
  refine a_v (i := 13) rfl (by kernel_rfl) hF (fun w2 hx => v_load sc3 rfl (by rw [toNat_c, Nat.zero_add]; exact (hx.made _ _ _ _ _ hmd).exp (by omega))) rfl ?_; clear hF a; intro a hF
  refine a_v (i := 14) rfl (by kernel_rfl) hF (fun w2 hx => v_assign rfl) rfl ?_; clear hF a; intro a hF
  refine a_done (by kernel_rfl) (hK _ _ ?_)
  clear hK K
  replace hF := hF.sub _ (c_ 4 rfl (n_))
  refine W_ret ?_
  refine ⟨_, _, hF, rfl, ?_⟩
  exact ⟨by rw [hi]; rfl, hS⟩

theorem Exp_ok (B : Nat) (o : Fq) (fv : Value) (n : Int) (w : World) (hI : Inv FDx B w) (hf : Fo FDx B w fv o) (hn : -9223372036854775808 ≤ n ∧ n < 9223372036854775808) : Ret Tryz.prog 82 [fv, .int .i64 n] w fun v w' => v = .int .i64 (gexp o n) ∧ St FDx B w w' := by
  cases o with
  | none => obtain rfl : fv = .pointer none := hf; exact Exp_nil B n w hI
  | some q => obtain ⟨h1, k, rfl, h2⟩ := hf; exact Exp_some B q.1 q.2 k n w hI h2 h1 hn

set_option maxRecDepth 100000 in
set_option maxHeartbeats 1000000 in
theorem Mul_gf (B : Nat) (o : Fq) (fv : Value) (ia ib : Int) (w : World) (hI : Inv FDx B w) (hf : Fo FDx B w fv o) : Ret Tryz.prog 56 [fv, .int .i64 ia, .int .i64 ib] w fun v w' => v = .int .i64 (gmul o ia ib) ∧ St FDx B w w' := by
  refine enter 58 [(0, fv), (1, .int .i64 ia), (2, .int .i64 ib)] 6 Tryz.func56 rfl rfl rfl rfl rfl ?_; intro a hF
  have hS := St.refl hI
  refine W_sr rfl (fun K hK => ?_)
  refine sv hF (v_assign rfl) rfl ?_; clear hF a; intro a hF
  refine WL_nil (hK _ _ ?_)
  clear hK K
  refine W_seq ?_
  refine W_block ?_
  refine W_sr rfl (fun K hK => ?_)
  refine sv hF (v_move rfl) rfl ?_; clear hF a; intro a hF
  refine sv hF (v_move rfl) rfl ?_; clear hF a; intro a hF
  refine sv hF (v_move rfl) rfl ?_; clear hF a; intro a hF
  refine s_bs (D := FDx) (B := B) hF sl23 rfl rfl (by decide) (by simp [Value.cells]) (by decide) hS.inv rfl ?_; clear hF a; intro w' a hm hI' hb hF
  replace hf := hf.mb hm
  replace hS := hS.mb0 hm
  clear hm hI'
  refine sc hF rfl rfl rfl en69 rfl (in_ok B o fv (some ⟨_, 0, none⟩) 2 [ia, ib] _ hS.inv hf (by simp) (own_in (D := FDx) (B := B) (zs := [ia, ib]) hb (by decide))) ?_; clear hF a; intro v w' a hv hF
  clear hb
  obtain ⟨rfl, rfl⟩ := hv
  have hS' := St.refl hS.inv
  replace hf := hf.st hS'
  replace hS := hS.trans hS'
  clear hS'
  refine sb hF (v_not rfl) rfl ?_ ?_
  · clear hF a; intro hc1 a hF
    try simp only [decide_eq_true_eq, decide_eq_false_iff_not, Bool.not_eq_true', Bool.not_eq_false', Bool.not_true, Bool.not_false] at hc1
    refine sv hF (v_move rfl) rfl ?_; clear hF a; intro a hF
    refine svn hF rfl rfl rfl ?_; clear hF a; intro a hF
    refine svn hF rfl rfl rfl ?_; clear hF a; intro a hF
    refine sv hF (v_pickT rfl rfl) rfl ?_; clear hF a; intro a hF
    refine sv hF (v_move rfl) rfl ?_; clear hF a; intro a hF
    refine svn hF rfl rfl rfl ?_; clear hF a; intro a hF
    refine svn hF rfl rfl rfl ?_; clear hF a; intro a hF
    refine sv hF (v_pickT rfl rfl) rfl ?_; clear hF a; intro a hF
    refine sv hF (v_assign rfl) rfl ?_; clear hF a; intro a hF
    refine WL_nil (hK _ _ ?_)
    clear hK K
    replace hF := hF.sub _ (c_ 8 rfl (c_ 6 rfl (c_ 0 rfl (c_ 1 rfl (c_ 2 rfl (n_))))))
    refine W_ifT hF rfl ?_
    refine W_sr rfl (fun K hK => ?_)
    refine sv hF (v_assign rfl) rfl ?_; clear hF a; intro a hF
    refine WL_nil (hK _ _ ?_)
    clear hK K
    replace hF := hF.sub _ (c_ 6 rfl (c_ 0 rfl (c_ 1 rfl (c_ 2 rfl (n_)))))
    refine W_ret ?_
    refine ⟨_, _, hF, rfl, ?_⟩
    first
      | exact ⟨by rw [gmul_out hc1], hS⟩
      | (subst_vars; exact ⟨by rw [gmul_zl], hS⟩)
      | (subst_vars; exact ⟨by rw [gmul_zr], hS⟩)
      | exact ⟨by rw [gmul_in hx hy, hp.pw_sum ei ej], hS⟩
      | exact ⟨by rw [gmul_in hx hy], hS⟩
  · clear hF a; intro hc1 a hF
    try simp only [decide_eq_true_eq, decide_eq_false_iff_not, Bool.not_eq_true', Bool.not_eq_false', Bool.not_true, Bool.not_false] at hc1
    refine sv hF (v_move rfl) rfl ?_; clear hF a; intro a hF
    refine svg hF rfl ?_
    refine sv hF (v_move rfl) rfl ?_; clear hF a; intro a hF
    refine svg hF rfl ?_
    refine sb hF (v_eql rfl rfl) rfl ?_ ?_
    · clear hF a; intro hc2 a hF
      try simp only [decide_eq_true_eq, decide_eq_false_iff_not, Bool.not_eq_true', Bool.not_eq_false', Bool.not_true, Bool.not_false] at hc2
      refine sv hF (v_pickF rfl rfl) rfl ?_; clear hF a; intro a hF
      refine sv hF (v_move rfl) rfl ?_; clear hF a; intro a hF
      refine svn hF rfl rfl rfl ?_; clear hF a; intro a hF
      refine svn hF rfl rfl rfl ?_; clear hF a; intro a hF
      refine sv hF (v_pickT rfl rfl) rfl ?_; clear hF a; intro a hF
      refine sv hF (v_assign rfl) rfl ?_; clear hF a; intro a hF
      refine WL_nil (hK _ _ ?_)
      clear hK K
      replace hF := hF.sub _ (c_ 8 rfl (c_ 6 rfl (c_ 0 rfl (c_ 1 rfl (c_ 2 rfl (n_))))))
      refine W_ifT hF rfl ?_
      refine W_sr rfl (fun K hK => ?_)
      refine sv hF (v_assign rfl) rfl ?_; clear hF a; intro a hF
      refine WL_nil (hK _ _ ?_)
      clear hK K
      replace hF := hF.sub _ (c_ 6 rfl (c_ 0 rfl (c_ 1 rfl (c_ 2 rfl (n_)))))
      refine W_ret ?_
      refine ⟨_, _, hF, rfl, ?_⟩
      first
        | exact ⟨by rw [gmul_out hc1], hS⟩
        | (subst_vars; exact ⟨by rw [gmul_zl], hS⟩)
        | (subst_vars; exact ⟨by rw [gmul_zr], hS⟩)
        | exact ⟨by rw [gmul_in hx hy, hp.pw_sum ei ej], hS⟩
        | exact ⟨by rw [gmul_in hx hy], hS⟩
    · clear hF a; intro hc2 a hF
      try simp only [decide_eq_true_eq, decide_eq_false_iff_not, Bool.not_eq_true', Bool.not_eq_false', Bool.not_true, Bool.not_false] at hc2
      refine sv hF (v_pickF rfl rfl) rfl ?_; clear hF a; intro a hF
      refine sv hF (v_move rfl) rfl ?_; clear hF a; intro a hF
      refine svg hF rfl ?_
      refine sv hF (v_move rfl) rfl ?_; clear hF a; intro a hF
      refine svg hF rfl ?_
      refine sv hF (v_eql rfl rfl) rfl ?_; clear hF a; intro a hF
      refine sv hF (v_pickF rfl rfl) rfl ?_; clear hF a; intro a hF
      refine sv hF (v_assign rfl) rfl ?_; clear hF a; intro a hF
      refine WL_nil (hK _ _ ?_)
      clear hK K
      replace hF := hF.sub _ (c_ 8 rfl (c_ 6 rfl (c_ 0 rfl (c_ 1 rfl (c_ 2 rfl (n_))))))
      refine W_if hF rfl (fun hc3 => ?_) (fun hc3 => ?_)
      · skip
        try simp only [decide_eq_true_eq, decide_eq_false_iff_not, Bool.not_eq_true', Bool.not_eq_false', Bool.not_true, Bool.not_false] at hc3
        refine W_sr rfl (fun K hK => ?_)
        refine sv hF (v_assign rfl) rfl ?_; clear hF a; intro a hF
        refine WL_nil (hK _ _ ?_)
        clear hK K
        replace hF := hF.sub _ (c_ 6 rfl (c_ 0 rfl (c_ 1 rfl (c_ 2 rfl (n_)))))
        refine W_ret ?_
        refine ⟨_, _, hF, rfl, ?_⟩
        first
          | exact ⟨by rw [gmul_out hc1], hS⟩
          | (subst_vars; exact ⟨by rw [gmul_zl], hS⟩)
          | (subst_vars; exact ⟨by rw [gmul_zr], hS⟩)
          | exact ⟨by rw [gmul_in hx hy, hp.pw_sum ei ej], hS⟩
          | exact ⟨by rw [gmul_in hx hy], hS⟩
      · skip
        try simp only [decide_eq_true_eq, decide_eq_false_iff_not, Bool.not_eq_true', Bool.not_eq_false', Bool.not_true, Bool.not_false] at hc3
        rw [all2, Bool.and_eq_true] at hc1
        obtain ⟨hin, hinb⟩ := hc1
        obtain ⟨wb, p, k, rfl, rfl, hp, hfk⟩ := fo_some hf (a := ia) hin
        obtain ⟨x, rfl, hx⟩ := inF_nat hin
        obtain ⟨y, rfl, hy⟩ := inF_nat hinb
        have hsz := hp.size
        have hml := hp.mulMod_lt x y
        have hplt := hp.lt
        refine W_sr rfl (fun K hK => ?_)
        refine sv hF (v_move rfl) rfl ?_; clear hF a; intro a hF
        refine sv hF (v_nil rfl) rfl ?_; clear hF a; intro a hF
        refine sv hF (v_fieldAddr fa91_0 rfl) rfl ?_; clear hF a; intro a hF
        refine sv hF (v_load sc3 rfl hfk.w0) rfl ?_; clear hF a; intro a hF
        refine sv hF (v_eql rfl rfl) rfl ?_; clear hF a; intro a hF
        refine sv hF (v_assign rfl) rfl ?_; clear hF a; intro a hF
        refine WL_nil (hK _ _ ?_)
        clear hK K
        replace hF := hF.sub _ (c_ 23 rfl (c_ 6 rfl (c_ 0 rfl (c_ 1 rfl (c_ 2 rfl (n_))))))
        refine W_if hF rfl (fun hc4 => ?_) (fun hc4 => ?_)
        · skip
          try simp only [decide_eq_true_eq, decide_eq_false_iff_not, Bool.not_eq_true', Bool.not_eq_false', Bool.not_true, Bool.not_false] at hc4
          refine W_sr rfl (fun K hK => ?_)
          refine sv hF (v_move rfl) rfl ?_; clear hF a; intro a hF
          refine sv hF (v_cv Tryz.underlying3 Tryz.underlying27 rfl (wrap_u32 _ (by omega))) rfl ?_; clear hF a; intro a hF
          refine sv hF (v_move rfl) rfl ?_; clear hF a; intro a hF
          refine sv hF (v_cv Tryz.underlying3 Tryz.underlying27 rfl (wrap_u32 _ (by omega))) rfl ?_; clear hF a; intro a hF
          refine sv hF (v_move rfl) rfl ?_; clear hF a; intro a hF
          refine sv hF (v_nil rfl) rfl ?_; clear hF a; intro a hF
          refine sv hF (v_fieldAddr fa91_1 rfl) rfl ?_; clear hF a; intro a hF
          refine sv hF (v_load sc27 rfl hfk.p0) rfl ?_; clear hF a; intro a hF
          refine sc hF rfl rfl rfl en80 rfl (MulMod_ok B x y p _ hS.inv (by omega) (by omega) (by omega)) ?_; clear hF a; intro v w' a hv hF
          obtain ⟨rfl, hS'⟩ := hv
          replace hS := hS.trans hS'
          clear hS'
          refine sv hF (v_cv Tryz.underlying27 Tryz.underlying3 rfl (wrap_i64 _ (by omega))) rfl ?_; clear hF a; intro a hF
          refine sv hF (v_assign rfl) rfl ?_; clear hF a; intro a hF
          refine WL_nil (hK _ _ ?_)
          clear hK K
          replace hF := hF.sub _ (c_ 6 rfl (c_ 0 rfl (c_ 1 rfl (c_ 2 rfl (n_)))))
          refine W_ret ?_
          refine ⟨_, _, hF, rfl, ?_⟩
          first
            | exact ⟨by rw [gmul_out hc1], hS⟩
            | (subst_vars; exact ⟨by rw [gmul_zl], hS⟩)
            | (subst_vars; exact ⟨by rw [gmul_zr], hS⟩)
            | exact ⟨by rw [gmul_in hx hy, hp.pw_sum ei ej], hS⟩
            | exact ⟨by rw [gmul_in hx hy], hS⟩
        · skip
          try simp only [decide_eq_true_eq, decide_eq_false_iff_not, Bool.not_eq_true', Bool.not_eq_false', Bool.not_true, Bool.not_false] at hc4
          refine W_skip ?_
          refine W_sr rfl (fun K hK => ?_)
          refine sv hF (v_move rfl) rfl ?_; clear hF a; intro a hF
          refine sc hF rfl rfl rfl en81 rfl (ready_ok B wb p k _ hS.inv hfk hp) ?_; clear hF a; intro v w' a hv hF
          obtain ⟨rfl, hS', ge, gl, hmd⟩ := hv
          replace hS := hS.trans hS'
          clear hS'
          refine sv hF (v_assign rfl) rfl ?_; clear hF a; intro a hF
          refine WL_nil (hK _ _ ?_)
          clear hK K
          replace hF := hF.sub _ (c_ 7 rfl (c_ 40 rfl (c_ 39 rfl (c_ 6 rfl (c_ 0 rfl (c_ 1 rfl (c_ 2 rfl (n_))))))))
          obtain ⟨i, hi, ei, li⟩ := hp.log_of hx (by omega)
          obtain ⟨j, hj, ej, lj⟩ := hp.log_of hy (by omega)
          refine W_sd (m := 18) rfl hmix hS.inv (fun K hK w1 hS' hh => ?_)
          replace hmd := hmd.st hS'
          replace hS := hS.trans hS'
          clear hS'
          clear hh
          refine a_v (i := 0) rfl (by kernel_rfl) hF (fun w2 hx => v_move rfl) rfl ?_; clear hF a; intro a hF
          refine a_v (i := 1) rfl (by kernel_rfl) hF (fun w2 hx => v_move rfl) rfl ?_; clear hF a; intro a hF
          refine a_v (i := 2) rfl (by kernel_rfl) hF (fun w2 hx => v_nil rfl) rfl ?_; clear hF a; intro a hF
          refine a_v (i := 3) rfl (by kernel_rfl) hF (fun w2 hx => v_fieldAddr fa89_2 rfl) rfl ?_; clear hF a; intro a hF
          refine a_v (i := 4) rfl (by kernel_rfl) hF (fun w2 hx => v_load sc23 rfl (hx.made _ _ _ _ _ hmd).c6) rfl ?_; clear hF a; intro a hF
          refine a_v (i := 5) rfl (by kernel_rfl) hF (fun w2 hx => v_move rfl) rfl ?_; clear hF a; intro a hF
          refine a_v (i := 6) rfl (by kernel_rfl) hF (fun w2 hx => v_ixS sl23 rfl rfl (by omega) (by omega)) rfl ?_; clear hF a; intro a hF
          refine a_v (i := 7) rfl (by kernel_rfl) hF (fun w2 hx => v_load sc3 rfl (by rw [toNat_c, Nat.zero_add]; exact (hx.made _ _ _ _ _ hmd).log li)) rfl ?_; clear hF a; intro a hF
          refine a_v (i := 8) rfl (by kernel_rfl) hF (fun w2 hx => v_move rfl) rfl ?_; clear hF a; intro a hF
          refine a_v (i := 9) rfl (by kernel_rfl) hF (fun w2 hx => v_nil rfl) rfl ?_; clear hF a; intro a hF
          refine a_v (i := 10) rfl (by kernel_rfl) hF (fun w2 hx => v_fieldAddr fa89_2 rfl) rfl ?_; clear hF a; intro a hF
          refine a_v (i := 11) rfl (by kernel_rfl) hF (fun w2 hx => v_load sc23 rfl (hx.made _ _ _ _ _ hmd).c6) rfl ?_; clear hF a; intro a hF
          refine a_v (i := 12) rfl (by kernel_rfl) hF (fun w2 hx => v_move rfl) rfl ?_; clear hF a; intro a hF
          refine a_v (i := 13) rfl (by kernel_rfl) hF (fun w2 hx => v_ixS sl23 rfl rfl (by omega) (by omega)) rfl ?_; clear hF a; intro a hF
          refine a_v (i := 14) rfl (by kernel_rfl) hF (fun w2 hx => v_load sc3 rfl (by rw [toNat_c, Nat.zero_add]; exact (hx.made _ _ _ _ _ hmd).log lj)) rfl ?_; clear hF a; intro a hF
          refine a_v (i := 15) rfl (by kernel_rfl) hF (fun w2 hx => v_addI rfl rfl (by omega)) rfl ?_; clear hF a; intro a hF
          refine a_e (i := 16) rfl (by kernel_rfl) ?_
          refine sc hF rfl rfl rfl en82 rfl (Exp_some B wb p k ((i : Int) + (j : Int)) _ hS.inv hmd.fok hp (by omega)) ?_; clear hF a; intro v w' a hv hF
          obtain ⟨rfl, hS'⟩ := hv
          refine WL_nil ⟨hS'.ext, ?_⟩
          replace hmd := hmd.st hS'
          replace hS := hS.trans hS'
          clear hS'
          refine a_v (i := 17) rfl (by kernel_rfl) hF (fun w2 hx => v_assign rfl) rfl ?_; clear hF a; intro a hF
          refine a_done (by kernel_rfl) (hK _ _ ?_)
          clear hK K
          refine W_ret ?_
          refine ⟨_, _, hF, rfl, ?_⟩
          first
            | exact ⟨by rw [gmul_out hc1], hS⟩
            | (subst_vars; exact ⟨by rw [gmul_zl], hS⟩)
            | (subst_vars; exact ⟨by rw [gmul_zr], hS⟩)
            | exact ⟨by rw [gmul_in hx hy, hp.pw_sum ei ej], hS⟩
            | exact ⟨by rw [gmul_in hx hy], hS⟩

theorem powB_prm {wb p X n : Nat} (hp : Prm wb p) : powB X p 1 n = Px.pow X p n := by rw [← hp.mod1, powB_one]

set_option maxRecDepth 100000 in
set_option maxHeartbeats 1000000 in
theorem Pow_gf (B : Nat) (o : Fq) (fv : Value) (ia n : Int) (w : World) (hI : Inv FDx B w) (hf : Fo FDx B w fv o) (hn : -9223372036854775808 ≤ n ∧ n < 9223372036854775808) : Ret Tryz.prog 43 [fv, .int .i64 ia, .int .i64 n] w fun v w' => v = .int .i64 (gpow o ia n) ∧ St FDx B w w' := by
  refine enter 33 [(0, fv), (1, .int .i64 ia), (2, .int .i64 n)] 6 Tryz.func43 rfl rfl rfl rfl rfl ?_; intro a hF
  have hS := St.refl hI
  refine W_sr rfl (fun K hK => ?_)
  refine sv hF (v_assign rfl) rfl ?_; clear hF a; intro a hF
  refine WL_nil (hK _ _ ?_)
  clear hK K
  refine W_seq ?_
  refine W_sr rfl (fun K hK => ?_)
  refine sv hF (v_move rfl) rfl ?_; clear hF a; intro a hF
  refine sv hF (v_move rfl) rfl ?_; clear hF a; intro a hF
  refine s_bs (D := FDx) (B := B) hF sl23 rfl rfl (by decide) (by simp [Value.cells]) (by decide) hS.inv rfl ?_; clear hF a; intro w' a hm hI' hb hF
  replace hf := hf.mb hm
  replace hS := hS.mb0 hm
  clear hm hI'
  refine sc hF rfl rfl rfl en69 rfl (in_ok B o fv (some ⟨_, 0, none⟩) 1 [ia] _ hS.inv hf (by simp) (own_in (D := FDx) (B := B) (zs := [ia]) hb (by decide))) ?_; clear hF a; intro v w' a hv hF
  clear hb
  obtain ⟨rfl, rfl⟩ := hv
  have hS' := St.refl hS.inv
  replace hf := hf.st hS'
  replace hS := hS.trans hS'
  clear hS'
  refine sb hF (v_not rfl) rfl ?_ ?_
  · clear hF a; intro hc1 a hF
    try simp only [decide_eq_true_eq, decide_eq_false_iff_not, Bool.not_eq_true', Bool.not_eq_false', Bool.not_true, Bool.not_false] at hc1
    refine sv hF (v_move rfl) rfl ?_; clear hF a; intro a hF
    refine svn hF rfl rfl rfl ?_; clear hF a; intro a hF
    refine svn hF rfl rfl rfl ?_; clear hF a; intro a hF
    refine sv hF (v_pickT rfl rfl) rfl ?_; clear hF a; intro a hF
    refine WL_nil (hK _ _ ?_)
    clear hK K
    replace hF := hF.sub _ (c_ 16 rfl (c_ 6 rfl (c_ 0 rfl (c_ 1 rfl (c_ 2 rfl (n_))))))
    refine W_ifT hF rfl ?_
    refine W_sr rfl (fun K hK => ?_)
    refine sv hF (v_assign rfl) rfl ?_; clear hF a; intro a hF
    refine WL_nil (hK _ _ ?_)
    clear hK K
    replace hF := hF.sub _ (c_ 6 rfl (c_ 0 rfl (c_ 1 rfl (c_ 2 rfl (n_)))))
    refine W_ret ?_
    refine ⟨_, _, hF, rfl, ?_⟩
    rw [all1] at hc1
    exact ⟨by rw [gpow_out (.inl hc1)], hS⟩
  · clear hF a; intro hc1 a hF
    try simp only [decide_eq_true_eq, decide_eq_false_iff_not, Bool.not_eq_true', Bool.not_eq_false', Bool.not_true, Bool.not_false] at hc1
    refine sv hF (v_move rfl) rfl ?_; clear hF a; intro a hF
    refine svg hF rfl ?_
    refine sv hF (v_move rfl) rfl ?_; clear hF a; intro a hF
    refine svg hF rfl ?_
    refine sv hF (v_lss rfl rfl) rfl ?_; clear hF a; intro a hF
    refine sv hF (v_pickF rfl rfl) rfl ?_; clear hF a; intro a hF
    refine WL_nil (hK _ _ ?_)
    clear hK K
    replace hF := hF.sub _ (c_ 16 rfl (c_ 6 rfl (c_ 0 rfl (c_ 1 rfl (c_ 2 rfl (n_))))))
    refine W_if hF rfl (fun hc2 => ?_) (fun hc2 => ?_)
    · skip
      try simp only [decide_eq_true_eq, decide_eq_false_iff_not, Bool.not_eq_true', Bool.not_eq_false', Bool.not_true, Bool.not_false] at hc2
      refine W_sr rfl (fun K hK => ?_)
      refine sv hF (v_assign rfl) rfl ?_; clear hF a; intro a hF
      refine WL_nil (hK _ _ ?_)
      clear hK K
      replace hF := hF.sub _ (c_ 6 rfl (c_ 0 rfl (c_ 1 rfl (c_ 2 rfl (n_)))))
      refine W_ret ?_
      refine ⟨_, _, hF, rfl, ?_⟩
      exact ⟨by rw [gpow_out (.inr (by omega))], hS⟩
    · skip
      try simp only [decide_eq_true_eq, decide_eq_false_iff_not, Bool.not_eq_true', Bool.not_eq_false', Bool.not_true, Bool.not_false] at hc2
      refine W_skip ?_
      rw [all1] at hc1
      have hin := hc1
      obtain ⟨wb, p, k, rfl, rfl, hp, hfk⟩ := fo_some hf (a := ia) hin
      obtain ⟨x0, rfl, hx0⟩ := inF_nat hin
      obtain ⟨n0, rfl⟩ : ∃ n0 : Nat, n = (n0 : Int) := ⟨n.toNat, by omega⟩
      have hsz := hp.size
      refine W_sr rfl (fun K hK => ?_)
      refine sv hF (v_assign rfl) rfl ?_; clear hF a; intro a hF
      refine WL_nil (hK _ _ ?_)
      clear hK K
      replace hF := hF.sub _ (c_ 7 rfl (c_ 6 rfl (c_ 0 rfl (c_ 1 rfl (c_ 2 rfl (n_))))))
      refine W_seq ?_
      refine W_block ?_
      refine W_loop (fun m a w1 => ∃ x q : Nat, Fr 33 [(0, .pointer (some ⟨k, 0, none⟩)), (1, .int .i64 (x : Int)), (2, .int .i64 (m : Int)), (7, .int .i64 (q : Int))] a ∧ St FDx B w w1 ∧ Fo FDx B w1 (.pointer (some ⟨k, 0, none⟩)) (some (wb, p)) ∧ powB x p q m = powB x0 p 1 n0 ∧ x < 2 ^ wb ∧ q < 2 ^ wb ∧ m < 9223372036854775808) (n0) ?_ ?_
      · skip
        exact ⟨_, 1, hF.sub _ (c_ 0 rfl (c_ 1 rfl (c_ 2 rfl (c_ 7 rfl n_)))), hS, hf, rfl, hx0, by omega, by omega⟩
      · skip
        clear hF
        clear hS hf hfk
        rintro m a w1 ⟨x, q, hF, hS, hf, hg, hx, hq, hm⟩
        refine W_seq ?_
        refine W_sr rfl (fun K hK => ?_)
        refine sv hF (v_move rfl) rfl ?_; clear hF a; intro a hF
        refine sv hF (v_gtr rfl rfl) rfl ?_; clear hF a; intro a hF
        refine WL_nil (hK _ _ ?_)
        clear hK K
        replace hF := hF.sub _ (c_ 18 rfl (c_ 0 rfl (c_ 1 rfl (c_ 2 rfl (c_ 7 rfl (n_))))))
        refine W_if hF rfl (fun hc3 => ?_) (fun hc3 => ?_)
        · skip
          try simp only [decide_eq_true_eq, decide_eq_false_iff_not, Bool.not_eq_true', Bool.not_eq_false', Bool.not_true, Bool.not_false] at hc3
          refine W_skip ?_
          refine W_seq ?_
          refine W_block ?_
          refine W_seq ?_
          refine W_sr rfl (fun K hK => ?_)
          refine sv hF (v_move rfl) rfl ?_; clear hF a; intro a hF
          refine sv hF (v_andN (n := 1) rfl rfl (fits_i64 hm) (fits_i64 (by decide))) rfl ?_; clear hF a; intro a hF
          refine sv hF (v_eql rfl rfl) rfl ?_; clear hF a; intro a hF
          refine WL_nil (hK _ _ ?_)
          clear hK K
          replace hF := hF.sub _ (c_ 23 rfl (c_ 0 rfl (c_ 1 rfl (c_ 2 rfl (c_ 7 rfl (n_))))))
          refine W_if hF rfl (fun hc4 => ?_) (fun hc4 => ?_)
          · skip
            try simp only [decide_eq_true_eq, decide_eq_false_iff_not, Bool.not_eq_true', Bool.not_eq_false', Bool.not_true, Bool.not_false] at hc4
            rw [Nat.and_one_is_mod] at hc4
            rw [powB_odd x p q (by omega)] at hg
            have hml := hp.mulMod_lt q x
            refine W_reg rfl (fun K hK => ?_)
            refine sv hF (v_move rfl) rfl ?_; clear hF a; intro a hF
            refine sv hF (v_move rfl) rfl ?_; clear hF a; intro a hF
            refine sv hF (v_move rfl) rfl ?_; clear hF a; intro a hF
            refine sc hF rfl rfl rfl en56 rfl (Mul_gf B (some (wb, p)) _ q x _ hS.inv hf) ?_; clear hF a; intro v w' a hv hF
            obtain ⟨rfl, hS'⟩ := hv
            replace hf := hf.st hS'
            replace hS := hS.trans hS'
            clear hS'
            rw [gmul_in hq hx] at hF
            refine sv hF (v_assign rfl) rfl ?_; clear hF a; intro a hF
            refine WL_nil (hK _ _ ?_)
            clear hK K
            replace hF := hF.sub _ (c_ 7 rfl (c_ 0 rfl (c_ 1 rfl (c_ 2 rfl (n_)))))
            refine W_reg rfl (fun K hK => ?_)
            refine sv hF (v_move rfl) rfl ?_; clear hF a; intro a hF
            refine sv hF (v_move rfl) rfl ?_; clear hF a; intro a hF
            refine sv hF (v_move rfl) rfl ?_; clear hF a; intro a hF
            refine sc hF rfl rfl rfl en56 rfl (Mul_gf B (some (wb, p)) _ x x _ hS.inv hf) ?_; clear hF a; intro v w' a hv hF
            obtain ⟨rfl, hS'⟩ := hv
            replace hf := hf.st hS'
            replace hS := hS.trans hS'
            clear hS'
            rw [gmul_in hx hx] at hF
            refine sv hF (v_assign rfl) rfl ?_; clear hF a; intro a hF
            refine WL_nil (hK _ _ ?_)
            clear hK K
            replace hF := hF.sub _ (c_ 1 rfl (c_ 7 rfl (c_ 0 rfl (c_ 2 rfl (n_)))))
            refine W_reg rfl (fun K hK => ?_)
            refine sv hF (v_move rfl) rfl ?_; clear hF a; intro a hF
            refine sv hF (v_shrN (m := m) rfl rfl (by decide)) rfl ?_; clear hF a; intro a hF
            refine sv hF (v_assign rfl) rfl ?_; clear hF a; intro a hF
            refine WL_nil (hK _ _ ?_)
            clear hK K
            exact ⟨m / 2, by omega, _, _, hF.sub _ (c_ 0 rfl (c_ 1 rfl (c_ 2 rfl (c_ 7 rfl n_)))), hS, hf, hg, hp.mulMod_lt _ _, by first | exact hml | exact hq, by omega⟩
          · skip
            try simp only [decide_eq_true_eq, decide_eq_false_iff_not, Bool.not_eq_true', Bool.not_eq_false', Bool.not_true, Bool.not_false] at hc4
            rw [Nat.and_one_is_mod] at hc4
            rw [powB_even x p q (by omega) (by omega)] at hg
            refine W_skip ?_
            refine W_reg rfl (fun K hK => ?_)
            refine sv hF (v_move rfl) rfl ?_; clear hF a; intro a hF
            refine sv hF (v_move rfl) rfl ?_; clear hF a; intro a hF
            refine sv hF (v_move rfl) rfl ?_; clear hF a; intro a hF
            refine sc hF rfl rfl rfl en56 rfl (Mul_gf B (some (wb, p)) _ x x _ hS.inv hf) ?_; clear hF a; intro v w' a hv hF
            obtain ⟨rfl, hS'⟩ := hv
            replace hf := hf.st hS'
            replace hS := hS.trans hS'
            clear hS'
            rw [gmul_in hx hx] at hF
            refine sv hF (v_assign rfl) rfl ?_; clear hF a; intro a hF
            refine WL_nil (hK _ _ ?_)
            clear hK K
            replace hF := hF.sub _ (c_ 1 rfl (c_ 0 rfl (c_ 2 rfl (c_ 7 rfl (n_)))))
            refine W_reg rfl (fun K hK => ?_)
            refine sv hF (v_move rfl) rfl ?_; clear hF a; intro a hF
            refine sv hF (v_shrN (m := m) rfl rfl (by decide)) rfl ?_; clear hF a; intro a hF
            refine sv hF (v_assign rfl) rfl ?_; clear hF a; intro a hF
            refine WL_nil (hK _ _ ?_)
            clear hK K
            exact ⟨m / 2, by omega, _, _, hF.sub _ (c_ 0 rfl (c_ 1 rfl (c_ 2 rfl (c_ 7 rfl n_)))), hS, hf, hg, hp.mulMod_lt _ _, by first | exact hml | exact hq, by omega⟩
        · skip
          try simp only [decide_eq_true_eq, decide_eq_false_iff_not, Bool.not_eq_true', Bool.not_eq_false', Bool.not_true, Bool.not_false] at hc3
          obtain rfl : m = 0 := by omega
          rw [powB_zero] at hg
          refine W_exit rfl ?_
          refine W_sr rfl (fun K hK => ?_)
          refine sv hF (v_move rfl) rfl ?_; clear hF a; intro a hF
          refine sv hF (v_assign rfl) rfl ?_; clear hF a; intro a hF
          refine WL_nil (hK _ _ ?_)
          clear hK K
          replace hF := hF.sub _ (c_ 6 rfl (c_ 32 rfl (c_ 0 rfl (c_ 1 rfl (c_ 2 rfl (c_ 7 rfl (n_)))))))
          refine W_ret ?_
          refine ⟨_, _, hF, rfl, ?_⟩
          exact ⟨by rw [gpow_in hx0, hg, powB_prm hp], hS⟩

set_option maxRecDepth 100000 in
set_option maxHeartbeats 1000000 in
theorem Inv_gf (B : Nat) (o : Fq) (fv : Value) (ia : Int) (w : World) (hI : Inv FDx B w) (hf : Fo FDx B w fv o) : Ret Tryz.prog 59 [fv, .int .i64 ia] w fun v w' => v = .tuple #[.int .i64 (ginv o ia), .bool (ginvb o ia)] ∧ St FDx B w w' := by
  refine enter2 21 [(0, fv), (1, .int .i64 ia)] 4 5 Tryz.func59 rfl rfl rfl rfl rfl ?_; intro a hF
  have hS := St.refl hI
  refine W_sr rfl (fun K hK => ?_)
  refine sv hF (v_assign rfl) rfl ?_; clear hF a; intro a hF
  refine sv hF (v_assign rfl) rfl ?_; clear hF a; intro a hF
  refine WL_nil (hK _ _ ?_)
  clear hK K
  refine W_seq ?_
  refine W_sr rfl (fun K hK => ?_)
  refine sv hF (v_move rfl) rfl ?_; clear hF a; intro a hF
  refine sv hF (v_move rfl) rfl ?_; clear hF a; intro a hF
  refine s_bs (D := FDx) (B := B) hF sl23 rfl rfl (by decide) (by simp [Value.cells]) (by decide) hS.inv rfl ?_; clear hF a; intro w' a hm hI' hb hF
  replace hf := hf.mb hm
  replace hS := hS.mb0 hm
  clear hm hI'
  refine sc hF rfl rfl rfl en69 rfl (in_ok B o fv (some ⟨_, 0, none⟩) 1 [ia] _ hS.inv hf (by simp) (own_in (D := FDx) (B := B) (zs := [ia]) hb (by decide))) ?_; clear hF a; intro v w' a hv hF
  clear hb
  obtain ⟨rfl, rfl⟩ := hv
  have hS' := St.refl hS.inv
  replace hf := hf.st hS'
  replace hS := hS.trans hS'
  clear hS'
  refine sb hF (v_not rfl) rfl ?_ ?_
  · clear hF a; intro hc1 a hF
    try simp only [decide_eq_true_eq, decide_eq_false_iff_not, Bool.not_eq_true', Bool.not_eq_false', Bool.not_true, Bool.not_false] at hc1
    refine sv hF (v_move rfl) rfl ?_; clear hF a; intro a hF
    refine svn hF rfl rfl rfl ?_; clear hF a; intro a hF
    refine svn hF rfl rfl rfl ?_; clear hF a; intro a hF
    refine sv hF (v_pickT rfl rfl) rfl ?_; clear hF a; intro a hF
    refine WL_nil (hK _ _ ?_)
    clear hK K
    replace hF := hF.sub _ (c_ 14 rfl (c_ 5 rfl (c_ 4 rfl (c_ 0 rfl (c_ 1 rfl (n_))))))
    refine W_ifT hF rfl ?_
    refine W_sr rfl (fun K hK => ?_)
    refine sv hF (v_assign rfl) rfl ?_; clear hF a; intro a hF
    refine sv hF (v_assign rfl) rfl ?_; clear hF a; intro a hF
    refine WL_nil (hK _ _ ?_)
    clear hK K
    replace hF := hF.sub _ (c_ 5 rfl (c_ 4 rfl (c_ 0 rfl (c_ 1 rfl (n_)))))
    refine W_ret ?_
    refine ⟨_, _, _, hF, rfl, rfl, ?_⟩
    rw [all1] at hc1
    exact ⟨by rw [ginv_out (.inl hc1), ginvb_out (.inl hc1)], hS⟩
  · clear hF a; intro hc1 a hF
    try simp only [decide_eq_true_eq, decide_eq_false_iff_not, Bool.not_eq_true', Bool.not_eq_false', Bool.not_true, Bool.not_false] at hc1
    refine sv hF (v_move rfl) rfl ?_; clear hF a; intro a hF
    refine svg hF rfl ?_
    refine sv hF (v_move rfl) rfl ?_; clear hF a; intro a hF
    refine svg hF rfl ?_
    refine sv hF (v_eql rfl rfl) rfl ?_; clear hF a; intro a hF
    refine sv hF (v_pickF rfl rfl) rfl ?_; clear hF a; intro a hF
    refine WL_nil (hK _ _ ?_)
    clear hK K
    replace hF := hF.sub _ (c_ 14 rfl (c_ 5 rfl (c_ 4 rfl (c_ 0 rfl (c_ 1 rfl (n_))))))
    refine W_if hF rfl (fun hc2 => ?_) (fun hc2 => ?_)
    · skip
      try simp only [decide_eq_true_eq, decide_eq_false_iff_not, Bool.not_eq_true', Bool.not_eq_false', Bool.not_true, Bool.not_false] at hc2
      refine W_sr rfl (fun K hK => ?_)
      refine sv hF (v_assign rfl) rfl ?_; clear hF a; intro a hF
      refine sv hF (v_assign rfl) rfl ?_; clear hF a; intro a hF
      refine WL_nil (hK _ _ ?_)
      clear hK K
      replace hF := hF.sub _ (c_ 5 rfl (c_ 4 rfl (c_ 0 rfl (c_ 1 rfl (n_)))))
      refine W_ret ?_
      refine ⟨_, _, _, hF, rfl, rfl, ?_⟩
      exact ⟨by rw [ginv_out (.inr (by omega)), ginvb_out (.inr (by omega))], hS⟩
    · skip
      try simp only [decide_eq_true_eq, decide_eq_false_iff_not, Bool.not_eq_true', Bool.not_eq_false', Bool.not_true, Bool.not_false] at hc2
      refine W_skip ?_
      rw [all1] at hc1
      have hsz := fsz_le hf
      refine W_sr rfl (fun K hK => ?_)
      refine sv hF (v_move rfl) rfl ?_; clear hF a; intro a hF
      refine sv hF (v_move rfl) rfl ?_; clear hF a; intro a hF
      refine sv hF (v_move rfl) rfl ?_; clear hF a; intro a hF
      refine sc hF rfl rfl rfl en37 rfl (Size_ok B o fv _ hf) ?_; clear hF a; intro v w' a hv hF
      obtain ⟨rfl, rfl⟩ := hv
      have hS' := St.refl hS.inv
      replace hf := hf.st hS'
      replace hS := hS.trans hS'
      clear hS'
      refine sv hF (v_subI rfl rfl (by omega)) rfl ?_; clear hF a; intro a hF
      refine sc hF rfl rfl rfl en43 rfl (Pow_gf B o fv ia ((fsz o : Int) - 2) _ hS.inv hf (by omega)) ?_; clear hF a; intro v w' a hv hF
      obtain ⟨rfl, hS'⟩ := hv
      replace hf := hf.st hS'
      replace hS := hS.trans hS'
      clear hS'
      refine sv hF (v_assign rfl) rfl ?_; clear hF a; intro a hF
      refine sv hF (v_assign rfl) rfl ?_; clear hF a; intro a hF
      refine WL_nil (hK _ _ ?_)
      clear hK K
      replace hF := hF.sub _ (c_ 5 rfl (c_ 4 rfl (n_)))
      refine W_ret ?_
      refine ⟨_, _, _, hF, rfl, rfl, ?_⟩
      exact ⟨by rw [ginv_in hc1 (by omega), ginvb_in hc1 (by omega)], hS⟩

end Go.Proofs.YtcnlooajjnghaaaGreat
