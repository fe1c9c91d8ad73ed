/- The walks of package gf: products, powers, inverses. -/
import Derived.Test.YtaeljbdpjiciaaaFGf
import Derived.Test.YtaeljbdpjiciaaaGGg
set_option linter.unusedVariables false
set_option linter.unusedSimpArgs false
namespace Go.Proofs.Ytaeljbdpjiciaaa
open Go Go.Gam


namespace FxFGfb
theorem en29 : Ent Try.prog 29 := ent Try.func29 (by kernel_rfl) (by kernel_rfl)
theorem en42 : Ent Try.prog 42 := ent Try.func42 (by kernel_rfl) (by kernel_rfl)
theorem en53 : Ent Try.prog 53 := ent Try.func53 (by kernel_rfl) (by kernel_rfl)
theorem en64 : Ent Try.prog 64 := ent Try.func64 (by kernel_rfl) (by kernel_rfl)
theorem en65 : Ent Try.prog 65 := ent Try.func65 (by kernel_rfl) (by kernel_rfl)
theorem en66 : Ent Try.prog 66 := ent Try.func66 (by kernel_rfl) (by kernel_rfl)
theorem en67 : Ent Try.prog 67 := ent Try.func67 (by kernel_rfl) (by kernel_rfl)
theorem en96 : Ent Try.prog 96 := ent Try.func96 (by kernel_rfl) (by kernel_rfl)
theorem fa101_0 : FieldFact Try.prog 101 0 0 := ff_of (sz := 2) Try.underlying101 (by kernel_rfl)
theorem fa101_1 : FieldFact Try.prog 101 1 3 := ff_of (sz := 0) Try.underlying101 (by kernel_rfl)
theorem fa101_2 : FieldFact Try.prog 101 2 4 := ff_of (sz := 0) Try.underlying101 (by kernel_rfl)
theorem fa103_0 : FieldFact Try.prog 103 0 0 := ff_of (sz := 0) Try.underlying103 (by kernel_rfl)
theorem fa103_1 : FieldFact Try.prog 103 1 1 := ff_of (sz := 0) Try.underlying103 (by kernel_rfl)
theorem fa103_2 : FieldFact Try.prog 103 2 2 := ff_of (sz := 4) Try.underlying103 (by kernel_rfl)
theorem hmix : Try.prog.follows .mixedOrders = true := by kernel_rfl
theorem sc23 : Scalar Try.prog 23 := ⟨_, Try.underlying23, by simp, by simp⟩
theorem sc24 : Scalar Try.prog 24 := ⟨_, Try.underlying24, by simp, by simp⟩
theorem sc3 : Scalar Try.prog 3 := ⟨_, Try.underlying3, by simp, by simp⟩
theorem sc37 : Scalar Try.prog 37 := ⟨_, Try.underlying37, by simp, by simp⟩
theorem sl37 : Sl Try.prog 37 3 (.int .i64 0) 8 := sl_of Try.underlying37 rfl (by kernel_rfl)
end FxFGfb
open FxFGfb

theorem Do_made_ok (B wb p k ge gl pb : Nat) (w : World) (hm : Made FDx B w k wb p ge gl) :
    Ret Try.prog 96 [.pointer (some ⟨k, 2, none⟩), .func (.func 97) #[] #[.pointer (some ⟨pb, 0, none⟩)]] w fun v w' => v = .tuple #[] ∧ w' = w :=
  (do_done k 2 _ w hm.c2).mono fun e w' ⟨h1, h2⟩ => ⟨_, h1, rfl, h2⟩

theorem Do_new_ok (B wb p k pb : Nat) (w : World) (hI : Inv FDx B w) (hB : B ≤ k) (hk : w.heap[k]? = some (.cells (fcells wb p 0 (.slice none 0 0) (.slice none 0 0)) FDx.T (0, 0))) (hp : Prm wb p)
    (hc : w.cell? ⟨pb, 0, none⟩ = some (.pointer (some ⟨k, 0, none⟩))) (hkb : k ≠ pb) :
    Ret Try.prog 96 [.pointer (some ⟨k, 2, none⟩), .func (.func 97) #[] #[.pointer (some ⟨pb, 0, none⟩)]] w fun v w' => v = .tuple #[] ∧ St FDx B w w' ∧ ∃ ge gl, Made FDx B w' k wb p ge gl := by
  have hu := setCell_heap (i := 3) (.int .i32 1) hk
  have hc' : (w.setCell ⟨k, 3, none⟩ (.int .i32 1)).cell? ⟨pb, 0, none⟩ = some (.pointer (some ⟨k, 0, none⟩)) := (cell_of_heap (a := ⟨pb, 0, none⟩) (hu.keep pb (Ne.symm hkb))).trans hc
  refine (do_first k 2 ⟨pb, 0, none⟩ w (fun w2 => ∃ g1 g2, Tst FDx (w.setCell ⟨k, 3, none⟩ (.int .i32 1)) w2 k #[.int .i64 (wb : Int), .int .u32 (p : Int), .int .u32 0, .int .i32 1, .int .u32 0, .slice (some ⟨g1, 0, none⟩) (2 ^ wb) (2 ^ wb), .slice (some ⟨g2, 0, none⟩) (2 ^ wb) (2 ^ wb)] g1 g2 (Px.expL wb p (2 ^ wb - 1)) (Px.logL wb p (2 ^ wb - 1))) ?_ ?_ ?_ ?_ ?_).mono ?_
  · simp [World.cell?, hk, fcells]
  · simp [World.cell?, hk, fcells]
  · simp [World.frozen?, hk]
  · exact Calls.mono (ready1_ok wb p k pb (.int .u32 0) (.int .i32 1) (.int .u32 0) _ hp hu.new hc' hkb) fun e w' ⟨v, h1, h2, h3⟩ => ⟨by rw [h1, h2], h3⟩
  · rintro w2 ⟨g1, g2, hT⟩
    exact ⟨hT.c 2 rfl, hT.c 3 rfl, by simp [World.frozen?, hT.blk], by simp [World.frozen?, hT.blk]⟩
  · rintro e w' ⟨rfl, w2, ⟨g1, g2, hT⟩, rfl⟩
    have h := hT.done hI hB hk
    exact ⟨_, rfl, rfl, h.1, g1, g2, h.2⟩

set_option maxRecDepth 100000 in
set_option maxHeartbeats 1000000 in
theorem ready_made (B wb p k ge gl : Nat) (w : World) (hI : Inv FDx B w) (hmd : Made FDx B w k wb p ge gl) : Ret Try.prog 66 [.pointer (some ⟨k, 0, none⟩)] w fun v w' => v = .pointer (some ⟨k, 2, none⟩) ∧ St FDx B w w' ∧ ∃ ge gl, Made FDx B w' k wb p ge gl := by
  refine enter 12 [(0, .pointer (some ⟨k, 0, none⟩))] 2 Try.func66 rfl rfl rfl rfl rfl ?_; intro a hF
  have hS := St.refl hI
  refine W_sr rfl (fun K hK => ?_)
  refine s_box (D := FDx) (B := B) hF rfl (by decide) hS.inv rfl ?_; clear hF a; intro w' a hm hbox hsz hF
  replace hmd := hm.made hmd
  replace hS := hS.mb0 hm
  clear hm
  refine sv hF (v_assign rfl) rfl ?_; clear hF a; intro a hF
  refine WL_nil (hK _ _ ?_)
  clear hK K
  replace hF := hF.sub _ (c_ 2 rfl (c_ 1 rfl (n_)))
  refine W_sr rfl (fun K hK => ?_)
  refine sv hF (v_load sc23 rfl (hbox.at 0 rfl)) rfl ?_; clear hF a; intro a hF
  refine sv hF (v_nil rfl) rfl ?_; clear hF a; intro a hF
  refine sv hF (v_fieldAddr fa103_2 rfl) rfl ?_; clear hF a; intro a hF
  refine sv hF (v_fieldAddr fa101_0 rfl) rfl ?_; clear hF a; intro a hF
  refine sv hF (v_mkf rfl) rfl ?_; clear hF a; intro a hF
  refine sc hF rfl rfl rfl en96 rfl (Do_made_ok B wb p k ge gl _ _ hmd) ?_; clear hF a; intro v w' a hv hF
  obtain ⟨rfl, rfl⟩ := hv
  have hS' := St.refl hS.inv
  replace hmd := hmd.st hS'
  replace hbox := hbox.st (by decide) hS'
  replace hS := hS.trans hS'
  clear hS'
  refine WL_nil (hK _ _ ?_)
  clear hK K
  replace hF := hF.sub _ (c_ 2 rfl (c_ 1 rfl (n_)))
  refine W_sr rfl (fun K hK => ?_)
  refine sv hF (v_load sc23 rfl (hbox.at 0 rfl)) rfl ?_; clear hF a; intro a hF
  refine sv hF (v_nil rfl) rfl ?_; clear hF a; intro a hF
  refine sv hF (v_fieldAddr fa103_2 rfl) rfl ?_; clear hF a; intro a hF
  refine sv hF (v_assign rfl) rfl ?_; clear hF a; intro a hF
  refine WL_nil (hK _ _ ?_)
  clear hK K
  replace hF := hF.sub _ (c_ 2 rfl (n_))
  refine W_ret ?_
  refine ⟨_, _, hF, rfl, ?_⟩
  exact ⟨rfl, hS, _, _, hmd⟩

set_option maxRecDepth 100000 in
set_option maxHeartbeats 1000000 in
theorem ready_new (B wb p k : Nat) (w : World) (hI : Inv FDx B w) (hB : B ≤ k) (hk : w.heap[k]? = some (.cells (fcells wb p 0 (.slice none 0 0) (.slice none 0 0)) FDx.T (0, 0))) (hp : Prm wb p) : Ret Try.prog 66 [.pointer (some ⟨k, 0, none⟩)] w fun v w' => v = .pointer (some ⟨k, 2, none⟩) ∧ St FDx B w w' ∧ ∃ ge gl, Made FDx B w' k wb p ge gl := by
  refine enter 12 [(0, .pointer (some ⟨k, 0, none⟩))] 2 Try.func66 rfl rfl rfl rfl rfl ?_; intro a hF
  have hS := St.refl hI
  have hlt := heap_lt hk
  refine W_sr rfl (fun K hK => ?_)
  refine s_box (D := FDx) (B := B) hF rfl (by decide) hS.inv rfl ?_; clear hF a; intro w' a hm hbox hsz hF
  replace hk := (hm.keep _ (heap_lt hk) (by simp)).trans hk
  replace hS := hS.mb0 hm
  clear hm
  have hkb : k ≠ w.heap.size := by omega
  generalize w.heap.size = pb at *
  refine sv hF (v_assign rfl) rfl ?_; clear hF a; intro a hF
  refine WL_nil (hK _ _ ?_)
  clear hK K
  replace hF := hF.sub _ (c_ 2 rfl (c_ 1 rfl (n_)))
  refine W_sr rfl (fun K hK => ?_)
  refine sv hF (v_load sc23 rfl (hbox.at 0 rfl)) rfl ?_; clear hF a; intro a hF
  refine sv hF (v_nil rfl) rfl ?_; clear hF a; intro a hF
  refine sv hF (v_fieldAddr fa103_2 rfl) rfl ?_; clear hF a; intro a hF
  refine sv hF (v_fieldAddr fa101_0 rfl) rfl ?_; clear hF a; intro a hF
  refine sv hF (v_mkf rfl) rfl ?_; clear hF a; intro a hF
  refine sc hF rfl rfl rfl en96 rfl (Do_new_ok B wb p k pb _ hS.inv hB hk hp (hbox.at 0 rfl) hkb) ?_; clear hF a; intro v w' a hv hF
  clear hk
  obtain ⟨rfl, hS', hmd⟩ := hv
  replace hbox := hbox.st (by decide) hS'
  replace hS := hS.trans hS'
  clear hS'
  refine WL_nil (hK _ _ ?_)
  clear hK K
  replace hF := hF.sub _ (c_ 2 rfl (c_ 1 rfl (n_)))
  refine W_sr rfl (fun K hK => ?_)
  refine sv hF (v_load sc23 rfl (hbox.at 0 rfl)) rfl ?_; clear hF a; intro a hF
  refine sv hF (v_nil rfl) rfl ?_; clear hF a; intro a hF
  refine sv hF (v_fieldAddr fa103_2 rfl) rfl ?_; clear hF a; intro a hF
  refine sv hF (v_assign rfl) rfl ?_; clear hF a; intro a hF
  refine WL_nil (hK _ _ ?_)
  clear hK K
  replace hF := hF.sub _ (c_ 2 rfl (n_))
  refine W_ret ?_
  refine ⟨_, _, hF, rfl, ?_⟩
  exact ⟨rfl, hS, hmd⟩

theorem ready_ok (B wb p k : Nat) (w : World) (hI : Inv FDx B w) (hf : FOK FDx B w k wb p) (hp : Prm wb p) : Ret Try.prog 66 [.pointer (some ⟨k, 0, none⟩)] w fun v w' => v = .pointer (some ⟨k, 2, none⟩) ∧ St FDx B w w' ∧ ∃ ge gl, Made FDx B w' k wb p ge gl := by
  rcases hf.cases with ⟨hB, hk⟩ | ⟨ge, gl, hmd⟩
  · exact ready_new B wb p k w hI hB hk hp
  · exact ready_made B wb p k ge gl w hI hmd

set_option maxRecDepth 100000 in
set_option maxHeartbeats 1000000 in
theorem Exp_nil (B : Nat) (n : Int) (w : World) (hI : Inv FDx B w) : Ret Try.prog 67 [.pointer none, .int .i64 n] w fun v w' => v = .int .i64 (0) ∧ St FDx B w w' := by
  refine enter 25 [(0, .pointer none), (1, .int .i64 n)] 4 Try.func67 rfl rfl rfl rfl rfl ?_; intro a hF
  have hS := St.refl hI
  refine W_sr rfl (fun K hK => ?_)
  refine sv hF (v_assign rfl) rfl ?_; clear hF a; intro a hF
  refine WL_nil (hK _ _ ?_)
  clear hK K
  refine W_seq ?_
  refine W_sr rfl (fun K hK => ?_)
  refine sv hF (v_move rfl) rfl ?_; clear hF a; intro a hF
  refine sv hF ((v_eqlNil (by exact Try.underlying23) rfl rfl).as (congrArg Value.bool (rfl))) rfl ?_; clear hF a; intro a hF
  refine WL_nil (hK _ _ ?_)
  clear hK K
  replace hF := hF.sub _ (c_ 7 rfl (c_ 4 rfl (c_ 0 rfl (c_ 1 rfl (n_)))))
  refine W_ifT hF rfl ?_
  refine W_sr rfl (fun K hK => ?_)
  refine sv hF (v_assign rfl) rfl ?_; clear hF a; intro a hF
  refine WL_nil (hK _ _ ?_)
  clear hK K
  replace hF := hF.sub _ (c_ 4 rfl (c_ 0 rfl (c_ 1 rfl (n_))))
  refine W_ret ?_
  refine ⟨_, _, hF, rfl, ?_⟩
  exact ⟨rfl, hS⟩

set_option maxRecDepth 100000 in
set_option maxHeartbeats 1000000 in
theorem Exp_some (B wb p k : Nat) (n : Int) (w : World) (hI : Inv FDx B w) (hf : FOK FDx B w k wb p) (hp : Prm wb p) (hn : -9223372036854775808 ≤ n ∧ n < 9223372036854775808) : Ret Try.prog 67 [.pointer (some ⟨k, 0, none⟩), .int .i64 n] w fun v w' => v = .int .i64 ((Px.pw p (n % ((2 ^ wb - 1 : Nat) : Int)).toNat : Int)) ∧ St FDx B w w' := by
  refine enter 25 [(0, .pointer (some ⟨k, 0, none⟩)), (1, .int .i64 n)] 4 Try.func67 rfl rfl rfl rfl rfl ?_; intro a hF
  have hS := St.refl hI
  have hsz := hp.size
  have horder := hp.order
  have htm := tmod_bd n (m := 2 ^ wb - 1) (by omega)
  have hidx := exp_index n (m := 2 ^ wb - 1) (by omega)
  have hi1 := Int.emod_nonneg n (show ((2 ^ wb - 1 : Nat) : Int) ≠ 0 by omega)
  have hi2 := Int.emod_lt_of_pos n (show (0 : Int) < ((2 ^ wb - 1 : Nat) : Int) by omega)
  obtain ⟨i, hi⟩ : ∃ i : Nat, n % ((2 ^ wb - 1 : Nat) : Int) = (i : Int) := ⟨(n % ((2 ^ wb - 1 : Nat) : Int)).toNat, by omega⟩
  rw [hi] at hidx
  refine W_sr rfl (fun K hK => ?_)
  refine sv hF (v_assign rfl) rfl ?_; clear hF a; intro a hF
  refine WL_nil (hK _ _ ?_)
  clear hK K
  refine W_seq ?_
  refine W_sr rfl (fun K hK => ?_)
  refine sv hF (v_move rfl) rfl ?_; clear hF a; intro a hF
  refine sv hF ((v_eqlNil (by exact Try.underlying23) rfl rfl).as (congrArg Value.bool (rfl))) rfl ?_; clear hF a; intro a hF
  refine WL_nil (hK _ _ ?_)
  clear hK K
  replace hF := hF.sub _ (c_ 7 rfl (c_ 4 rfl (c_ 0 rfl (c_ 1 rfl (n_)))))
  refine W_ifF hF rfl ?_
  refine W_skip ?_
  refine W_sr rfl (fun K hK => ?_)
  refine sv hF (v_move rfl) rfl ?_; clear hF a; intro a hF
  refine sc hF rfl rfl rfl en53 rfl (Size_some k wb _ hf.w0 (by have := hp.w; omega)) ?_; clear hF a; intro v w' a hv hF
  obtain ⟨rfl, rfl⟩ := hv
  have hS' := St.refl hS.inv
  replace hf := hf.st hS'
  replace hS := hS.trans hS'
  clear hS'
  refine sv hF (v_subN (m := 2 ^ wb) (n := 1) rfl rfl (by omega) (by omega)) rfl ?_; clear hF a; intro a hF
  refine sv hF (v_assign rfl) rfl ?_; clear hF a; intro a hF
  refine WL_nil (hK _ _ ?_)
  clear hK K
  replace hF := hF.sub _ (c_ 5 rfl (c_ 4 rfl (c_ 0 rfl (c_ 1 rfl (n_)))))
  refine W_sd (m := 15) rfl hmix hS.inv (fun K hK w1 hS' hh => ?_)
  replace hf := hf.st hS'
  replace hS := hS.trans hS'
  clear hS'
  clear hh
  refine a_v (i := 0) rfl (by kernel_rfl) hF (fun w2 hx => v_move rfl) rfl ?_; clear hF a; intro a hF
  refine a_v (i := 5) rfl (by kernel_rfl) hF (fun w2 hx => v_move rfl) rfl ?_; clear hF a; intro a hF
  refine a_v (i := 6) rfl (by kernel_rfl) hF (fun w2 hx => v_move rfl) rfl ?_; clear hF a; intro a hF
  refine a_v (i := 7) rfl (by kernel_rfl) hF (fun w2 hx => v_rem rfl rfl (by omega)) rfl ?_; clear hF a; intro a hF
  refine a_v (i := 8) rfl (by kernel_rfl) hF (fun w2 hx => v_move rfl) rfl ?_; clear hF a; intro a hF
  refine a_v (i := 9) rfl (by kernel_rfl) hF (fun w2 hx => v_addI rfl rfl (by omega)) rfl ?_; clear hF a; intro a hF
  refine a_v (i := 10) rfl (by kernel_rfl) hF (fun w2 hx => v_move rfl) rfl ?_; clear hF a; intro a hF
  refine a_v (i := 11) rfl (by kernel_rfl) hF (fun w2 hx => (v_remI rfl rfl (by omega) (by omega)).as (congrArg _ hidx)) rfl ?_; clear hF a; intro a hF
  refine a_e (i := 1) rfl (by kernel_rfl) ?_
  refine sc hF rfl rfl rfl en66 rfl (ready_ok B wb p k _ hS.inv hf hp) ?_; clear hF a; intro v w' a hv hF
  obtain ⟨rfl, hS', ge, gl, hmd⟩ := hv
  refine WL_nil ⟨hS'.ext, ?_⟩
  replace hS := hS.trans hS'
  clear hS'
  refine a_v (i := 2) rfl (by kernel_rfl) hF (fun w2 hx => v_nil rfl) rfl ?_; clear hF a; intro a hF
  refine a_v (i := 3) rfl (by kernel_rfl) hF (fun w2 hx => v_fieldAddr fa101_1 rfl) rfl ?_; clear hF a; intro a hF
  refine a_v (i := 4) rfl (by kernel_rfl) hF (fun w2 hx => v_load sc37 rfl (hx.made _ _ _ _ _ hmd).c5) rfl ?_; clear hF a; intro a hF
  refine a_v (i := 12) rfl (by kernel_rfl) hF (fun w2 hx => v_ixS sl37 rfl rfl (by omega) (by omega)) rfl ?_; clear hF a; intro a hF
  refine a_v (i := 13) rfl (by kernel_rfl) hF (fun w2 hx => v_load sc3 rfl (by rw [toNat_c, Nat.zero_add]; exact (hx.made _ _ _ _ _ hmd).exp (by omega))) rfl ?_; clear hF a; intro a hF
  refine a_v (i := 14) rfl (by kernel_rfl) hF (fun w2 hx => v_assign rfl) rfl ?_; clear hF a; intro a hF
  refine a_done (by kernel_rfl) (hK _ _ ?_)
  clear hK K
  replace hF := hF.sub _ (c_ 4 rfl (n_))
  refine W_ret ?_
  refine ⟨_, _, hF, rfl, ?_⟩
  exact ⟨by rw [hi]; rfl, hS⟩

theorem Exp_ok (B : Nat) (o : Fq) (fv : Value) (n : Int) (w : World) (hI : Inv FDx B w) (hf : Fo FDx B w fv o) (hn : -9223372036854775808 ≤ n ∧ n < 9223372036854775808) : Ret Try.prog 67 [fv, .int .i64 n] w fun v w' => v = .int .i64 (gexp o n) ∧ St FDx B w w' := by
  cases o with
  | none => obtain rfl : fv = .pointer none := hf; exact Exp_nil B n w hI
  | some q => obtain ⟨h1, k, rfl, h2⟩ := hf; exact Exp_some B q.1 q.2 k n w hI h2 h1 hn

set_option maxRecDepth 100000 in
set_option maxHeartbeats 1000000 in
theorem Mul_gf (B : Nat) (o : Fq) (fv : Value) (ia ib : Int) (w : World) (hI : Inv FDx B w) (hf : Fo FDx B w fv o) : Ret Try.prog 29 [fv, .int .i64 ia, .int .i64 ib] w fun v w' => v = .int .i64 (gmul o ia ib) ∧ St FDx B w w' := by
  refine enter 58 [(0, fv), (1, .int .i64 ia), (2, .int .i64 ib)] 6 Try.func29 rfl rfl rfl rfl rfl ?_; intro a hF
  have hS := St.refl hI
  refine W_sr rfl (fun K hK => ?_)
  refine sv hF (v_assign rfl) rfl ?_; clear hF a; intro a hF
  refine WL_nil (hK _ _ ?_)
  clear hK K
  refine W_seq ?_
  refine W_block ?_
  refine W_sr rfl (fun K hK => ?_)
  refine sv hF (v_move rfl) rfl ?_; clear hF a; intro a hF
  refine sv hF (v_move rfl) rfl ?_; clear hF a; intro a hF
  refine sv hF (v_move rfl) rfl ?_; clear hF a; intro a hF
  refine s_bs (D := FDx) (B := B) hF sl37 rfl rfl (by decide) (by simp [Value.cells]) (by decide) hS.inv rfl ?_; clear hF a; intro w' a hm hI' hb hF
  replace hf := hf.mb hm
  replace hS := hS.mb0 hm
  clear hm hI'
  refine sc hF rfl rfl rfl en64 rfl (in_ok B o fv (some ⟨_, 0, none⟩) 2 [ia, ib] _ hS.inv hf (by simp) (own_in (D := FDx) (B := B) (zs := [ia, ib]) hb (by decide))) ?_; clear hF a; intro v w' a hv hF
  clear hb
  obtain ⟨rfl, rfl⟩ := hv
  have hS' := St.refl hS.inv
  replace hf := hf.st hS'
  replace hS := hS.trans hS'
  clear hS'
  refine sb hF (v_not rfl) rfl ?_ ?_
  · clear hF a; intro hc1 a hF
    try simp only [decide_eq_true_eq, decide_eq_false_iff_not, Bool.not_eq_true', Bool.not_eq_false', Bool.not_true, Bool.not_false] at hc1
    refine sv hF (v_move rfl) rfl ?_; clear hF a; intro a hF
    refine svn hF rfl rfl rfl ?_; clear hF a; intro a hF
    refine svn hF rfl rfl rfl ?_; clear hF a; intro a hF
    refine sv hF (v_pickT rfl rfl) rfl ?_; clear hF a; intro a hF
    refine sv hF (v_move rfl) rfl ?_; clear hF a; intro a hF
    refine svn hF rfl rfl rfl ?_; clear hF a; intro a hF
    refine svn hF rfl rfl rfl ?_; clear hF a; intro a hF
    refine sv hF (v_pickT rfl rfl) rfl ?_; clear hF a; intro a hF
    refine sv hF (v_assign rfl) rfl ?_; clear hF a; intro a hF
    refine WL_nil (hK _ _ ?_)
    clear hK K
    replace hF := hF.sub _ (c_ 8 rfl (c_ 6 rfl (c_ 0 rfl (c_ 1 rfl (c_ 2 rfl (n_))))))
    refine W_ifT hF rfl ?_
    refine W_sr rfl (fun K hK => ?_)
    refine sv hF (v_assign rfl) rfl ?_; clear hF a; intro a hF
    refine WL_nil (hK _ _ ?_)
    clear hK K
    replace hF := hF.sub _ (c_ 6 rfl (c_ 0 rfl (c_ 1 rfl (c_ 2 rfl (n_)))))
    refine W_ret ?_
    refine ⟨_, _, hF, rfl, ?_⟩
    first
      | exact ⟨by rw [gmul_out hc1], hS⟩
      | (subst_vars; exact ⟨by rw [gmul_zl], hS⟩)
      | (subst_vars; exact ⟨by rw [gmul_zr], hS⟩)
      | exact ⟨by rw [gmul_in hx hy, hp.pw_sum ei ej], hS⟩
      | exact ⟨by rw [gmul_in hx hy], hS⟩
  · clear hF a; intro hc1 a hF
    try simp only [decide_eq_true_eq, decide_eq_false_iff_not, Bool.not_eq_true', Bool.not_eq_false', Bool.not_true, Bool.not_false] at hc1
    refine sv hF (v_move rfl) rfl ?_; clear hF a; intro a hF
    refine svg hF rfl ?_
    refine sv hF (v_move rfl) rfl ?_; clear hF a; intro a hF
    refine svg hF rfl ?_
    refine sb hF (v_eql rfl rfl) rfl ?_ ?_
    · clear hF a; intro hc2 a hF
      try simp only [decide_eq_true_eq, decide_eq_false_iff_not, Bool.not_eq_true', Bool.not_eq_false', Bool.not_true, Bool.not_false] at hc2
      refine sv hF (v_pickF rfl rfl) rfl ?_; clear hF a; intro a hF
      refine sv hF (v_move rfl) rfl ?_; clear hF a; intro a hF
      refine svn hF rfl rfl rfl ?_; clear hF a; intro a hF
      refine svn hF rfl rfl rfl ?_; clear hF a; intro a hF
      refine sv hF (v_pickT rfl rfl) rfl ?_; clear hF a; intro a hF
      refine sv hF (v_assign rfl) rfl ?_; clear hF a; intro a hF
      refine WL_nil (hK _ _ ?_)
      clear hK K
      replace hF := hF.sub _ (c_ 8 rfl (c_ 6 rfl (c_ 0 rfl (c_ 1 rfl (c_ 2 rfl (n_))))))
      refine W_ifT hF rfl ?_
      refine W_sr rfl (fun K hK => ?_)
      refine sv hF (v_assign rfl) rfl ?_; clear hF a; intro a hF
      refine WL_nil (hK _ _ ?_)
      clear hK K
      replace hF := hF.sub _ (c_ 6 rfl (c_ 0 rfl (c_ 1 rfl (c_ 2 rfl (n_)))))
      refine W_ret ?_
      refine ⟨_, _, hF, rfl, ?_⟩
      first
        | exact ⟨by rw [gmul_out hc1], hS⟩
        | (subst_vars; exact ⟨by rw [gmul_zl], hS⟩)
        | (subst_vars; exact ⟨by rw [gmul_zr], hS⟩)
        | exact ⟨by rw [gmul_in hx hy, hp.pw_sum ei ej], hS⟩
        | exact ⟨by rw [gmul_in hx hy], hS⟩
    · clear hF a; intro hc2 a hF
      try simp only [decide_eq_true_eq, decide_eq_false_iff_not, Bool.not_eq_true', Bool.not_eq_false', Bool.not_true, Bool.not_false] at hc2
      refine sv hF (v_pickF rfl rfl) rfl ?_; clear hF a; intro a hF
      refine sv hF (v_move rfl) rfl ?_; clear hF a; intro a hF
      refine svg hF rfl ?_
      refine sv hF (v_move rfl) rfl ?_; clear hF a; intro a hF
      refine svg hF rfl ?_
      refine sv hF (v_eql rfl rfl) rfl ?_; clear hF a; intro a hF
      refine sv hF (v_pickF rfl rfl) rfl ?_; clear hF a; intro a hF
      refine sv hF (v_assign rfl) rfl ?_; clear hF a; intro a hF
      refine WL_nil (hK _ _ ?_)
      clear hK K
      replace hF := hF.sub _ (c_ 8 rfl (c_ 6 rfl (c_ 0 rfl (c_ 1 rfl (c_ 2 rfl (n_))))))
      refine W_if hF rfl (fun hc3 => ?_) (fun hc3 => ?_)
      · skip
        try simp only [decide_eq_true_eq, decide_eq_false_iff_not, Bool.not_eq_true', Bool.not_eq_false', Bool.not_true, Bool.not_false] at hc3
        refine W_sr rfl (fun K hK => ?_)
        refine sv hF (v_assign rfl) rfl ?_; clear hF a; intro a hF
        refine WL_nil (hK _ _ ?_)
        clear hK K
        replace hF := hF.sub _ (c_ 6 rfl (c_ 0 rfl (c_ 1 rfl (c_ 2 rfl (n_)))))
        refine W_ret ?_
        refine ⟨_, _, hF, rfl, ?_⟩
        first
          | exact ⟨by rw [gmul_out hc1], hS⟩
          | (subst_vars; exact ⟨by rw [gmul_zl], hS⟩)
          | (subst_vars; exact ⟨by rw [gmul_zr], hS⟩)
          | exact ⟨by rw [gmul_in hx hy, hp.pw_sum ei ej], hS⟩
          | exact ⟨by rw [gmul_in hx hy], hS⟩
      · skip
        try simp only [decide_eq_true_eq, decide_eq_false_iff_not, Bool.not_eq_true', Bool.not_eq_false', Bool.not_true, Bool.not_false] at hc3
        rw [all2, Bool.and_eq_true] at hc1
        obtain ⟨hin, hinb⟩ := hc1
        obtain ⟨wb, p, k, rfl, rfl, hp, hfk⟩ := fo_some hf (a := ia) hin
        obtain ⟨x, rfl, hx⟩ := inF_nat hin
        obtain ⟨y, rfl, hy⟩ := inF_nat hinb
        have hsz := hp.size
        have hml := hp.mulMod_lt x y
        have hplt := hp.lt
        refine W_sr rfl (fun K hK => ?_)
        refine sv hF (v_move rfl) rfl ?_; clear hF a; intro a hF
        refine sv hF (v_nil rfl) rfl ?_; clear hF a; intro a hF
        refine sv hF (v_fieldAddr fa103_0 rfl) rfl ?_; clear hF a; intro a hF
        refine sv hF (v_load sc3 rfl hfk.w0) rfl ?_; clear hF a; intro a hF
        refine sv hF (v_eql rfl rfl) rfl ?_; clear hF a; intro a hF
        refine sv hF (v_assign rfl) rfl ?_; clear hF a; intro a hF
        refine WL_nil (hK _ _ ?_)
        clear hK K
        replace hF := hF.sub _ (c_ 23 rfl (c_ 6 rfl (c_ 0 rfl (c_ 1 rfl (c_ 2 rfl (n_))))))
        refine W_if hF rfl (fun hc4 => ?_) (fun hc4 => ?_)
        · skip
          try simp only [decide_eq_true_eq, decide_eq_false_iff_not, Bool.not_eq_true', Bool.not_eq_false', Bool.not_true, Bool.not_false] at hc4
          refine W_sr rfl (fun K hK => ?_)
          refine sv hF (v_move rfl) rfl ?_; clear hF a; intro a hF
          refine sv hF (v_cv Try.underlying3 Try.underlying24 rfl (wrap_u32 _ (by omega))) rfl ?_; clear hF a; intro a hF
          refine sv hF (v_move rfl) rfl ?_; clear hF a; intro a hF
          refine sv hF (v_cv Try.underlying3 Try.underlying24 rfl (wrap_u32 _ (by omega))) rfl ?_; clear hF a; intro a hF
          refine sv hF (v_move rfl) rfl ?_; clear hF a; intro a hF
          refine sv hF (v_nil rfl) rfl ?_; clear hF a; intro a hF
          refine sv hF (v_fieldAddr fa103_1 rfl) rfl ?_; clear hF a; intro a hF
          refine sv hF (v_load sc24 rfl hfk.p0) rfl ?_; clear hF a; intro a hF
          refine sc hF rfl rfl rfl en65 rfl (MulMod_ok B x y p _ hS.inv (by omega) (by omega) (by omega)) ?_; clear hF a; intro v w' a hv hF
          obtain ⟨rfl, hS'⟩ := hv
          replace hS := hS.trans hS'
          clear hS'
          refine sv hF (v_cv Try.underlying24 Try.underlying3 rfl (wrap_i64 _ (by omega))) rfl ?_; clear hF a; intro a hF
          refine sv hF (v_assign rfl) rfl ?_; clear hF a; intro a hF
          refine WL_nil (hK _ _ ?_)
          clear hK K
          replace hF := hF.sub _ (c_ 6 rfl (c_ 0 rfl (c_ 1 rfl (c_ 2 rfl (n_)))))
          refine W_ret ?_
          refine ⟨_, _, hF, rfl, ?_⟩
          first
            | exact ⟨by rw [gmul_out hc1], hS⟩
            | (subst_vars; exact ⟨by rw [gmul_zl], hS⟩)
            | (subst_vars; exact ⟨by rw [gmul_zr], hS⟩)
            | exact ⟨by rw [gmul_in hx hy, hp.pw_sum ei ej], hS⟩
            | exact ⟨by rw [gmul_in hx hy], hS⟩
        · skip
          try simp only [decide_eq_true_eq, decide_eq_false_iff_not, Bool.not_eq_true', Bool.not_eq_false', Bool.not_true, Bool.not_false] at hc4
          refine W_skip ?_
          refine W_sr rfl (fun K hK => ?_)
          refine sv hF (v_move rfl) rfl ?_; clear hF a; intro a hF
          refine sc hF rfl rfl rfl en66 rfl (ready_ok B wb p k _ hS.inv hfk hp) ?_; clear hF a; intro v w' a hv hF
          obtain ⟨rfl, hS', ge, gl, hmd⟩ := hv
          replace hS := hS.trans hS'
          clear hS'
          refine sv hF (v_assign rfl) rfl ?_; clear hF a; intro a hF
          refine WL_nil (hK _ _ ?_)
          clear hK K
          replace hF := hF.sub _ (c_ 7 rfl (c_ 40 rfl (c_ 39 rfl (c_ 6 rfl (c_ 0 rfl (c_ 1 rfl (c_ 2 rfl (n_))))))))
          obtain ⟨i, hi, ei, li⟩ := hp.log_of hx (by omega)
          obtain ⟨j, hj, ej, lj⟩ := hp.log_of hy (by omega)
          refine W_sd (m := 18) rfl hmix hS.inv (fun K hK w1 hS' hh => ?_)
          replace hmd := hmd.st hS'
          replace hS := hS.trans hS'
          clear hS'
          clear hh
          refine a_v (i := 0) rfl (by kernel_rfl) hF (fun w2 hx => v_move rfl) rfl ?_; clear hF a; intro a hF
          refine a_v (i := 1) rfl (by kernel_rfl) hF (fun w2 hx => v_move rfl) rfl ?_; clear hF a; intro a hF
          refine a_v (i := 2) rfl (by kernel_rfl) hF (fun w2 hx => v_nil rfl) rfl ?_; clear hF a; intro a hF
          refine a_v (i := 3) rfl (by kernel_rfl) hF (fun w2 hx => v_fieldAddr fa101_2 rfl) rfl ?_; clear hF a; intro a hF
          refine a_v (i := 4) rfl (by kernel_rfl) hF (fun w2 hx => v_load sc37 rfl (hx.made _ _ _ _ _ hmd).c6) rfl ?_; clear hF a; intro a hF
          refine a_v (i := 5) rfl (by kernel_rfl) hF (fun w2 hx => v_move rfl) rfl ?_; clear hF a; intro a hF
          refine a_v (i := 6) rfl (by kernel_rfl) hF (fun w2 hx => v_ixS sl37 rfl rfl (by omega) (by omega)) rfl ?_; clear hF a; intro a hF
          refine a_v (i := 7) rfl (by kernel_rfl) hF (fun w2 hx => v_load sc3 rfl (by rw [toNat_c, Nat.zero_add]; exact (hx.made _ _ _ _ _ hmd).log li)) rfl ?_; clear hF a; intro a hF
          refine a_v (i := 8) rfl (by kernel_rfl) hF (fun w2 hx => v_move rfl) rfl ?_; clear hF a; intro a hF
          refine a_v (i := 9) rfl (by kernel_rfl) hF (fun w2 hx => v_nil rfl) rfl ?_; clear hF a; intro a hF
          refine a_v (i := 10) rfl (by kernel_rfl) hF (fun w2 hx => v_fieldAddr fa101_2 rfl) rfl ?_; clear hF a; intro a hF
          refine a_v (i := 11) rfl (by kernel_rfl) hF (fun w2 hx => v_load sc37 rfl (hx.made _ _ _ _ _ hmd).c6) rfl ?_; clear hF a; intro a hF
          refine a_v (i := 12) rfl (by kernel_rfl) hF (fun w2 hx => v_move rfl) rfl ?_; clear hF a; intro a hF
          refine a_v (i := 13) rfl (by kernel_rfl) hF (fun w2 hx => v_ixS sl37 rfl rfl (by omega) (by omega)) rfl ?_; clear hF a; intro a hF
          refine a_v (i := 14) rfl (by kernel_rfl) hF (fun w2 hx => v_load sc3 rfl (by rw [toNat_c, Nat.zero_add]; exact (hx.made _ _ _ _ _ hmd).log lj)) rfl ?_; clear hF a; intro a hF
          refine a_v (i := 15) rfl (by kernel_rfl) hF (fun w2 hx => v_addI rfl rfl (by omega)) rfl ?_; clear hF a; intro a hF
          refine a_e (i := 16) rfl (by kernel_rfl) ?_
          refine sc hF rfl rfl rfl en67 rfl (Exp_some B wb p k ((i : Int) + (j : Int)) _ hS.inv hmd.fok hp (by omega)) ?_; clear hF a; intro v w' a hv hF
          obtain ⟨rfl, hS'⟩ := hv
          refine WL_nil ⟨hS'.ext, ?_⟩
          replace hmd := hmd.st hS'
          replace hS := hS.trans hS'
          clear hS'
          refine a_v (i := 17) rfl (by kernel_rfl) hF (fun w2 hx => v_assign rfl) rfl ?_; clear hF a; intro a hF
          refine a_done (by kernel_rfl) (hK _ _ ?_)
          clear hK K
          refine W_ret ?_
          refine ⟨_, _, hF, rfl, ?_⟩
          first
            | exact ⟨by rw [gmul_out hc1], hS⟩
            | (subst_vars; exact ⟨by rw [gmul_zl], hS⟩)
            | (subst_vars; exact ⟨by rw [gmul_zr], hS⟩)
            | exact ⟨by rw [gmul_in hx hy, hp.pw_sum ei ej], hS⟩
            | exact ⟨by rw [gmul_in hx hy], hS⟩

theorem powB_prm {wb p X n : Nat} (hp : Prm wb p) : powB X p 1 n = Px.pow X p n := by rw [← hp.mod1, powB_one]

set_option maxRecDepth 100000 in
set_option maxHeartbeats 1000000 in
theorem Pow_gf (B : Nat) (o : Fq) (fv : Value) (ia n : Int) (w : World) (hI : Inv FDx B w) (hf : Fo FDx B w fv o) (hn : -9223372036854775808 ≤ n ∧ n < 9223372036854775808) : Ret Try.prog 42 [fv, .int .i64 ia, .int .i64 n] w fun v w' => v = .int .i64 (gpow o ia n) ∧ St FDx B w w' := by
  refine enter 33 [(0, fv), (1, .int .i64 ia), (2, .int .i64 n)] 6 Try.func42 rfl rfl rfl rfl rfl ?_; intro a hF
  have hS := St.refl hI
  refine W_sr rfl (fun K hK => ?_)
  refine sv hF (v_assign rfl) rfl ?_; clear hF a; intro a hF
  refine WL_nil (hK _ _ ?_)
  clear hK K
  refine W_seq ?_
  refine W_sr rfl (fun K hK => ?_)
  refine sv hF (v_move rfl) rfl ?_; clear hF a; intro a hF
  refine sv hF (v_move rfl) rfl ?_; clear hF a; intro a hF
  refine s_bs (D := FDx) (B := B) hF sl37 rfl rfl (by decide) (by simp [Value.cells]) (by decide) hS.inv rfl ?_; clear hF a; intro w' a hm hI' hb hF
  replace hf := hf.mb hm
  replace hS := hS.mb0 hm
  clear hm hI'
  refine sc hF rfl rfl rfl en64 rfl (in_ok B o fv (some ⟨_, 0, none⟩) 1 [ia] _ hS.inv hf (by simp) (own_in (D := FDx) (B := B) (zs := [ia]) hb (by decide))) ?_; clear hF a; intro v w' a hv hF
  clear hb
  obtain ⟨rfl, rfl⟩ := hv
  have hS' := St.refl hS.inv
  replace hf := hf.st hS'
  replace hS := hS.trans hS'
  clear hS'
  refine sb hF (v_not rfl) rfl ?_ ?_
  · clear hF a; intro hc1 a hF
    try simp only [decide_eq_true_eq, decide_eq_false_iff_not, Bool.not_eq_true', Bool.not_eq_false', Bool.not_true, Bool.not_false] at hc1
    refine sv hF (v_move rfl) rfl ?_; clear hF a; intro a hF
    refine svn hF rfl rfl rfl ?_; clear hF a; intro a hF
    refine svn hF rfl rfl rfl ?_; clear hF a; intro a hF
    refine sv hF (v_pickT rfl rfl) rfl ?_; clear hF a; intro a hF
    refine WL_nil (hK _ _ ?_)
    clear hK K
    replace hF := hF.sub _ (c_ 16 rfl (c_ 6 rfl (c_ 0 rfl (c_ 1 rfl (c_ 2 rfl (n_))))))
    refine W_ifT hF rfl ?_
    refine W_sr rfl (fun K hK => ?_)
    refine sv hF (v_assign rfl) rfl ?_; clear hF a; intro a hF
    refine WL_nil (hK _ _ ?_)
    clear hK K
    replace hF := hF.sub _ (c_ 6 rfl (c_ 0 rfl (c_ 1 rfl (c_ 2 rfl (n_)))))
    refine W_ret ?_
    refine ⟨_, _, hF, rfl, ?_⟩
    rw [all1] at hc1
    exact ⟨by rw [gpow_out (.inl hc1)], hS⟩
  · clear hF a; intro hc1 a hF
    try simp only [decide_eq_true_eq, decide_eq_false_iff_not, Bool.not_eq_true', Bool.not_eq_false', Bool.not_true, Bool.not_false] at hc1
    refine sv hF (v_move rfl) rfl ?_; clear hF a; intro a hF
    refine svg hF rfl ?_
    refine sv hF (v_move rfl) rfl ?_; clear hF a; intro a hF
    refine svg hF rfl ?_
    refine sv hF (v_lss rfl rfl) rfl ?_; clear hF a; intro a hF
    refine sv hF (v_pickF rfl rfl) rfl ?_; clear hF a; intro a hF
    refine WL_nil (hK _ _ ?_)
    clear hK K
    replace hF := hF.sub _ (c_ 16 rfl (c_ 6 rfl (c_ 0 rfl (c_ 1 rfl (c_ 2 rfl (n_))))))
    refine W_if hF rfl (fun hc2 => ?_) (fun hc2 => ?_)
    · skip
      try simp only [decide_eq_true_eq, decide_eq_false_iff_not, Bool.not_eq_true', Bool.not_eq_false', Bool.not_true, Bool.not_false] at hc2
      refine W_sr rfl (fun K hK => ?_)
      refine sv hF (v_assign rfl) rfl ?_; clear hF a; intro a hF
      refine WL_nil (hK _ _ ?_)
      clear hK K
      replace hF := hF.sub _ (c_ 6 rfl (c_ 0 rfl (c_ 1 rfl (c_ 2 rfl (n_)))))
      refine W_ret ?_
      refine ⟨_, _, hF, rfl, ?_⟩
      exact ⟨by rw [gpow_out (.inr (by omega))], hS⟩
    · skip
      try simp only [decide_eq_true_eq, decide_eq_false_iff_not, Bool.not_eq_true', Bool.not_eq_false', Bool.not_true, Bool.not_false] at hc2
      refine W_skip ?_
      rw [all1] at hc1
      have hin := hc1
      obtain ⟨wb, p, k, rfl, rfl, hp, hfk⟩ := fo_some hf (a := ia) hin
      obtain ⟨x0, rfl, hx0⟩ := inF_nat hin
      obtain ⟨n0, rfl⟩ : ∃ n0 : Nat, n = (n0 : Int) := ⟨n.toNat, by omega⟩
      have hsz := hp.size
      refine W_sr rfl (fun K hK => ?_)
      refine sv hF (v_assign rfl) rfl ?_; clear hF a; intro a hF
      refine WL_nil (hK _ _ ?_)
      clear hK K
      replace hF := hF.sub _ (c_ 7 rfl (c_ 6 rfl (c_ 0 rfl (c_ 1 rfl (c_ 2 rfl (n_))))))
      refine W_seq ?_
      refine W_block ?_
      refine W_loop (fun m a w1 => ∃ x q : Nat, Fr 33 [(0, .pointer (some ⟨k, 0, none⟩)), (1, .int .i64 (x : Int)), (2, .int .i64 (m : Int)), (7, .int .i64 (q : Int))] a ∧ St FDx B w w1 ∧ Fo FDx B w1 (.pointer (some ⟨k, 0, none⟩)) (some (wb, p)) ∧ powB x p q m = powB x0 p 1 n0 ∧ x < 2 ^ wb ∧ q < 2 ^ wb ∧ m < 9223372036854775808) (n0) ?_ ?_
      · skip
        exact ⟨_, 1, hF.sub _ (c_ 0 rfl (c_ 1 rfl (c_ 2 rfl (c_ 7 rfl n_)))), hS, hf, rfl, hx0, by omega, by omega⟩
      · skip
        clear hF
        clear hS hf hfk
        rintro m a w1 ⟨x, q, hF, hS, hf, hg, hx, hq, hm⟩
        refine W_seq ?_
        refine W_sr rfl (fun K hK => ?_)
        refine sv hF (v_move rfl) rfl ?_; clear hF a; intro a hF
        refine sv hF (v_gtr rfl rfl) rfl ?_; clear hF a; intro a hF
        refine WL_nil (hK _ _ ?_)
        clear hK K
        replace hF := hF.sub _ (c_ 18 rfl (c_ 0 rfl (c_ 1 rfl (c_ 2 rfl (c_ 7 rfl (n_))))))
        refine W_if hF rfl (fun hc3 => ?_) (fun hc3 => ?_)
        · skip
          try simp only [decide_eq_true_eq, decide_eq_false_iff_not, Bool.not_eq_true', Bool.not_eq_false', Bool.not_true, Bool.not_false] at hc3
          refine W_skip ?_
          refine W_seq ?_
          refine W_block ?_
          refine W_seq ?_
          refine W_sr rfl (fun K hK => ?_)
          refine sv hF (v_move rfl) rfl ?_; clear hF a; intro a hF
          refine sv hF (v_andN (n := 1) rfl rfl (fits_i64 hm) (fits_i64 (by decide))) rfl ?_; clear hF a; intro a hF
          refine sv hF (v_eql rfl rfl) rfl ?_; clear hF a; intro a hF
          refine WL_nil (hK _ _ ?_)
          clear hK K
          replace hF := hF.sub _ (c_ 23 rfl (c_ 0 rfl (c_ 1 rfl (c_ 2 rfl (c_ 7 rfl (n_))))))
          refine W_if hF rfl (fun hc4 => ?_) (fun hc4 => ?_)
          · skip
            try simp only [decide_eq_true_eq, decide_eq_false_iff_not, Bool.not_eq_true', Bool.not_eq_false', Bool.not_true, Bool.not_false] at hc4
            rw [Nat.and_one_is_mod] at hc4
            rw [powB_odd x p q (by omega)] at hg
            have hml := hp.mulMod_lt q x
            refine W_reg rfl (fun K hK => ?_)
            refine sv hF (v_move rfl) rfl ?_; clear hF a; intro a hF
            refine sv hF (v_move rfl) rfl ?_; clear hF a; intro a hF
            refine sv hF (v_move rfl) rfl ?_; clear hF a; intro a hF
            refine sc hF rfl rfl rfl en29 rfl (Mul_gf B (some (wb, p)) _ q x _ hS.inv hf) ?_; clear hF a; intro v w' a hv hF
            obtain ⟨rfl, hS'⟩ := hv
            replace hf := hf.st hS'
            replace hS := hS.trans hS'
            clear hS'
            rw [gmul_in hq hx] at hF
            refine sv hF (v_assign rfl) rfl ?_; clear hF a; intro a hF
            refine WL_nil (hK _ _ ?_)
            clear hK K
            replace hF := hF.sub _ (c_ 7 rfl (c_ 0 rfl (c_ 1 rfl (c_ 2 rfl (n_)))))
            refine W_reg rfl (fun K hK => ?_)
            refine sv hF (v_move rfl) rfl ?_; clear hF a; intro a hF
            refine sv hF (v_move rfl) rfl ?_; clear hF a; intro a hF
            refine sv hF (v_move rfl) rfl ?_; clear hF a; intro a hF
            refine sc hF rfl rfl rfl en29 rfl (Mul_gf B (some (wb, p)) _ x x _ hS.inv hf) ?_; clear hF a; intro v w' a hv hF
            obtain ⟨rfl, hS'⟩ := hv
            replace hf := hf.st hS'
            replace hS := hS.trans hS'
            clear hS'
            rw [gmul_in hx hx] at hF
            refine sv hF (v_assign rfl) rfl ?_; clear hF a; intro a hF
            refine WL_nil (hK _ _ ?_)
            clear hK K
            replace hF := hF.sub _ (c_ 1 rfl (c_ 7 rfl (c_ 0 rfl (c_ 2 rfl (n_)))))
            refine W_reg rfl (fun K hK => ?_)
            refine sv hF (v_move rfl) rfl ?_; clear hF a; intro a hF
            refine sv hF (v_shrN (m := m) rfl rfl (by decide)) rfl ?_; clear hF a; intro a hF
            refine sv hF (v_assign rfl) rfl ?_; clear hF a; intro a hF
            refine WL_nil (hK _ _ ?_)
            clear hK K
            exact ⟨m / 2, by omega, _, _, hF.sub _ (c_ 0 rfl (c_ 1 rfl (c_ 2 rfl (c_ 7 rfl n_)))), hS, hf, hg, hp.mulMod_lt _ _, by first | exact hml | exact hq, by omega⟩
          · skip
            try simp only [decide_eq_true_eq, decide_eq_false_iff_not, Bool.not_eq_true', Bool.not_eq_false', Bool.not_true, Bool.not_false] at hc4
            rw [Nat.and_one_is_mod] at hc4
            rw [powB_even x p q (by omega) (by omega)] at hg
            refine W_skip ?_
            refine W_reg rfl (fun K hK => ?_)
            refine sv hF (v_move rfl) rfl ?_; clear hF a; intro a hF
            refine sv hF (v_move rfl) rfl ?_; clear hF a; intro a hF
            refine sv hF (v_move rfl) rfl ?_; clear hF a; intro a hF
            refine sc hF rfl rfl rfl en29 rfl (Mul_gf B (some (wb, p)) _ x x _ hS.inv hf) ?_; clear hF a; intro v w' a hv hF
            obtain ⟨rfl, hS'⟩ := hv
            replace hf := hf.st hS'
            replace hS := hS.trans hS'
            clear hS'
            rw [gmul_in hx hx] at hF
            refine sv hF (v_assign rfl) rfl ?_; clear hF a; intro a hF
            refine WL_nil (hK _ _ ?_)
            clear hK K
            replace hF := hF.sub _ (c_ 1 rfl (c_ 0 rfl (c_ 2 rfl (c_ 7 rfl (n_)))))
            refine W_reg rfl (fun K hK => ?_)
            refine sv hF (v_move rfl) rfl ?_; clear hF a; intro a hF
            refine sv hF (v_shrN (m := m) rfl rfl (by decide)) rfl ?_; clear hF a; intro a hF
            refine sv hF (v_assign rfl) rfl ?_; clear hF a; intro a hF
            refine WL_nil (hK _ _ ?_)
            clear hK K
            exact ⟨m / 2, by omega, _, _, hF.sub _ (c_ 0 rfl (c_ 1 rfl (c_ 2 rfl (c_ 7 rfl n_)))), hS, hf, hg, hp.mulMod_lt _ _, by first | exact hml | exact hq, by omega⟩
        · skip
          try simp only [decide_eq_true_eq, decide_eq_false_iff_not, Bool.not_eq_true', Bool.not_eq_false', Bool.not_true, Bool.not_false] at hc3
          obtain rfl : m = 0 := by omega
          rw [powB_zero] at hg
          refine W_exit rfl ?_
          refine W_sr rfl (fun K hK => ?_)
          refine sv hF (v_move rfl) rfl ?_; clear hF a; intro a hF
          refine sv hF (v_assign rfl) rfl ?_; clear hF a; intro a hF
          refine WL_nil (hK _ _ ?_)
          clear hK K
          replace hF := hF.sub _ (c_ 6 rfl (c_ 32 rfl (c_ 0 rfl (c_ 1 rfl (c_ 2 rfl (c_ 7 rfl (n_)))))))
          refine W_ret ?_
          refine ⟨_, _, hF, rfl, ?_⟩
          exact ⟨by rw [gpow_in hx0, hg, powB_prm hp], hS⟩

set_option maxRecDepth 100000 in
set_option maxHeartbeats 1000000 in
theorem Inv_gf (B : Nat) (o : Fq) (fv : Value) (ia : Int) (w : World) (hI : Inv FDx B w) (hf : Fo FDx B w fv o) : Ret Try.prog 46 [fv, .int .i64 ia] w fun v w' => v = .tuple #[.int .i64 (ginv o ia), .bool (ginvb o ia)] ∧ St FDx B w w' := by
  refine enter2 21 [(0, fv), (1, .int .i64 ia)] 4 5 Try.func46 rfl rfl rfl rfl rfl ?_; intro a hF
  have hS := St.refl hI
  refine W_sr rfl (fun K hK => ?_)
  refine sv hF (v_assign rfl) rfl ?_; clear hF a; intro a hF
  refine sv hF (v_assign rfl) rfl ?_; clear hF a; intro a hF
  refine WL_nil (hK _ _ ?_)
  clear hK K
  refine W_seq ?_
  refine W_sr rfl (fun K hK => ?_)
  refine sv hF (v_move rfl) rfl ?_; clear hF a; intro a hF
  refine sv hF (v_move rfl) rfl ?_; clear hF a; intro a hF
  refine s_bs (D := FDx) (B := B) hF sl37 rfl rfl (by decide) (by simp [Value.cells]) (by decide) hS.inv rfl ?_; clear hF a; intro w' a hm hI' hb hF
  replace hf := hf.mb hm
  replace hS := hS.mb0 hm
  clear hm hI'
  refine sc hF rfl rfl rfl en64 rfl (in_ok B o fv (some ⟨_, 0, none⟩) 1 [ia] _ hS.inv hf (by simp) (own_in (D := FDx) (B := B) (zs := [ia]) hb (by decide))) ?_; clear hF a; intro v w' a hv hF
  clear hb
  obtain ⟨rfl, rfl⟩ := hv
  have hS' := St.refl hS.inv
  replace hf := hf.st hS'
  replace hS := hS.trans hS'
  clear hS'
  refine sb hF (v_not rfl) rfl ?_ ?_
  · clear hF a; intro hc1 a hF
    try simp only [decide_eq_true_eq, decide_eq_false_iff_not, Bool.not_eq_true', Bool.not_eq_false', Bool.not_true, Bool.not_false] at hc1
    refine sv hF (v_move rfl) rfl ?_; clear hF a; intro a hF
    refine svn hF rfl rfl rfl ?_; clear hF a; intro a hF
    refine svn hF rfl rfl rfl ?_; clear hF a; intro a hF
    refine sv hF (v_pickT rfl rfl) rfl ?_; clear hF a; intro a hF
    refine WL_nil (hK _ _ ?_)
    clear hK K
    replace hF := hF.sub _ (c_ 14 rfl (c_ 5 rfl (c_ 4 rfl (c_ 0 rfl (c_ 1 rfl (n_))))))
    refine W_ifT hF rfl ?_
    refine W_sr rfl (fun K hK => ?_)
    refine sv hF (v_assign rfl) rfl ?_; clear hF a; intro a hF
    refine sv hF (v_assign rfl) rfl ?_; clear hF a; intro a hF
    refine WL_nil (hK _ _ ?_)
    clear hK K
    replace hF := hF.sub _ (c_ 5 rfl (c_ 4 rfl (c_ 0 rfl (c_ 1 rfl (n_)))))
    refine W_ret ?_
    refine ⟨_, _, _, hF, rfl, rfl, ?_⟩
    rw [all1] at hc1
    exact ⟨by rw [ginv_out (.inl hc1), ginvb_out (.inl hc1)], hS⟩
  · clear hF a; intro hc1 a hF
    try simp only [decide_eq_true_eq, decide_eq_false_iff_not, Bool.not_eq_true', Bool.not_eq_false', Bool.not_true, Bool.not_false] at hc1
    refine sv hF (v_move rfl) rfl ?_; clear hF a; intro a hF
    refine svg hF rfl ?_
    refine sv hF (v_move rfl) rfl ?_; clear hF a; intro a hF
    refine svg hF rfl ?_
    refine sv hF (v_eql rfl rfl) rfl ?_; clear hF a; intro a hF
    refine sv hF (v_pickF rfl rfl) rfl ?_; clear hF a; intro a hF
    refine WL_nil (hK _ _ ?_)
    clear hK K
    replace hF := hF.sub _ (c_ 14 rfl (c_ 5 rfl (c_ 4 rfl (c_ 0 rfl (c_ 1 rfl (n_))))))
    refine W_if hF rfl (fun hc2 => ?_) (fun hc2 => ?_)
    · skip
      try simp only [decide_eq_true_eq, decide_eq_false_iff_not, Bool.not_eq_true', Bool.not_eq_false', Bool.not_true, Bool.not_false] at hc2
      refine W_sr rfl (fun K hK => ?_)
      refine sv hF (v_assign rfl) rfl ?_; clear hF a; intro a hF
      refine sv hF (v_assign rfl) rfl ?_; clear hF a; intro a hF
      refine WL_nil (hK _ _ ?_)
      clear hK K
      replace hF := hF.sub _ (c_ 5 rfl (c_ 4 rfl (c_ 0 rfl (c_ 1 rfl (n_)))))
      refine W_ret ?_
      refine ⟨_, _, _, hF, rfl, rfl, ?_⟩
      exact ⟨by rw [ginv_out (.inr (by omega)), ginvb_out (.inr (by omega))], hS⟩
    · skip
      try simp only [decide_eq_true_eq, decide_eq_false_iff_not, Bool.not_eq_true', Bool.not_eq_false', Bool.not_true, Bool.not_false] at hc2
      refine W_skip ?_
      rw [all1] at hc1
      have hsz := fsz_le hf
      refine W_sr rfl (fun K hK => ?_)
      refine sv hF (v_move rfl) rfl ?_; clear hF a; intro a hF
      refine sv hF (v_move rfl) rfl ?_; clear hF a; intro a hF
      refine sv hF (v_move rfl) rfl ?_; clear hF a; intro a hF
      refine sc hF rfl rfl rfl en53 rfl (Size_ok B o fv _ hf) ?_; clear hF a; intro v w' a hv hF
      obtain ⟨rfl, rfl⟩ := hv
      have hS' := St.refl hS.inv
      replace hf := hf.st hS'
      replace hS := hS.trans hS'
      clear hS'
      refine sv hF (v_subI rfl rfl (by omega)) rfl ?_; clear hF a; intro a hF
      refine sc hF rfl rfl rfl en42 rfl (Pow_gf B o fv ia ((fsz o : Int) - 2) _ hS.inv hf (by omega)) ?_; clear hF a; intro v w' a hv hF
      obtain ⟨rfl, hS'⟩ := hv
      replace hf := hf.st hS'
      replace hS := hS.trans hS'
      clear hS'
      refine sv hF (v_assign rfl) rfl ?_; clear hF a; intro a hF
      refine sv hF (v_assign rfl) rfl ?_; clear hF a; intro a hF
      refine WL_nil (hK _ _ ?_)
      clear hK K
      replace hF := hF.sub _ (c_ 5 rfl (c_ 4 rfl (n_)))
      refine W_ret ?_
      refine ⟨_, _, _, hF, rfl, rfl, ?_⟩
      exact ⟨by rw [ginv_in hc1 (by omega), ginvb_in hc1 (by omega)], hS⟩

end Go.Proofs.Ytaeljbdpjiciaaa
