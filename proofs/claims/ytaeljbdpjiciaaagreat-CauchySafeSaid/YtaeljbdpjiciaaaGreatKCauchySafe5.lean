/- Texts of the claim CauchySafe (part 5), put together in the order of their imports. -/
import Derived.Test.YtaeljbdpjiciaaaGreatKCauchySafe4
import Derived.Scope
/- The walks of package gf: products, powers, inverses. -/
set_option linter.unusedVariables false
set_option linter.unusedSimpArgs false
namespace Go.Proofs.YtaeljbdpjiciaaaGreat
open Go Go.Gam


namespace FxFGfb
theorem en26 : Ent Tryz.prog 26 := ent Tryz.func26 (by kernel_rfl) (by kernel_rfl)
theorem en40 : Ent Tryz.prog 40 := ent Tryz.func40 (by kernel_rfl) (by kernel_rfl)
theorem en41 : Ent Tryz.prog 41 := ent Tryz.func41 (by kernel_rfl) (by kernel_rfl)
theorem en59 : Ent Tryz.prog 59 := ent Tryz.func59 (by kernel_rfl) (by kernel_rfl)
theorem en62 : Ent Tryz.prog 62 := ent Tryz.func62 (by kernel_rfl) (by kernel_rfl)
theorem en67 : Ent Tryz.prog 67 := ent Tryz.func67 (by kernel_rfl) (by kernel_rfl)
theorem en68 : Ent Tryz.prog 68 := ent Tryz.func68 (by kernel_rfl) (by kernel_rfl)
theorem en72 : Ent Tryz.prog 72 := ent Tryz.func72 (by kernel_rfl) (by kernel_rfl)
theorem fa78_0 : FieldFact Tryz.prog 78 0 0 := ff_of (sz := 2) Tryz.underlying78 (by kernel_rfl)
theorem fa78_1 : FieldFact Tryz.prog 78 1 3 := ff_of (sz := 0) Tryz.underlying78 (by kernel_rfl)
theorem fa78_2 : FieldFact Tryz.prog 78 2 4 := ff_of (sz := 0) Tryz.underlying78 (by kernel_rfl)
theorem fa80_0 : FieldFact Tryz.prog 80 0 0 := ff_of (sz := 0) Tryz.underlying80 (by kernel_rfl)
theorem fa80_1 : FieldFact Tryz.prog 80 1 1 := ff_of (sz := 0) Tryz.underlying80 (by kernel_rfl)
theorem fa80_2 : FieldFact Tryz.prog 80 2 2 := ff_of (sz := 4) Tryz.underlying80 (by kernel_rfl)
theorem hmix : Tryz.prog.follows .mixedOrders = true := by kernel_rfl
theorem sc25 : Scalar Tryz.prog 25 := ⟨_, Tryz.underlying25, by simp, by simp⟩
theorem sc26 : Scalar Tryz.prog 26 := ⟨_, Tryz.underlying26, by simp, by simp⟩
theorem sc3 : Scalar Tryz.prog 3 := ⟨_, Tryz.underlying3, by simp, by simp⟩
theorem sc39 : Scalar Tryz.prog 39 := ⟨_, Tryz.underlying39, by simp, by simp⟩
theorem sl39 : Sl Tryz.prog 39 3 (.int .i64 0) 8 := sl_of Tryz.underlying39 rfl (by kernel_rfl)
end FxFGfb
open FxFGfb

theorem Do_made_ok (B wb p k ge gl pb : Nat) (w : World) (hm : Made FDx B w k wb p ge gl) :
  Ret Tryz.prog 72 [.pointer (some ⟨k, 2, none⟩), .func (.func 73) #[] #[.pointer (some ⟨pb, 0, none⟩)]] w fun v w' => v = .tuple #[] ∧ w' = w :=
 (do_done k 2 _ w hm.c2).mono fun e w' ⟨h1, h2⟩ => ⟨_, h1, rfl, h2⟩

theorem Do_new_ok (B wb p k pb : Nat) (w : World) (hI : Inv FDx B w) (hB : B ≤ k) (hk : w.heap[k]? = some (.cells (fcells wb p 0 (.slice none 0 0) (.slice none 0 0)) FDx.T (0, 0))) (hp : Prm wb p)
  (hc : w.cell? ⟨pb, 0, none⟩ = some (.pointer (some ⟨k, 0, none⟩))) (hkb : k ≠ pb) :
  Ret Tryz.prog 72 [.pointer (some ⟨k, 2, none⟩), .func (.func 73) #[] #[.pointer (some ⟨pb, 0, none⟩)]] w fun v w' => v = .tuple #[] ∧ St FDx B w w' ∧ ∃ ge gl, Made FDx B w' k wb p ge gl := by
 have hu := setCell_heap (i := 3) (.int .i32 1) hk
 have hc' : (w.setCell ⟨k, 3, none⟩ (.int .i32 1)).cell? ⟨pb, 0, none⟩ = some (.pointer (some ⟨k, 0, none⟩)) := (cell_of_heap (a := ⟨pb, 0, none⟩) (hu.keep pb (Ne.symm hkb))).trans hc
 refine (do_first k 2 ⟨pb, 0, none⟩ w (fun w2 => ∃ g1 g2, Tst FDx (w.setCell ⟨k, 3, none⟩ (.int .i32 1)) w2 k #[.int .i64 (wb : Int), .int .u32 (p : Int), .int .u32 0, .int .i32 1, .int .u32 0, .slice (some ⟨g1, 0, none⟩) (2 ^ wb) (2 ^ wb), .slice (some ⟨g2, 0, none⟩) (2 ^ wb) (2 ^ wb)] g1 g2 (Px.expL wb p (2 ^ wb - 1)) (Px.logL wb p (2 ^ wb - 1))) ?_ ?_ ?_ ?_ ?_).mono ?_
 ·
  simp [World.cell?, hk, fcells]
 ·
  simp [World.cell?, hk, fcells]
 ·
  simp [World.frozen?, hk]
 ·
  exact Calls.mono (ready1_ok wb p k pb (.int .u32 0) (.int .i32 1) (.int .u32 0) _ hp hu.new hc' hkb) fun e w' ⟨v, h1, h2, h3⟩ => ⟨by rw [h1, h2], h3⟩
 ·
  rintro w2 ⟨g1, g2, hT⟩
  exact ⟨hT.c 2 rfl, hT.c 3 rfl, by simp [World.frozen?, hT.blk], by simp [World.frozen?, hT.blk]⟩
 ·
  rintro e w' ⟨rfl, w2, ⟨g1, g2, hT⟩, rfl⟩
  have h := hT.done hI hB hk
  exact ⟨_, rfl, rfl, h.1, g1, g2, h.2⟩

set_option maxRecDepth 100000 in
set_option maxHeartbeats 1000000 in
theorem ready_made (B wb p k ge gl : Nat) (w : World) (hI : Inv FDx B w) (hmd : Made FDx B w k wb p ge gl) : Ret Tryz.prog 67 [.pointer (some ⟨k, 0, none⟩)] w fun v w' => v = .pointer (some ⟨k, 2, none⟩) ∧ St FDx B w w' ∧ ∃ ge gl, Made FDx B w' k wb p ge gl := by
 refine enter 12 [(0, .pointer (some ⟨k, 0, none⟩))] 2 Tryz.func67 rfl rfl rfl rfl rfl ?_; intro a hF
 have hS := St.refl hI
 refine W_sr rfl (fun K hK => ?_)
 refine s_box (D := FDx) (B := B) hF rfl (by decide) hS.inv rfl ?_; clear hF a; intro w' a hm hbox hsz hF
 replace hmd := hm.made hmd
 replace hS := hS.mb0 hm
 clear hm
 refine sv hF (v_assign rfl) rfl ?_; clear hF a; intro a hF
 refine WL_nil (hK _ _ ?_)
 clear hK K
 replace hF := hF.sub _ (c_ 2 rfl (c_ 1 rfl (n_)))
 refine W_sr rfl (fun K hK => ?_)
 refine sv hF (v_load sc25 rfl (hbox.at 0 rfl)) rfl ?_; clear hF a; intro a hF
 refine sv hF (v_nil rfl) rfl ?_; clear hF a; intro a hF
 refine sv hF (v_fieldAddr fa80_2 rfl) rfl ?_; clear hF a; intro a hF
 refine sv hF (v_fieldAddr fa78_0 rfl) rfl ?_; clear hF a; intro a hF
 refine sv hF (v_mkf rfl) rfl ?_; clear hF a; intro a hF
 refine sc hF rfl rfl rfl en72 rfl (Do_made_ok B wb p k ge gl _ _ hmd) ?_; clear hF a; intro v w' a hv hF
 obtain ⟨rfl, rfl⟩ := hv
 have hS' := St.refl hS.inv
 replace hmd := hmd.st hS'
 replace hbox := hbox.st (by decide) hS'
 replace hS := hS.trans hS'
 clear hS'
 refine WL_nil (hK _ _ ?_)
 clear hK K
 replace hF := hF.sub _ (c_ 2 rfl (c_ 1 rfl (n_)))
 refine W_sr rfl (fun K hK => ?_)
 refine sv hF (v_load sc25 rfl (hbox.at 0 rfl)) rfl ?_; clear hF a; intro a hF
 refine sv hF (v_nil rfl) rfl ?_; clear hF a; intro a hF
 refine sv hF (v_fieldAddr fa80_2 rfl) rfl ?_; clear hF a; intro a hF
 refine sv hF (v_assign rfl) rfl ?_; clear hF a; intro a hF
 refine WL_nil (hK _ _ ?_)
 clear hK K
 replace hF := hF.sub _ (c_ 2 rfl (n_))
 refine W_ret ?_
 refine ⟨_, _, hF, rfl, ?_⟩
 exact ⟨rfl, hS, _, _, hmd⟩

set_option maxRecDepth 100000 in
set_option maxHeartbeats 1000000 in
theorem ready_new (B wb p k : Nat) (w : World) (hI : Inv FDx B w) (hB : B ≤ k) (hk : w.heap[k]? = some (.cells (fcells wb p 0 (.slice none 0 0) (.slice none 0 0)) FDx.T (0, 0))) (hp : Prm wb p) : Ret Tryz.prog 67 [.pointer (some ⟨k, 0, none⟩)] w fun v w' => v = .pointer (some ⟨k, 2, none⟩) ∧ St FDx B w w' ∧ ∃ ge gl, Made FDx B w' k wb p ge gl := by
 refine enter 12 [(0, .pointer (some ⟨k, 0, none⟩))] 2 Tryz.func67 rfl rfl rfl rfl rfl ?_; intro a hF
 have hS := St.refl hI
 have hlt := heap_lt hk
 refine W_sr rfl (fun K hK => ?_)
 refine s_box (D := FDx) (B := B) hF rfl (by decide) hS.inv rfl ?_; clear hF a; intro w' a hm hbox hsz hF
 replace hk := (hm.keep _ (heap_lt hk) (by simp)).trans hk
 replace hS := hS.mb0 hm
 clear hm
 have hkb : k ≠ w.heap.size := by omega
 generalize w.heap.size = pb at *
 refine sv hF (v_assign rfl) rfl ?_; clear hF a; intro a hF
 refine WL_nil (hK _ _ ?_)
 clear hK K
 replace hF := hF.sub _ (c_ 2 rfl (c_ 1 rfl (n_)))
 refine W_sr rfl (fun K hK => ?_)
 refine sv hF (v_load sc25 rfl (hbox.at 0 rfl)) rfl ?_; clear hF a; intro a hF
 refine sv hF (v_nil rfl) rfl ?_; clear hF a; intro a hF
 refine sv hF (v_fieldAddr fa80_2 rfl) rfl ?_; clear hF a; intro a hF
 refine sv hF (v_fieldAddr fa78_0 rfl) rfl ?_; clear hF a; intro a hF
 refine sv hF (v_mkf rfl) rfl ?_; clear hF a; intro a hF
 refine sc hF rfl rfl rfl en72 rfl (Do_new_ok B wb p k pb _ hS.inv hB hk hp (hbox.at 0 rfl) hkb) ?_; clear hF a; intro v w' a hv hF
 clear hk
 obtain ⟨rfl, hS', hmd⟩ := hv
 replace hbox := hbox.st (by decide) hS'
 replace hS := hS.trans hS'
 clear hS'
 refine WL_nil (hK _ _ ?_)
 clear hK K
 replace hF := hF.sub _ (c_ 2 rfl (c_ 1 rfl (n_)))
 refine W_sr rfl (fun K hK => ?_)
 refine sv hF (v_load sc25 rfl (hbox.at 0 rfl)) rfl ?_; clear hF a; intro a hF
 refine sv hF (v_nil rfl) rfl ?_; clear hF a; intro a hF
 refine sv hF (v_fieldAddr fa80_2 rfl) rfl ?_; clear hF a; intro a hF
 refine sv hF (v_assign rfl) rfl ?_; clear hF a; intro a hF
 refine WL_nil (hK _ _ ?_)
 clear hK K
 replace hF := hF.sub _ (c_ 2 rfl (n_))
 refine W_ret ?_
 refine ⟨_, _, hF, rfl, ?_⟩
 exact ⟨rfl, hS, hmd⟩

theorem ready_ok (B wb p k : Nat) (w : World) (hI : Inv FDx B w) (hf : FOK FDx B w k wb p) (hp : Prm wb p) : Ret Tryz.prog 67 [.pointer (some ⟨k, 0, none⟩)] w fun v w' => v = .pointer (some ⟨k, 2, none⟩) ∧ St FDx B w w' ∧ ∃ ge gl, Made FDx B w' k wb p ge gl := by
 rcases hf.cases with ⟨hB, hk⟩ | ⟨ge, gl, hmd⟩
 ·
  exact ready_new B wb p k w hI hB hk hp
 ·
  exact ready_made B wb p k ge gl w hI hmd

set_option maxRecDepth 100000 in
set_option maxHeartbeats 1000000 in
theorem Exp_some (B wb p k : Nat) (n : Int) (w : World) (hI : Inv FDx B w) (hf : FOK FDx B w k wb p) (hp : Prm wb p) (hn : -9223372036854775808 ≤ n ∧ n < 9223372036854775808) : Ret Tryz.prog 68 [.pointer (some ⟨k, 0, none⟩), .int .i64 n] w fun v w' => v = .int .i64 ((Px.pw p (n % ((2 ^ wb - 1 : Nat) : Int)).toNat : Int)) ∧ St FDx B w w' := by
 refine enter 25 [(0, .pointer (some ⟨k, 0, none⟩)), (1, .int .i64 n)] 4 Tryz.func68 rfl rfl rfl rfl rfl ?_; intro a hF
 have hS := St.refl hI
 have hsz := hp.size
 have horder := hp.order
 have htm := tmod_bd n (m := 2 ^ wb - 1) (by omega)
 have hidx := exp_index n (m := 2 ^ wb - 1) (by omega)
 have hi1 := Int.emod_nonneg n (show ((2 ^ wb - 1 : Nat) : Int) ≠ 0 by omega)
 have hi2 := Int.emod_lt_of_pos n (show (0 : Int) < ((2 ^ wb - 1 : Nat) : Int) by omega)
 obtain ⟨i, hi⟩ : ∃ i : Nat, n % ((2 ^ wb - 1 : Nat) : Int) = (i : Int) := ⟨(n % ((2 ^ wb - 1 : Nat) : Int)).toNat, by omega⟩
 rw [hi] at hidx
 refine W_sr rfl (fun K hK => ?_)
 refine sv hF (v_assign rfl) rfl ?_; clear hF a; intro a hF
 refine WL_nil (hK _ _ ?_)
 clear hK K
 refine W_seq ?_
 refine W_sr rfl (fun K hK => ?_)
 refine sv hF (v_move rfl) rfl ?_; clear hF a; intro a hF
 refine sv hF ((v_eqlNil (by exact Tryz.underlying25) rfl rfl).as (congrArg Value.bool (rfl))) rfl ?_; clear hF a; intro a hF
 refine WL_nil (hK _ _ ?_)
 clear hK K
 replace hF := hF.sub _ (c_ 7 rfl (c_ 4 rfl (c_ 0 rfl (c_ 1 rfl (n_)))))
 refine W_ifF hF rfl ?_
 refine W_skip ?_
 refine W_sr rfl (fun K hK => ?_)
 refine sv hF (v_move rfl) rfl ?_; clear hF a; intro a hF
 refine sc hF rfl rfl rfl en26 rfl (Size_some k wb _ hf.w0 (by have := hp.w; omega)) ?_; clear hF a; intro v w' a hv hF
 obtain ⟨rfl, rfl⟩ := hv
 have hS' := St.refl hS.inv
 replace hf := hf.st hS'
 replace hS := hS.trans hS'
 clear hS'
 refine sv hF (v_subN (m := 2 ^ wb) (n := 1) rfl rfl (by omega) (by omega)) rfl ?_; clear hF a; intro a hF
 refine sv hF (v_assign rfl) rfl ?_; clear hF a; intro a hF
 refine WL_nil (hK _ _ ?_)
 clear hK K
 replace hF := hF.sub _ (c_ 5 rfl (c_ 4 rfl (c_ 0 rfl (c_ 1 rfl (n_)))))
 refine W_sd (m := 15) rfl hmix hS.inv (fun K hK w1 hS' hh => ?_)
 replace hf := hf.st hS'
 replace hS := hS.trans hS'
 clear hS'
 clear hh
 refine a_v (i := 0) rfl (by kernel_rfl) hF (fun w2 hx => v_move rfl) rfl ?_; clear hF a; intro a hF
 refine a_v (i := 5) rfl (by kernel_rfl) hF (fun w2 hx => v_move rfl) rfl ?_; clear hF a; intro a hF
 refine a_v (i := 6) rfl (by kernel_rfl) hF (fun w2 hx => v_move rfl) rfl ?_; clear hF a; intro a hF
 refine a_v (i := 7) rfl (by kernel_rfl) hF (fun w2 hx => v_rem rfl rfl (by omega)) rfl ?_; clear hF a; intro a hF
 refine a_v (i := 8) rfl (by kernel_rfl) hF (fun w2 hx => v_move rfl) rfl ?_; clear hF a; intro a hF
 refine a_v (i := 9) rfl (by kernel_rfl) hF (fun w2 hx => v_addI rfl rfl (by omega)) rfl ?_; clear hF a; intro a hF
 refine a_v (i := 10) rfl (by kernel_rfl) hF (fun w2 hx => v_move rfl) rfl ?_; clear hF a; intro a hF
 refine a_v (i := 11) rfl (by kernel_rfl) hF (fun w2 hx => (v_remI rfl rfl (by omega) (by omega)).as (congrArg _ hidx)) rfl ?_; clear hF a; intro a hF
 refine a_e (i := 1) rfl (by kernel_rfl) ?_
 refine sc hF rfl rfl rfl en67 rfl (ready_ok B wb p k _ hS.inv hf hp) ?_; clear hF a; intro v w' a hv hF
 obtain ⟨rfl, hS', ge, gl, hmd⟩ := hv
 refine WL_nil ⟨hS'.ext, ?_⟩
 replace hS := hS.trans hS'
 clear hS'
 refine a_v (i := 2) rfl (by kernel_rfl) hF (fun w2 hx => v_nil rfl) rfl ?_; clear hF a; intro a hF
 refine a_v (i := 3) rfl (by kernel_rfl) hF (fun w2 hx => v_fieldAddr fa78_1 rfl) rfl ?_; clear hF a; intro a hF
 refine a_v (i := 4) rfl (by kernel_rfl) hF (fun w2 hx => v_load sc39 rfl (hx.made _ _ _ _ _ hmd).c5) rfl ?_; clear hF a; intro a hF
 refine a_v (i := 12) rfl (by kernel_rfl) hF (fun w2 hx => v_ixS sl39 rfl rfl (by omega) (by omega)) rfl ?_; clear hF a; intro a hF
 refine a_v (i := 13) rfl (by kernel_rfl) hF (fun w2 hx => v_load sc3 rfl (by rw [toNat_c, Nat.zero_add]; exact (hx.made _ _ _ _ _ hmd).exp (by omega))) rfl ?_; clear hF a; intro a hF
 refine a_v (i := 14) rfl (by kernel_rfl) hF (fun w2 hx => v_assign rfl) rfl ?_; clear hF a; intro a hF
 refine a_done (by kernel_rfl) (hK _ _ ?_)
 clear hK K
 replace hF := hF.sub _ (c_ 4 rfl (n_))
 refine W_ret ?_
 refine ⟨_, _, hF, rfl, ?_⟩
 exact ⟨by rw [hi]; rfl, hS⟩

set_option maxRecDepth 100000 in
set_option maxHeartbeats 1000000 in
theorem Mul_gf (B : Nat) (o : Fq) (fv : Value) (ia ib : Int) (w : World) (hI : Inv FDx B w) (hf : Fo FDx B w fv o) : Ret Tryz.prog 59 [fv, .int .i64 ia, .int .i64 ib] w fun v w' => v = .int .i64 (gmul o ia ib) ∧ St FDx B w w' := by
 refine enter 58 [(0, fv), (1, .int .i64 ia), (2, .int .i64 ib)] 6 Tryz.func59 rfl rfl rfl rfl rfl ?_; intro a hF
 have hS := St.refl hI
 refine W_sr rfl (fun K hK => ?_)
 refine sv hF (v_assign rfl) rfl ?_; clear hF a; intro a hF
 refine WL_nil (hK _ _ ?_)
 clear hK K
 refine W_seq ?_
 refine W_block ?_
 refine W_sr rfl (fun K hK => ?_)
 refine sv3 hF (v_move rfl) (v_move rfl) (v_move rfl) rfl rfl rfl ?_; clear hF a; intro a hF
 refine s_bs (D := FDx) (B := B) hF sl39 rfl rfl (by decide) (by simp [Value.cells]) (by decide) hS.inv rfl ?_; clear hF a; intro w' a hm hI' hb hF
 replace hf := hf.mb hm
 replace hS := hS.mb0 hm
 clear hm hI'
 refine sc hF rfl rfl rfl en40 rfl (in_ok B o fv (some ⟨_, 0, none⟩) 2 [ia, ib] _ hS.inv hf (by simp) (own_in (D := FDx) (B := B) (zs := [ia, ib]) hb (by decide))) ?_; clear hF a; intro v w' a hv hF
 clear hb
 obtain ⟨rfl, rfl⟩ := hv
 have hS' := St.refl hS.inv
 replace hf := hf.st hS'
 replace hS := hS.trans hS'
 clear hS'
 refine sb hF (v_not rfl) rfl ?_ ?_
 ·
  clear hF a; intro hc1 a hF
  try simp only [dcl] at hc1
  refine sv hF (v_move rfl) rfl ?_; clear hF a; intro a hF
  refine svn hF rfl rfl rfl ?_; clear hF a; intro a hF
  refine svn hF rfl rfl rfl ?_; clear hF a; intro a hF
  refine sv2 hF (v_pickT rfl rfl) (v_move rfl) rfl rfl ?_; clear hF a; intro a hF
  refine svn hF rfl rfl rfl ?_; clear hF a; intro a hF
  refine svn hF rfl rfl rfl ?_; clear hF a; intro a hF
  refine sv2 hF (v_pickT rfl rfl) (v_assign rfl) rfl rfl ?_; clear hF a; intro a hF
  refine WL_nil (hK _ _ ?_)
  clear hK K
  replace hF := hF.sub _ (c_ 8 rfl (c_ 6 rfl (c_ 0 rfl (c_ 1 rfl (c_ 2 rfl (n_))))))
  refine W_ifT hF rfl ?_
  refine W_sr rfl (fun K hK => ?_)
  refine sv hF (v_assign rfl) rfl ?_; clear hF a; intro a hF
  refine WL_nil (hK _ _ ?_)
  clear hK K
  replace hF := hF.sub _ (c_ 6 rfl (c_ 0 rfl (c_ 1 rfl (c_ 2 rfl (n_)))))
  refine W_ret ?_
  refine ⟨_, _, hF, rfl, ?_⟩
  first
   | exact ⟨by rw [gmul_out hc1], hS⟩
   | (subst_vars; exact ⟨by rw [gmul_zl], hS⟩)
   | (subst_vars; exact ⟨by rw [gmul_zr], hS⟩)
   | exact ⟨by rw [gmul_in hx hy, hp.pw_sum ei ej], hS⟩
   | exact ⟨by rw [gmul_in hx hy], hS⟩
 ·
  clear hF a; intro hc1 a hF
  try simp only [dcl] at hc1
  refine sv hF (v_move rfl) rfl ?_; clear hF a; intro a hF
  refine svg hF rfl ?_
  refine sv hF (v_move rfl) rfl ?_; clear hF a; intro a hF
  refine svg hF rfl ?_
  refine sb hF (v_eql rfl rfl) rfl ?_ ?_
  ·
   clear hF a; intro hc2 a hF
   try simp only [dcl] at hc2
   refine sv2 hF (v_pickF rfl rfl) (v_move rfl) rfl rfl ?_; clear hF a; intro a hF
   refine svn hF rfl rfl rfl ?_; clear hF a; intro a hF
   refine svn hF rfl rfl rfl ?_; clear hF a; intro a hF
   refine sv2 hF (v_pickT rfl rfl) (v_assign rfl) rfl rfl ?_; clear hF a; intro a hF
   refine WL_nil (hK _ _ ?_)
   clear hK K
   replace hF := hF.sub _ (c_ 8 rfl (c_ 6 rfl (c_ 0 rfl (c_ 1 rfl (c_ 2 rfl (n_))))))
   refine W_ifT hF rfl ?_
   refine W_sr rfl (fun K hK => ?_)
   refine sv hF (v_assign rfl) rfl ?_; clear hF a; intro a hF
   refine WL_nil (hK _ _ ?_)
   clear hK K
   replace hF := hF.sub _ (c_ 6 rfl (c_ 0 rfl (c_ 1 rfl (c_ 2 rfl (n_)))))
   refine W_ret ?_
   refine ⟨_, _, hF, rfl, ?_⟩
   first
    | exact ⟨by rw [gmul_out hc1], hS⟩
    | (subst_vars; exact ⟨by rw [gmul_zl], hS⟩)
    | (subst_vars; exact ⟨by rw [gmul_zr], hS⟩)
    | exact ⟨by rw [gmul_in hx hy, hp.pw_sum ei ej], hS⟩
    | exact ⟨by rw [gmul_in hx hy], hS⟩
  ·
   clear hF a; intro hc2 a hF
   try simp only [dcl] at hc2
   refine sv2 hF (v_pickF rfl rfl) (v_move rfl) rfl rfl ?_; clear hF a; intro a hF
   refine svg hF rfl ?_
   refine sv hF (v_move rfl) rfl ?_; clear hF a; intro a hF
   refine svg hF rfl ?_
   refine sv hF (v_eql rfl rfl) rfl ?_; clear hF a; intro a hF
   refine sv2 hF (v_pickF rfl rfl) (v_assign rfl) rfl rfl ?_; clear hF a; intro a hF
   refine WL_nil (hK _ _ ?_)
   clear hK K
   replace hF := hF.sub _ (c_ 8 rfl (c_ 6 rfl (c_ 0 rfl (c_ 1 rfl (c_ 2 rfl (n_))))))
   refine W_if hF rfl (fun hc3 => ?_) (fun hc3 => ?_)
   ·
    skip
    try simp only [dcl] at hc3
    refine W_sr rfl (fun K hK => ?_)
    refine sv hF (v_assign rfl) rfl ?_; clear hF a; intro a hF
    refine WL_nil (hK _ _ ?_)
    clear hK K
    replace hF := hF.sub _ (c_ 6 rfl (c_ 0 rfl (c_ 1 rfl (c_ 2 rfl (n_)))))
    refine W_ret ?_
    refine ⟨_, _, hF, rfl, ?_⟩
    first
     | exact ⟨by rw [gmul_out hc1], hS⟩
     | (subst_vars; exact ⟨by rw [gmul_zl], hS⟩)
     | (subst_vars; exact ⟨by rw [gmul_zr], hS⟩)
     | exact ⟨by rw [gmul_in hx hy, hp.pw_sum ei ej], hS⟩
     | exact ⟨by rw [gmul_in hx hy], hS⟩
   ·
    skip
    try simp only [dcl] at hc3
    rw [all2, Bool.and_eq_true] at hc1
    obtain ⟨hin, hinb⟩ := hc1
    obtain ⟨wb, p, k, rfl, rfl, hp, hfk⟩ := fo_some hf (a := ia) hin
    obtain ⟨x, rfl, hx⟩ := inF_nat hin
    obtain ⟨y, rfl, hy⟩ := inF_nat hinb
    have hsz := hp.size
    have hml := hp.mulMod_lt x y
    have hplt := hp.lt
    refine W_sr rfl (fun K hK => ?_)
    refine sv hF (v_move rfl) rfl ?_; clear hF a; intro a hF
    refine sv hF (v_nil rfl) rfl ?_; clear hF a; intro a hF
    refine sv hF (v_fieldAddr fa80_0 rfl) rfl ?_; clear hF a; intro a hF
    refine sv hF (v_load sc3 rfl hfk.w0) rfl ?_; clear hF a; intro a hF
    refine sv hF (v_eql rfl rfl) rfl ?_; clear hF a; intro a hF
    refine sv hF (v_assign rfl) rfl ?_; clear hF a; intro a hF
    refine WL_nil (hK _ _ ?_)
    clear hK K
    replace hF := hF.sub _ (c_ 23 rfl (c_ 6 rfl (c_ 0 rfl (c_ 1 rfl (c_ 2 rfl (n_))))))
    refine W_if hF rfl (fun hc4 => ?_) (fun hc4 => ?_)
    ·
     skip
     try simp only [dcl] at hc4
     refine W_sr rfl (fun K hK => ?_)
     refine sv hF (v_move rfl) rfl ?_; clear hF a; intro a hF
     refine sv hF (v_cv Tryz.underlying3 Tryz.underlying26 rfl (wrap_u32 _ (by omega))) rfl ?_; clear hF a; intro a hF
     refine sv hF (v_move rfl) rfl ?_; clear hF a; intro a hF
     refine sv hF (v_cv Tryz.underlying3 Tryz.underlying26 rfl (wrap_u32 _ (by omega))) rfl ?_; clear hF a; intro a hF
     refine sv hF (v_move rfl) rfl ?_; clear hF a; intro a hF
     refine sv hF (v_nil rfl) rfl ?_; clear hF a; intro a hF
     refine sv hF (v_fieldAddr fa80_1 rfl) rfl ?_; clear hF a; intro a hF
     refine sv hF (v_load sc26 rfl hfk.p0) rfl ?_; clear hF a; intro a hF
     refine sc hF rfl rfl rfl en62 rfl (MulMod_ok B x y p _ hS.inv (by omega) (by omega) (by omega)) ?_; clear hF a; intro v w' a hv hF
     obtain ⟨rfl, hS'⟩ := hv
     replace hS := hS.trans hS'
     clear hS'
     refine sv hF (v_cv Tryz.underlying26 Tryz.underlying3 rfl (wrap_i64 _ (by omega))) rfl ?_; clear hF a; intro a hF
     refine sv hF (v_assign rfl) rfl ?_; clear hF a; intro a hF
     refine WL_nil (hK _ _ ?_)
     clear hK K
     replace hF := hF.sub _ (c_ 6 rfl (c_ 0 rfl (c_ 1 rfl (c_ 2 rfl (n_)))))
     refine W_ret ?_
     refine ⟨_, _, hF, rfl, ?_⟩
     first
      | exact ⟨by rw [gmul_out hc1], hS⟩
      | (subst_vars; exact ⟨by rw [gmul_zl], hS⟩)
      | (subst_vars; exact ⟨by rw [gmul_zr], hS⟩)
      | exact ⟨by rw [gmul_in hx hy, hp.pw_sum ei ej], hS⟩
      | exact ⟨by rw [gmul_in hx hy], hS⟩
    ·
     skip
     try simp only [dcl] at hc4
     refine W_skip ?_
     refine W_sr rfl (fun K hK => ?_)
     refine sv hF (v_move rfl) rfl ?_; clear hF a; intro a hF
     refine sc hF rfl rfl rfl en67 rfl (ready_ok B wb p k _ hS.inv hfk hp) ?_; clear hF a; intro v w' a hv hF
     obtain ⟨rfl, hS', ge, gl, hmd⟩ := hv
     replace hS := hS.trans hS'
     clear hS'
     refine sv hF (v_assign rfl) rfl ?_; clear hF a; intro a hF
     refine WL_nil (hK _ _ ?_)
     clear hK K
     replace hF := hF.sub _ (c_ 7 rfl (c_ 40 rfl (c_ 39 rfl (c_ 6 rfl (c_ 0 rfl (c_ 1 rfl (c_ 2 rfl (n_))))))))
     obtain ⟨i, hi, ei, li⟩ := hp.log_of hx (by omega)
     obtain ⟨j, hj, ej, lj⟩ := hp.log_of hy (by omega)
     refine W_sd (m := 18) rfl hmix hS.inv (fun K hK w1 hS' hh => ?_)
     replace hmd := hmd.st hS'
     replace hS := hS.trans hS'
     clear hS'
     clear hh
     refine a_v (i := 0) rfl (by kernel_rfl) hF (fun w2 hx => v_move rfl) rfl ?_; clear hF a; intro a hF
     refine a_v (i := 1) rfl (by kernel_rfl) hF (fun w2 hx => v_move rfl) rfl ?_; clear hF a; intro a hF
     refine a_v (i := 2) rfl (by kernel_rfl) hF (fun w2 hx => v_nil rfl) rfl ?_; clear hF a; intro a hF
     refine a_v (i := 3) rfl (by kernel_rfl) hF (fun w2 hx => v_fieldAddr fa78_2 rfl) rfl ?_; clear hF a; intro a hF
     refine a_v (i := 4) rfl (by kernel_rfl) hF (fun w2 hx => v_load sc39 rfl (hx.made _ _ _ _ _ hmd).c6) rfl ?_; clear hF a; intro a hF
     refine a_v (i := 5) rfl (by kernel_rfl) hF (fun w2 hx => v_move rfl) rfl ?_; clear hF a; intro a hF
     refine a_v (i := 6) rfl (by kernel_rfl) hF (fun w2 hx => v_ixS sl39 rfl rfl (by omega) (by omega)) rfl ?_; clear hF a; intro a hF
     refine a_v (i := 7) rfl (by kernel_rfl) hF (fun w2 hx => v_load sc3 rfl (by rw [toNat_c, Nat.zero_add]; exact (hx.made _ _ _ _ _ hmd).log li)) rfl ?_; clear hF a; intro a hF
     refine a_v (i := 8) rfl (by kernel_rfl) hF (fun w2 hx => v_move rfl) rfl ?_; clear hF a; intro a hF
     refine a_v (i := 9) rfl (by kernel_rfl) hF (fun w2 hx => v_nil rfl) rfl ?_; clear hF a; intro a hF
     refine a_v (i := 10) rfl (by kernel_rfl) hF (fun w2 hx => v_fieldAddr fa78_2 rfl) rfl ?_; clear hF a; intro a hF
     refine a_v (i := 11) rfl (by kernel_rfl) hF (fun w2 hx => v_load sc39 rfl (hx.made _ _ _ _ _ hmd).c6) rfl ?_; clear hF a; intro a hF
     refine a_v (i := 12) rfl (by kernel_rfl) hF (fun w2 hx => v_move rfl) rfl ?_; clear hF a; intro a hF
     refine a_v (i := 13) rfl (by kernel_rfl) hF (fun w2 hx => v_ixS sl39 rfl rfl (by omega) (by omega)) rfl ?_; clear hF a; intro a hF
     refine a_v (i := 14) rfl (by kernel_rfl) hF (fun w2 hx => v_load sc3 rfl (by rw [toNat_c, Nat.zero_add]; exact (hx.made _ _ _ _ _ hmd).log lj)) rfl ?_; clear hF a; intro a hF
     refine a_v (i := 15) rfl (by kernel_rfl) hF (fun w2 hx => v_addI rfl rfl (by omega)) rfl ?_; clear hF a; intro a hF
     refine a_e (i := 16) rfl (by kernel_rfl) ?_
     refine sc hF rfl rfl rfl en68 rfl (Exp_some B wb p k ((i : Int) + (j : Int)) _ hS.inv hmd.fok hp (by omega)) ?_; clear hF a; intro v w' a hv hF
     obtain ⟨rfl, hS'⟩ := hv
     refine WL_nil ⟨hS'.ext, ?_⟩
     replace hmd := hmd.st hS'
     replace hS := hS.trans hS'
     clear hS'
     refine a_v (i := 17) rfl (by kernel_rfl) hF (fun w2 hx => v_assign rfl) rfl ?_; clear hF a; intro a hF
     refine a_done (by kernel_rfl) (hK _ _ ?_)
     clear hK K
     refine W_ret ?_
     refine ⟨_, _, hF, rfl, ?_⟩
     first
      | exact ⟨by rw [gmul_out hc1], hS⟩
      | (subst_vars; exact ⟨by rw [gmul_zl], hS⟩)
      | (subst_vars; exact ⟨by rw [gmul_zr], hS⟩)
      | exact ⟨by rw [gmul_in hx hy, hp.pw_sum ei ej], hS⟩
      | exact ⟨by rw [gmul_in hx hy], hS⟩

theorem powB_prm {wb p X n : Nat} (hp : Prm wb p) : powB X p 1 n = Px.pow X p n := by rw [← hp.mod1, powB_one]

set_option maxRecDepth 100000 in
set_option maxHeartbeats 1000000 in
theorem Pow_gf (B : Nat) (o : Fq) (fv : Value) (ia n : Int) (w : World) (hI : Inv FDx B w) (hf : Fo FDx B w fv o) (hn : -9223372036854775808 ≤ n ∧ n < 9223372036854775808) : Ret Tryz.prog 41 [fv, .int .i64 ia, .int .i64 n] w fun v w' => v = .int .i64 (gpow o ia n) ∧ St FDx B w w' := by
 refine enter 33 [(0, fv), (1, .int .i64 ia), (2, .int .i64 n)] 6 Tryz.func41 rfl rfl rfl rfl rfl ?_; intro a hF
 have hS := St.refl hI
 refine W_sr rfl (fun K hK => ?_)
 refine sv hF (v_assign rfl) rfl ?_; clear hF a; intro a hF
 refine WL_nil (hK _ _ ?_)
 clear hK K
 refine W_seq ?_
 refine W_sr rfl (fun K hK => ?_)
 refine sv2 hF (v_move rfl) (v_move rfl) rfl rfl ?_; clear hF a; intro a hF
 refine s_bs (D := FDx) (B := B) hF sl39 rfl rfl (by decide) (by simp [Value.cells]) (by decide) hS.inv rfl ?_; clear hF a; intro w' a hm hI' hb hF
 replace hf := hf.mb hm
 replace hS := hS.mb0 hm
 clear hm hI'
 refine sc hF rfl rfl rfl en40 rfl (in_ok B o fv (some ⟨_, 0, none⟩) 1 [ia] _ hS.inv hf (by simp) (own_in (D := FDx) (B := B) (zs := [ia]) hb (by decide))) ?_; clear hF a; intro v w' a hv hF
 clear hb
 obtain ⟨rfl, rfl⟩ := hv
 have hS' := St.refl hS.inv
 replace hf := hf.st hS'
 replace hS := hS.trans hS'
 clear hS'
 refine sb hF (v_not rfl) rfl ?_ ?_
 ·
  clear hF a; intro hc1 a hF
  try simp only [dcl] at hc1
  refine sv hF (v_move rfl) rfl ?_; clear hF a; intro a hF
  refine svn hF rfl rfl rfl ?_; clear hF a; intro a hF
  refine svn hF rfl rfl rfl ?_; clear hF a; intro a hF
  refine sv hF (v_pickT rfl rfl) rfl ?_; clear hF a; intro a hF
  refine WL_nil (hK _ _ ?_)
  clear hK K
  replace hF := hF.sub _ (c_ 16 rfl (c_ 6 rfl (c_ 0 rfl (c_ 1 rfl (c_ 2 rfl (n_))))))
  refine W_ifT hF rfl ?_
  refine W_sr rfl (fun K hK => ?_)
  refine sv hF (v_assign rfl) rfl ?_; clear hF a; intro a hF
  refine WL_nil (hK _ _ ?_)
  clear hK K
  replace hF := hF.sub _ (c_ 6 rfl (c_ 0 rfl (c_ 1 rfl (c_ 2 rfl (n_)))))
  refine W_ret ?_
  refine ⟨_, _, hF, rfl, ?_⟩
  rw [all1] at hc1
  exact ⟨by rw [gpow_out (.inl hc1)], hS⟩
 ·
  clear hF a; intro hc1 a hF
  try simp only [dcl] at hc1
  refine sv hF (v_move rfl) rfl ?_; clear hF a; intro a hF
  refine svg hF rfl ?_
  refine sv hF (v_move rfl) rfl ?_; clear hF a; intro a hF
  refine svg hF rfl ?_
  refine sv hF (v_lss rfl rfl) rfl ?_; clear hF a; intro a hF
  refine sv hF (v_pickF rfl rfl) rfl ?_; clear hF a; intro a hF
  refine WL_nil (hK _ _ ?_)
  clear hK K
  replace hF := hF.sub _ (c_ 16 rfl (c_ 6 rfl (c_ 0 rfl (c_ 1 rfl (c_ 2 rfl (n_))))))
  refine W_if hF rfl (fun hc2 => ?_) (fun hc2 => ?_)
  ·
   skip
   try simp only [dcl] at hc2
   refine W_sr rfl (fun K hK => ?_)
   refine sv hF (v_assign rfl) rfl ?_; clear hF a; intro a hF
   refine WL_nil (hK _ _ ?_)
   clear hK K
   replace hF := hF.sub _ (c_ 6 rfl (c_ 0 rfl (c_ 1 rfl (c_ 2 rfl (n_)))))
   refine W_ret ?_
   refine ⟨_, _, hF, rfl, ?_⟩
   exact ⟨by rw [gpow_out (.inr (by omega))], hS⟩
  ·
   skip
   try simp only [dcl] at hc2
   refine W_skip ?_
   rw [all1] at hc1
   have hin := hc1
   obtain ⟨wb, p, k, rfl, rfl, hp, hfk⟩ := fo_some hf (a := ia) hin
   obtain ⟨x0, rfl, hx0⟩ := inF_nat hin
   obtain ⟨n0, rfl⟩ : ∃ n0 : Nat, n = (n0 : Int) := ⟨n.toNat, by omega⟩
   have hsz := hp.size
   refine W_sr rfl (fun K hK => ?_)
   refine sv hF (v_assign rfl) rfl ?_; clear hF a; intro a hF
   refine WL_nil (hK _ _ ?_)
   clear hK K
   replace hF := hF.sub _ (c_ 7 rfl (c_ 6 rfl (c_ 0 rfl (c_ 1 rfl (c_ 2 rfl (n_))))))
   refine W_seq ?_
   refine W_block ?_
   refine W_loop (fun m a w1 => ∃ x q : Nat, Fr 33 [(0, .pointer (some ⟨k, 0, none⟩)), (1, .int .i64 (x : Int)), (2, .int .i64 (m : Int)), (7, .int .i64 (q : Int))] a ∧ St FDx B w w1 ∧ Fo FDx B w1 (.pointer (some ⟨k, 0, none⟩)) (some (wb, p)) ∧ powB x p q m = powB x0 p 1 n0 ∧ x < 2 ^ wb ∧ q < 2 ^ wb ∧ m < 9223372036854775808) (n0) ?_ ?_
   ·
    skip
    exact ⟨_, 1, hF.sub _ (c_ 0 rfl (c_ 1 rfl (c_ 2 rfl (c_ 7 rfl n_)))), hS, hf, rfl, hx0, by omega, by omega⟩
   ·
    skip
    clear hF
    clear hS hf hfk
    rintro m a w1 ⟨x, q, hF, hS, hf, hg, hx, hq, hm⟩
    refine W_seq ?_
    refine W_sr rfl (fun K hK => ?_)
    refine sv hF (v_move rfl) rfl ?_; clear hF a; intro a hF
    refine sv hF (v_gtr rfl rfl) rfl ?_; clear hF a; intro a hF
    refine WL_nil (hK _ _ ?_)
    clear hK K
    replace hF := hF.sub _ (c_ 18 rfl (c_ 0 rfl (c_ 1 rfl (c_ 2 rfl (c_ 7 rfl (n_))))))
    refine W_if hF rfl (fun hc3 => ?_) (fun hc3 => ?_)
    ·
     skip
     try simp only [dcl] at hc3
     refine W_skip ?_
     refine W_seq ?_
     refine W_block ?_
     refine W_seq ?_
     refine W_sr rfl (fun K hK => ?_)
     refine sv hF (v_move rfl) rfl ?_; clear hF a; intro a hF
     refine sv hF (v_andN (n := 1) rfl rfl (fits_i64 hm) (fits_i64 (by decide))) rfl ?_; clear hF a; intro a hF
     refine sv hF (v_eql rfl rfl) rfl ?_; clear hF a; intro a hF
     refine WL_nil (hK _ _ ?_)
     clear hK K
     replace hF := hF.sub _ (c_ 23 rfl (c_ 0 rfl (c_ 1 rfl (c_ 2 rfl (c_ 7 rfl (n_))))))
     refine W_if hF rfl (fun hc4 => ?_) (fun hc4 => ?_)
     ·
      skip
      try simp only [dcl] at hc4
      rw [Nat.and_one_is_mod] at hc4
      rw [powB_odd x p q (by omega)] at hg
      have hml := hp.mulMod_lt q x
      refine W_reg rfl (fun K hK => ?_)
      refine sv3 hF (v_move rfl) (v_move rfl) (v_move rfl) rfl rfl rfl ?_; clear hF a; intro a hF
      refine sc hF rfl rfl rfl en59 rfl (Mul_gf B (some (wb, p)) _ q x _ hS.inv hf) ?_; clear hF a; intro v w' a hv hF
      obtain ⟨rfl, hS'⟩ := hv
      replace hf := hf.st hS'
      replace hS := hS.trans hS'
      clear hS'
      rw [gmul_in hq hx] at hF
      refine sv hF (v_assign rfl) rfl ?_; clear hF a; intro a hF
      refine WL_nil (hK _ _ ?_)
      clear hK K
      replace hF := hF.sub _ (c_ 7 rfl (c_ 0 rfl (c_ 1 rfl (c_ 2 rfl (n_)))))
      refine W_reg rfl (fun K hK => ?_)
      refine sv3 hF (v_move rfl) (v_move rfl) (v_move rfl) rfl rfl rfl ?_; clear hF a; intro a hF
      refine sc hF rfl rfl rfl en59 rfl (Mul_gf B (some (wb, p)) _ x x _ hS.inv hf) ?_; clear hF a; intro v w' a hv hF
      obtain ⟨rfl, hS'⟩ := hv
      replace hf := hf.st hS'
      replace hS := hS.trans hS'
      clear hS'
      rw [gmul_in hx hx] at hF
      refine sv hF (v_assign rfl) rfl ?_; clear hF a; intro a hF
      refine WL_nil (hK _ _ ?_)
      clear hK K
      replace hF := hF.sub _ (c_ 1 rfl (c_ 7 rfl (c_ 0 rfl (c_ 2 rfl (n_)))))
      refine W_reg rfl (fun K hK => ?_)
      refine sv hF (v_move rfl) rfl ?_; clear hF a; intro a hF
      refine sv hF (v_shrN (m := m) rfl rfl (by decide)) rfl ?_; clear hF a; intro a hF
      refine sv hF (v_assign rfl) rfl ?_; clear hF a; intro a hF
      refine WL_nil (hK _ _ ?_)
      clear hK K
      exact ⟨m / 2, by omega, _, _, hF.sub _ (c_ 0 rfl (c_ 1 rfl (c_ 2 rfl (c_ 7 rfl n_)))), hS, hf, hg, hp.mulMod_lt _ _, by first | exact hml | exact hq, by omega⟩
     ·
      skip
      try simp only [dcl] at hc4
      rw [Nat.and_one_is_mod] at hc4
      rw [powB_even x p q (by omega) (by omega)] at hg
      refine W_skip ?_
      refine W_reg rfl (fun K hK => ?_)
      refine sv3 hF (v_move rfl) (v_move rfl) (v_move rfl) rfl rfl rfl ?_; clear hF a; intro a hF
      refine sc hF rfl rfl rfl en59 rfl (Mul_gf B (some (wb, p)) _ x x _ hS.inv hf) ?_; clear hF a; intro v w' a hv hF
      obtain ⟨rfl, hS'⟩ := hv
      replace hf := hf.st hS'
      replace hS := hS.trans hS'
      clear hS'
      rw [gmul_in hx hx] at hF
      refine sv hF (v_assign rfl) rfl ?_; clear hF a; intro a hF
      refine WL_nil (hK _ _ ?_)
      clear hK K
      replace hF := hF.sub _ (c_ 1 rfl (c_ 0 rfl (c_ 2 rfl (c_ 7 rfl (n_)))))
      refine W_reg rfl (fun K hK => ?_)
      refine sv hF (v_move rfl) rfl ?_; clear hF a; intro a hF
      refine sv hF (v_shrN (m := m) rfl rfl (by decide)) rfl ?_; clear hF a; intro a hF
      refine sv hF (v_assign rfl) rfl ?_; clear hF a; intro a hF
      refine WL_nil (hK _ _ ?_)
      clear hK K
      exact ⟨m / 2, by omega, _, _, hF.sub _ (c_ 0 rfl (c_ 1 rfl (c_ 2 rfl (c_ 7 rfl n_)))), hS, hf, hg, hp.mulMod_lt _ _, by first | exact hml | exact hq, by omega⟩
    ·
     skip
     try simp only [dcl] at hc3
     obtain rfl : m = 0 := by omega
     rw [powB_zero] at hg
     refine W_exit rfl ?_
     refine W_sr rfl (fun K hK => ?_)
     refine sv2 hF (v_move rfl) (v_assign rfl) rfl rfl ?_; clear hF a; intro a hF
     refine WL_nil (hK _ _ ?_)
     clear hK K
     replace hF := hF.sub _ (c_ 6 rfl (c_ 32 rfl (c_ 0 rfl (c_ 1 rfl (c_ 2 rfl (c_ 7 rfl (n_)))))))
     refine W_ret ?_
     refine ⟨_, _, hF, rfl, ?_⟩
     exact ⟨by rw [gpow_in hx0, hg, powB_prm hp], hS⟩

set_option maxRecDepth 100000 in
set_option maxHeartbeats 1000000 in
theorem Inv_gf (B : Nat) (o : Fq) (fv : Value) (ia : Int) (w : World) (hI : Inv FDx B w) (hf : Fo FDx B w fv o) : Ret Tryz.prog 27 [fv, .int .i64 ia] w fun v w' => v = .tuple #[.int .i64 (ginv o ia), .bool (ginvb o ia)] ∧ St FDx B w w' := by
 refine enter2 21 [(0, fv), (1, .int .i64 ia)] 4 5 Tryz.func27 rfl rfl rfl rfl rfl ?_; intro a hF
 have hS := St.refl hI
 refine W_sr rfl (fun K hK => ?_)
 refine sv2 hF (v_assign rfl) (v_assign rfl) rfl rfl ?_; clear hF a; intro a hF
 refine WL_nil (hK _ _ ?_)
 clear hK K
 refine W_seq ?_
 refine W_sr rfl (fun K hK => ?_)
 refine sv2 hF (v_move rfl) (v_move rfl) rfl rfl ?_; clear hF a; intro a hF
 refine s_bs (D := FDx) (B := B) hF sl39 rfl rfl (by decide) (by simp [Value.cells]) (by decide) hS.inv rfl ?_; clear hF a; intro w' a hm hI' hb hF
 replace hf := hf.mb hm
 replace hS := hS.mb0 hm
 clear hm hI'
 refine sc hF rfl rfl rfl en40 rfl (in_ok B o fv (some ⟨_, 0, none⟩) 1 [ia] _ hS.inv hf (by simp) (own_in (D := FDx) (B := B) (zs := [ia]) hb (by decide))) ?_; clear hF a; intro v w' a hv hF
 clear hb
 obtain ⟨rfl, rfl⟩ := hv
 have hS' := St.refl hS.inv
 replace hf := hf.st hS'
 replace hS := hS.trans hS'
 clear hS'
 refine sb hF (v_not rfl) rfl ?_ ?_
 ·
  clear hF a; intro hc1 a hF
  try simp only [dcl] at hc1
  refine sv hF (v_move rfl) rfl ?_; clear hF a; intro a hF
  refine svn hF rfl rfl rfl ?_; clear hF a; intro a hF
  refine svn hF rfl rfl rfl ?_; clear hF a; intro a hF
  refine sv hF (v_pickT rfl rfl) rfl ?_; clear hF a; intro a hF
  refine WL_nil (hK _ _ ?_)
  clear hK K
  replace hF := hF.sub _ (c_ 14 rfl (c_ 5 rfl (c_ 4 rfl (c_ 0 rfl (c_ 1 rfl (n_))))))
  refine W_ifT hF rfl ?_
  refine W_sr rfl (fun K hK => ?_)
  refine sv2 hF (v_assign rfl) (v_assign rfl) rfl rfl ?_; clear hF a; intro a hF
  refine WL_nil (hK _ _ ?_)
  clear hK K
  replace hF := hF.sub _ (c_ 5 rfl (c_ 4 rfl (c_ 0 rfl (c_ 1 rfl (n_)))))
  refine W_ret ?_
  refine ⟨_, _, _, hF, rfl, rfl, ?_⟩
  rw [all1] at hc1
  exact ⟨by rw [ginv_out (.inl hc1), ginvb_out (.inl hc1)], hS⟩
 ·
  clear hF a; intro hc1 a hF
  try simp only [dcl] at hc1
  refine sv hF (v_move rfl) rfl ?_; clear hF a; intro a hF
  refine svg hF rfl ?_
  refine sv hF (v_move rfl) rfl ?_; clear hF a; intro a hF
  refine svg hF rfl ?_
  refine sv hF (v_eql rfl rfl) rfl ?_; clear hF a; intro a hF
  refine sv hF (v_pickF rfl rfl) rfl ?_; clear hF a; intro a hF
  refine WL_nil (hK _ _ ?_)
  clear hK K
  replace hF := hF.sub _ (c_ 14 rfl (c_ 5 rfl (c_ 4 rfl (c_ 0 rfl (c_ 1 rfl (n_))))))
  refine W_if hF rfl (fun hc2 => ?_) (fun hc2 => ?_)
  ·
   skip
   try simp only [dcl] at hc2
   refine W_sr rfl (fun K hK => ?_)
   refine sv2 hF (v_assign rfl) (v_assign rfl) rfl rfl ?_; clear hF a; intro a hF
   refine WL_nil (hK _ _ ?_)
   clear hK K
   replace hF := hF.sub _ (c_ 5 rfl (c_ 4 rfl (c_ 0 rfl (c_ 1 rfl (n_)))))
   refine W_ret ?_
   refine ⟨_, _, _, hF, rfl, rfl, ?_⟩
   exact ⟨by rw [ginv_out (.inr (by omega)), ginvb_out (.inr (by omega))], hS⟩
  ·
   skip
   try simp only [dcl] at hc2
   refine W_skip ?_
   rw [all1] at hc1
   have hsz := fsz_le hf
   refine W_sr rfl (fun K hK => ?_)
   refine sv3 hF (v_move rfl) (v_move rfl) (v_move rfl) rfl rfl rfl ?_; clear hF a; intro a hF
   refine sc hF rfl rfl rfl en26 rfl (Size_ok B o fv _ hf) ?_; clear hF a; intro v w' a hv hF
   obtain ⟨rfl, rfl⟩ := hv
   have hS' := St.refl hS.inv
   replace hf := hf.st hS'
   replace hS := hS.trans hS'
   clear hS'
   refine sv hF (v_subI rfl rfl (by omega)) rfl ?_; clear hF a; intro a hF
   refine sc hF rfl rfl rfl en41 rfl (Pow_gf B o fv ia ((fsz o : Int) - 2) _ hS.inv hf (by omega)) ?_; clear hF a; intro v w' a hv hF
   obtain ⟨rfl, hS'⟩ := hv
   replace hf := hf.st hS'
   replace hS := hS.trans hS'
   clear hS'
   refine sv2 hF (v_assign rfl) (v_assign rfl) rfl rfl ?_; clear hF a; intro a hF
   refine WL_nil (hK _ _ ?_)
   clear hK K
   replace hF := hF.sub _ (c_ 5 rfl (c_ 4 rfl (n_)))
   refine W_ret ?_
   refine ⟨_, _, _, hF, rfl, rfl, ?_⟩
   exact ⟨by rw [ginv_in hc1 (by omega), ginvb_in hc1 (by omega)], hS⟩

end Go.Proofs.YtaeljbdpjiciaaaGreat

/- The walks of package matrix: whether rows are a matrix; rows copied; the identity. -/
set_option linter.unusedVariables false
set_option linter.unusedSimpArgs false
namespace Go.Proofs.YtaeljbdpjiciaaaGreat
open Go Go.Gam


namespace FxFMatA
theorem en26 : Ent Tryz.prog 26 := ent Tryz.func26 (by kernel_rfl) (by kernel_rfl)
theorem en30 : Ent Tryz.prog 30 := ent Tryz.func30 (by kernel_rfl) (by kernel_rfl)
theorem en31 : Ent Tryz.prog 31 := ent Tryz.func31 (by kernel_rfl) (by kernel_rfl)
theorem en33 : Ent Tryz.prog 33 := ent Tryz.func33 (by kernel_rfl) (by kernel_rfl)
theorem en47 : Ent Tryz.prog 47 := ent Tryz.func47 (by kernel_rfl) (by kernel_rfl)
theorem en48 : Ent Tryz.prog 48 := ent Tryz.func48 (by kernel_rfl) (by kernel_rfl)
theorem sc25 : Scalar Tryz.prog 25 := ⟨_, Tryz.underlying25, by simp, by simp⟩
theorem sc3 : Scalar Tryz.prog 3 := ⟨_, Tryz.underlying3, by simp, by simp⟩
theorem sc35 : Scalar Tryz.prog 35 := ⟨_, Tryz.underlying35, by simp, by simp⟩
theorem sc39 : Scalar Tryz.prog 39 := ⟨_, Tryz.underlying39, by simp, by simp⟩
theorem sl35 : Sl Tryz.prog 35 39 (.slice none 0 0) 24 := sl_of Tryz.underlying35 rfl (by kernel_rfl)
theorem sl39 : Sl Tryz.prog 39 3 (.int .i64 0) 8 := sl_of Tryz.underlying39 rfl (by kernel_rfl)
end FxFMatA
open FxFMatA

set_option maxRecDepth 100000 in
set_option maxHeartbeats 1000000 in
theorem within_ok (n : Int) (w : World) : Ret Tryz.prog 30 [.int .i64 n] w fun v w' => v = .bool (decide (1 ≤ n ∧ n ≤ 20)) ∧ w' = w := by
 refine enter 9 [(0, .int .i64 n)] 2 Tryz.func30 rfl rfl rfl rfl rfl ?_; intro a hF
 refine W_sr rfl (fun K hK => ?_)
 refine sv hF (v_assign rfl) rfl ?_; clear hF a; intro a hF
 refine WL_nil (hK _ _ ?_)
 clear hK K
 refine W_sr rfl (fun K hK => ?_)
 refine sv hF (v_move rfl) rfl ?_; clear hF a; intro a hF
 refine sb hF (v_geq rfl rfl) rfl ?_ ?_
 ·
  clear hF a; intro hc1 a hF
  try simp only [dcl] at hc1
  refine sv hF (v_move rfl) rfl ?_; clear hF a; intro a hF
  refine svg hF rfl ?_
  refine sv hF (v_move rfl) rfl ?_; clear hF a; intro a hF
  refine svg hF rfl ?_
  refine sv hF (v_leq rfl rfl) rfl ?_; clear hF a; intro a hF
  refine sv2 hF (v_pickT rfl rfl) (v_assign rfl) rfl rfl ?_; clear hF a; intro a hF
  refine WL_nil (hK _ _ ?_)
  clear hK K
  replace hF := hF.sub _ (c_ 2 rfl (n_))
  refine W_ret ?_
  refine ⟨_, _, hF, rfl, ?_⟩
  exact ⟨by congr 1; first | (rw [decide_eq_decide]; omega) | (symm; rw [decide_eq_false_iff_not]; omega) | (symm; rw [decide_eq_true_iff]; omega), rfl⟩
 ·
  clear hF a; intro hc1 a hF
  try simp only [dcl] at hc1
  refine sv hF (v_move rfl) rfl ?_; clear hF a; intro a hF
  refine svn hF rfl rfl rfl ?_; clear hF a; intro a hF
  refine svn hF rfl rfl rfl ?_; clear hF a; intro a hF
  refine sv2 hF (v_pickF rfl rfl) (v_assign rfl) rfl rfl ?_; clear hF a; intro a hF
  refine WL_nil (hK _ _ ?_)
  clear hK K
  replace hF := hF.sub _ (c_ 2 rfl (n_))
  refine W_ret ?_
  refine ⟨_, _, hF, rfl, ?_⟩
  exact ⟨by congr 1; first | (rw [decide_eq_decide]; omega) | (symm; rw [decide_eq_false_iff_not]; omega) | (symm; rw [decide_eq_true_iff]; omega), rfl⟩

set_option maxRecDepth 100000 in
set_option maxHeartbeats 1000000 in
theorem May11_ok (B : Nat) (o : Fq) (fv : Value) (pf : Nat) (x : Int) (w : World) (hI : Inv FDx B w) (hf : Fo FDx B w fv o) (hk : KC FDx B w ⟨pf, 0, none⟩ fv) : Ret Tryz.prog 34 [.int .i64 x, .pointer (some ⟨pf, 0, none⟩)] w fun v w' => v = .bool (!inF o x) ∧ St FDx B w w' := by
 refine enter 12 [(0, .int .i64 x), (1, .pointer (some ⟨pf, 0, none⟩))] 3 Tryz.func34 rfl rfl rfl rfl rfl ?_; intro a hF
 have hS := St.refl hI
 refine W_sr rfl (fun K hK => ?_)
 refine sv hF (v_assign rfl) rfl ?_; clear hF a; intro a hF
 refine WL_nil (hK _ _ ?_)
 clear hK K
 refine W_sr rfl (fun K hK => ?_)
 refine sv hF (v_move rfl) rfl ?_; clear hF a; intro a hF
 refine sb hF (v_lss rfl rfl) rfl ?_ ?_
 ·
  clear hF a; intro hc1 a hF
  try simp only [dcl] at hc1
  refine sv hF (v_move rfl) rfl ?_; clear hF a; intro a hF
  refine svn hF rfl rfl rfl ?_; clear hF a; intro a hF
  refine svn hF rfl rfl rfl ?_; clear hF a; intro a hF
  refine svn hF rfl rfl rfl ?_; clear hF a; intro a hF
  refine svn hF rfl rfl rfl ?_; clear hF a; intro a hF
  refine sv2 hF (v_pickT rfl rfl) (v_assign rfl) rfl rfl ?_; clear hF a; intro a hF
  refine WL_nil (hK _ _ ?_)
  clear hK K
  replace hF := hF.sub _ (c_ 3 rfl (n_))
  refine W_ret ?_
  refine ⟨_, _, hF, rfl, ?_⟩
  exact ⟨by congr 1; unfold inF; first | (symm; rw [Bool.not_eq_true', decide_eq_false_iff_not]; omega) | (rw [← decide_not, decide_eq_decide]; omega), hS⟩
 ·
  clear hF a; intro hc1 a hF
  try simp only [dcl] at hc1
  refine sv hF (v_move rfl) rfl ?_; clear hF a; intro a hF
  refine svg hF rfl ?_
  refine sv hF (v_move rfl) rfl ?_; clear hF a; intro a hF
  refine svg hF rfl ?_
  refine sv hF (v_load sc25 rfl (by first | assumption | (rw [toNat_c]; assumption) | exact KC.c (by assumption) | (rw [toNat_c]; exact KC.c (by assumption)) | exact Box.at (by assumption))) rfl ?_; clear hF a; intro a hF
  refine svg hF rfl ?_
  refine sc hF rfl rfl rfl en26 rfl (Size_ok B o fv _ hf) ?_; clear hF a; intro v w' a hv hF
  obtain ⟨rfl, hw⟩ := hv
  obtain rfl := hw.symm
  have hS' := St.refl hS.inv
  replace hS := hS.trans hS'
  clear hS'
  refine svg hF rfl ?_
  refine sv hF (v_geq rfl rfl) rfl ?_; clear hF a; intro a hF
  refine sv2 hF (v_pickF rfl rfl) (v_assign rfl) rfl rfl ?_; clear hF a; intro a hF
  refine WL_nil (hK _ _ ?_)
  clear hK K
  replace hF := hF.sub _ (c_ 3 rfl (n_))
  refine W_ret ?_
  refine ⟨_, _, hF, rfl, ?_⟩
  exact ⟨by congr 1; unfold inF; first | (symm; rw [Bool.not_eq_true', decide_eq_false_iff_not]; omega) | (rw [← decide_not, decide_eq_decide]; omega), hS⟩

set_option maxRecDepth 100000 in
set_option maxHeartbeats 1000000 in
theorem IdxI_ok (B M : Nat) (g : FuncId) (lb : List Value) (p : Int → Bool) (pxs : Option Addr) (cxs : Nat) (xs : List Int) (w : World) (hI : Inv FDx B w) (hx : Row FDx B M w (.slice pxs xs.length cxs) (zints xs)) (hl : xs.length ≤ maxLen) (eg : Ent Tryz.prog g) (hc : ∀ x ∈ xs, ∀ w1, St FDx B w w1 → Ret Tryz.prog g (.int .i64 x :: lb) w1 fun v w' => v = .bool (p x) ∧ St FDx B w1 w') : Ret Tryz.prog 48 [.slice pxs xs.length cxs, .func (.func g) ([] : List Value).toArray (lb : List Value).toArray] w fun v w' => v = .int .i64 (idxZ p xs) ∧ St FDx B w w' := by
 refine enter 19 [(0, .slice pxs xs.length cxs), (1, .func (.func g) ([] : List Value).toArray (lb : List Value).toArray)] 4 Tryz.func48 rfl rfl rfl rfl rfl ?_; intro a hF
 have hS := St.refl hI
 have hl2 := hl
 simp only [maxLen] at hl2
 refine W_sr rfl (fun K hK => ?_)
 refine sv hF (v_assign rfl) rfl ?_; clear hF a; intro a hF
 refine WL_nil (hK _ _ ?_)
 clear hK K
 refine W_seq ?_
 refine W_sr rfl (fun K hK => ?_)
 refine sv hF (v_move rfl) rfl ?_; clear hF a; intro a hF
 refine sv hF (v_lenS rfl sl39 rfl) rfl ?_; clear hF a; intro a hF
 refine sv hF (v_move rfl) rfl ?_; clear hF a; intro a hF
 refine WL_nil (hK _ _ ?_)
 clear hK K
 replace hF := hF.sub _ (c_ 8 rfl (c_ 7 rfl (c_ 4 rfl (c_ 0 rfl (c_ 1 rfl (n_))))))
 refine W_block ?_
 refine W_loop (fun m a w1 => ∃ (i : Nat), Fr 19 [(0, .slice pxs xs.length cxs), (1, .func (.func g) ([] : List Value).toArray (lb : List Value).toArray), (7, .int .i64 (xs.length : Int)), (8, .int .i64 (i : Int))] a ∧ (St FDx B w w1) ∧ (Row FDx B M w1 (.slice pxs xs.length cxs) (zints xs)) ∧ (i ≤ xs.length) ∧ (∀ y ∈ xs.take i, p y = false) ∧ (m + i = xs.length)) (xs.length) ?_ ?_
 ·
  skip
  exact ⟨0, hF.sub _ (c_ 0 rfl (c_ 1 rfl (c_ 7 rfl (c_ 8 rfl (n_))))), hS, hx, by omega, by simp, by omega⟩
 ·
  skip
  clear hF
  clear hS hx
  rintro m a w1 ⟨i, hF, hS, hx, hi, hn, hm⟩
  refine W_sr rfl (fun K hK => ?_)
  refine sv hF (v_lss rfl rfl) rfl ?_; clear hF a; intro a hF
  refine WL_nil (hK _ _ ?_)
  clear hK K
  refine W_seq ?_
  refine W_if hF rfl (fun hc1 => ?_) (fun hc1 => ?_)
  ·
   skip
   try simp only [dcl] at hc1
   have hlt : i < xs.length := by omega
   obtain ⟨z, hz⟩ : ∃ z, xs[i]? = some z := ⟨_, List.getElem?_eq_getElem hlt⟩
   obtain ⟨gx, ox, hgx, hkc, -⟩ := hx.kat (zints_at hz)
   subst hgx
   refine W_skip ?_
   refine W_seq ?_
   refine W_block ?_
   refine W_sr rfl (fun K hK => ?_)
   refine sv2 hF (v_move rfl) (v_assign rfl) rfl rfl ?_; clear hF a; intro a hF
   refine WL_nil (hK _ _ ?_)
   clear hK K
   replace hF := hF.sub _ (c_ 5 rfl (c_ 0 rfl (c_ 1 rfl (c_ 7 rfl (c_ 8 rfl (n_))))))
   refine W_sr rfl (fun K hK => ?_)
   refine sv3 hF (v_move rfl) (v_move rfl) (v_move rfl) rfl rfl rfl ?_; clear hF a; intro a hF
   refine sv hF (v_ixS sl39 rfl rfl (by omega) (by omega)) rfl ?_; clear hF a; intro a hF
   refine sv hF (v_load sc3 rfl (by first | assumption | (rw [toNat_c]; assumption) | exact KC.c (by assumption) | (rw [toNat_c]; exact KC.c (by assumption)) | exact Box.at (by assumption))) rfl ?_; clear hF a; intro a hF
   refine sc hF rfl rfl rfl eg rfl (hc z (List.mem_of_getElem? hz) _ hS) ?_; clear hF a; intro v w' a hv hF
   obtain ⟨rfl, hS'⟩ := hv
   replace hx := hx.st hS'
   replace hS := hS.trans hS'
   clear hS'
   refine WL_nil (hK _ _ ?_)
   clear hK K
   replace hF := hF.sub _ (c_ 16 rfl (c_ 5 rfl (c_ 0 rfl (c_ 1 rfl (c_ 7 rfl (c_ 8 rfl (n_)))))))
   refine W_if hF rfl (fun hc2 => ?_) (fun hc2 => ?_)
   ·
    skip
    try simp only [dcl] at hc2
    refine W_sr rfl (fun K hK => ?_)
    refine sv2 hF (v_move rfl) (v_assign rfl) rfl rfl ?_; clear hF a; intro a hF
    refine WL_nil (hK _ _ ?_)
    clear hK K
    replace hF := hF.sub _ (c_ 4 rfl (c_ 0 rfl (c_ 1 rfl (c_ 7 rfl (c_ 8 rfl (n_))))))
    refine W_ret ?_
    refine ⟨_, _, hF, rfl, ?_⟩
    exact ⟨by rw [idxZ_at hn hz hc2], hS⟩
   ·
    skip
    try simp only [dcl] at hc2
    refine W_skip ?_
    refine W_reg rfl (fun K hK => ?_)
    refine sv hF (v_addI rfl rfl (by omega)) rfl ?_; clear hF a; intro a hF
    refine sv hF (v_move rfl) rfl ?_; clear hF a; intro a hF
    refine WL_nil (hK _ _ ?_)
    clear hK K
    replace hF := hF.sub _ (c_ 8 rfl (c_ 18 rfl (c_ 0 rfl (c_ 1 rfl (c_ 7 rfl (n_))))))
    exact ⟨m - 1, by omega, i + 1, hF.sub _ (c_ 0 rfl (c_ 1 rfl (c_ 7 rfl (c_ 8 rfl (n_))))), hS, hx, by omega, take_snoc_no hn hz hc2, by omega⟩
  ·
   skip
   try simp only [dcl] at hc1
   refine W_exit rfl ?_
   refine W_sr rfl (fun K hK => ?_)
   refine sv hF (v_assign rfl) rfl ?_; clear hF a; intro a hF
   refine WL_nil (hK _ _ ?_)
   clear hK K
   replace hF := hF.sub _ (c_ 4 rfl (c_ 0 rfl (c_ 1 rfl (c_ 7 rfl (c_ 8 rfl (n_))))))
   refine W_ret ?_
   refine ⟨_, _, hF, rfl, ?_⟩
   exact ⟨by rw [idxZ_no (p := p) (xs := xs) (by rw [List.take_of_length_le (by omega)] at hn; exact hn)], hS⟩

set_option maxRecDepth 100000 in
set_option maxHeartbeats 1000000 in
theorem AnyI_ok (B M : Nat) (g : FuncId) (lb : List Value) (p : Int → Bool) (pxs : Option Addr) (cxs : Nat) (xs : List Int) (w : World) (hI : Inv FDx B w) (hx : Row FDx B M w (.slice pxs xs.length cxs) (zints xs)) (hl : xs.length ≤ maxLen) (eg : Ent Tryz.prog g) (hc : ∀ x ∈ xs, ∀ w1, St FDx B w w1 → Ret Tryz.prog g (.int .i64 x :: lb) w1 fun v w' => v = .bool (p x) ∧ St FDx B w1 w') : Ret Tryz.prog 33 [.slice pxs xs.length cxs, .func (.func g) ([] : List Value).toArray (lb : List Value).toArray] w fun v w' => v = .bool (xs.any p) ∧ St FDx B w w' := by
 refine enter 9 [(0, .slice pxs xs.length cxs), (1, .func (.func g) ([] : List Value).toArray (lb : List Value).toArray)] 4 Tryz.func33 rfl rfl rfl rfl rfl ?_; intro a hF
 have hS := St.refl hI
 refine W_sr rfl (fun K hK => ?_)
 refine sv hF (v_assign rfl) rfl ?_; clear hF a; intro a hF
 refine WL_nil (hK _ _ ?_)
 clear hK K
 refine W_sr rfl (fun K hK => ?_)
 refine sv2 hF (v_move rfl) (v_move rfl) rfl rfl ?_; clear hF a; intro a hF
 refine sc hF rfl rfl rfl en48 rfl (IdxI_ok B M g lb p pxs cxs xs _ hS.inv hx hl eg hc) ?_; clear hF a; intro v w' a hv hF
 obtain ⟨rfl, hS'⟩ := hv
 replace hS := hS.trans hS'
 clear hS'
 refine sv hF (v_geq rfl rfl) rfl ?_; clear hF a; intro a hF
 refine sv hF (v_assign rfl) rfl ?_; clear hF a; intro a hF
 refine WL_nil (hK _ _ ?_)
 clear hK K
 replace hF := hF.sub _ (c_ 4 rfl (n_))
 refine W_ret ?_
 refine ⟨_, _, hF, rfl, ?_⟩
 exact ⟨by rw [← idxZ_any], hS⟩

set_option maxRecDepth 100000 in
set_option maxHeartbeats 1000000 in
theorem IdxR_ok (B M : Nat) (g : FuncId) (lb : List Value) (p : List Int → Bool) (pmt : Option Addr) (cmt : Nat) (mt : Mtx) (w : World) (hI : Inv FDx B w) (hA : Mat FDx B M w pmt cmt mt) (hl : mt.length ≤ maxLen) (eg : Ent Tryz.prog g) (hc : ∀ r ∈ mt, ∀ pr cr w1, St FDx B w w1 → Row FDx B M w1 (.slice pr r.length cr) (zints r) → Ret Tryz.prog g (.slice pr r.length cr :: lb) w1 fun v w' => v = .bool (p r) ∧ St FDx B w1 w') : Ret Tryz.prog 47 [.slice pmt mt.length cmt, .func (.func g) ([] : List Value).toArray (lb : List Value).toArray] w fun v w' => v = .int .i64 (idxZ p mt) ∧ St FDx B w w' := by
 refine enter 19 [(0, .slice pmt mt.length cmt), (1, .func (.func g) ([] : List Value).toArray (lb : List Value).toArray)] 4 Tryz.func47 rfl rfl rfl rfl rfl ?_; intro a hF
 have hS := St.refl hI
 have hl2 := hl
 simp only [maxLen] at hl2
 refine W_sr rfl (fun K hK => ?_)
 refine sv hF (v_assign rfl) rfl ?_; clear hF a; intro a hF
 refine WL_nil (hK _ _ ?_)
 clear hK K
 refine W_seq ?_
 refine W_sr rfl (fun K hK => ?_)
 refine sv hF (v_move rfl) rfl ?_; clear hF a; intro a hF
 refine sv hF (v_lenS rfl sl35 rfl) rfl ?_; clear hF a; intro a hF
 refine sv hF (v_move rfl) rfl ?_; clear hF a; intro a hF
 refine WL_nil (hK _ _ ?_)
 clear hK K
 replace hF := hF.sub _ (c_ 8 rfl (c_ 7 rfl (c_ 4 rfl (c_ 0 rfl (c_ 1 rfl (n_))))))
 refine W_block ?_
 refine W_loop (fun m a w1 => ∃ (i : Nat), Fr 19 [(0, .slice pmt mt.length cmt), (1, .func (.func g) ([] : List Value).toArray (lb : List Value).toArray), (7, .int .i64 (mt.length : Int)), (8, .int .i64 (i : Int))] a ∧ (St FDx B w w1) ∧ (Mat FDx B M w1 pmt cmt mt) ∧ (i ≤ mt.length) ∧ (∀ y ∈ mt.take i, p y = false) ∧ (m + i = mt.length)) (mt.length) ?_ ?_
 ·
  skip
  exact ⟨0, hF.sub _ (c_ 0 rfl (c_ 1 rfl (c_ 7 rfl (c_ 8 rfl (n_))))), hS, hA, by omega, by simp, by omega⟩
 ·
  skip
  clear hF
  clear hS hA
  rintro m a w1 ⟨i, hF, hS, hA, hi, hn, hm⟩
  refine W_sr rfl (fun K hK => ?_)
  refine sv hF (v_lss rfl rfl) rfl ?_; clear hF a; intro a hF
  refine WL_nil (hK _ _ ?_)
  clear hK K
  refine W_seq ?_
  refine W_if hF rfl (fun hc1 => ?_) (fun hc1 => ?_)
  ·
   skip
   try simp only [dcl] at hc1
   have hlt : i < mt.length := by omega
   obtain ⟨r, hr⟩ : ∃ z, mt[i]? = some z := ⟨_, List.getElem?_eq_getElem hlt⟩
   obtain ⟨gx, ox, pr, cr, hgx, hkc, hrow, -⟩ := hA.row hr
   subst hgx
   refine W_skip ?_
   refine W_seq ?_
   refine W_block ?_
   refine W_sr rfl (fun K hK => ?_)
   refine sv2 hF (v_move rfl) (v_assign rfl) rfl rfl ?_; clear hF a; intro a hF
   refine WL_nil (hK _ _ ?_)
   clear hK K
   replace hF := hF.sub _ (c_ 5 rfl (c_ 0 rfl (c_ 1 rfl (c_ 7 rfl (c_ 8 rfl (n_))))))
   refine W_sr rfl (fun K hK => ?_)
   refine sv3 hF (v_move rfl) (v_move rfl) (v_move rfl) rfl rfl rfl ?_; clear hF a; intro a hF
   refine sv hF (v_ixS sl35 rfl rfl (by omega) (by omega)) rfl ?_; clear hF a; intro a hF
   refine sv hF (v_load sc39 rfl (by first | assumption | (rw [toNat_c]; assumption) | exact KC.c (by assumption) | (rw [toNat_c]; exact KC.c (by assumption)) | exact Box.at (by assumption))) rfl ?_; clear hF a; intro a hF
   refine sc hF rfl rfl rfl eg rfl (hc r (List.mem_of_getElem? hr) pr cr _ hS hrow) ?_; clear hF a; intro v w' a hv hF
   obtain ⟨rfl, hS'⟩ := hv
   replace hA := hA.st hS'
   replace hS := hS.trans hS'
   clear hS'
   refine WL_nil (hK _ _ ?_)
   clear hK K
   replace hF := hF.sub _ (c_ 16 rfl (c_ 5 rfl (c_ 0 rfl (c_ 1 rfl (c_ 7 rfl (c_ 8 rfl (n_)))))))
   refine W_if hF rfl (fun hc2 => ?_) (fun hc2 => ?_)
   ·
    skip
    try simp only [dcl] at hc2
    refine W_sr rfl (fun K hK => ?_)
    refine sv2 hF (v_move rfl) (v_assign rfl) rfl rfl ?_; clear hF a; intro a hF
    refine WL_nil (hK _ _ ?_)
    clear hK K
    replace hF := hF.sub _ (c_ 4 rfl (c_ 0 rfl (c_ 1 rfl (c_ 7 rfl (c_ 8 rfl (n_))))))
    refine W_ret ?_
    refine ⟨_, _, hF, rfl, ?_⟩
    exact ⟨by rw [idxZ_at hn hr hc2], hS⟩
   ·
    skip
    try simp only [dcl] at hc2
    refine W_skip ?_
    refine W_reg rfl (fun K hK => ?_)
    refine sv hF (v_addI rfl rfl (by omega)) rfl ?_; clear hF a; intro a hF
    refine sv hF (v_move rfl) rfl ?_; clear hF a; intro a hF
    refine WL_nil (hK _ _ ?_)
    clear hK K
    replace hF := hF.sub _ (c_ 8 rfl (c_ 18 rfl (c_ 0 rfl (c_ 1 rfl (c_ 7 rfl (n_))))))
    exact ⟨m - 1, by omega, i + 1, hF.sub _ (c_ 0 rfl (c_ 1 rfl (c_ 7 rfl (c_ 8 rfl (n_))))), hS, hA, by omega, take_snoc_no hn hr hc2, by omega⟩
  ·
   skip
   try simp only [dcl] at hc1
   refine W_exit rfl ?_
   refine W_sr rfl (fun K hK => ?_)
   refine sv hF (v_assign rfl) rfl ?_; clear hF a; intro a hF
   refine WL_nil (hK _ _ ?_)
   clear hK K
   replace hF := hF.sub _ (c_ 4 rfl (c_ 0 rfl (c_ 1 rfl (c_ 7 rfl (c_ 8 rfl (n_))))))
   refine W_ret ?_
   refine ⟨_, _, hF, rfl, ?_⟩
   exact ⟨by rw [idxZ_no (p := p) (xs := mt) (by rw [List.take_of_length_le (by omega)] at hn; exact hn)], hS⟩

set_option maxRecDepth 100000 in
set_option maxHeartbeats 1000000 in
theorem AnyR_ok (B M : Nat) (g : FuncId) (lb : List Value) (p : List Int → Bool) (pmt : Option Addr) (cmt : Nat) (mt : Mtx) (w : World) (hI : Inv FDx B w) (hA : Mat FDx B M w pmt cmt mt) (hl : mt.length ≤ maxLen) (eg : Ent Tryz.prog g) (hc : ∀ r ∈ mt, ∀ pr cr w1, St FDx B w w1 → Row FDx B M w1 (.slice pr r.length cr) (zints r) → Ret Tryz.prog g (.slice pr r.length cr :: lb) w1 fun v w' => v = .bool (p r) ∧ St FDx B w1 w') : Ret Tryz.prog 31 [.slice pmt mt.length cmt, .func (.func g) ([] : List Value).toArray (lb : List Value).toArray] w fun v w' => v = .bool (mt.any p) ∧ St FDx B w w' := by
 refine enter 9 [(0, .slice pmt mt.length cmt), (1, .func (.func g) ([] : List Value).toArray (lb : List Value).toArray)] 4 Tryz.func31 rfl rfl rfl rfl rfl ?_; intro a hF
 have hS := St.refl hI
 refine W_sr rfl (fun K hK => ?_)
 refine sv hF (v_assign rfl) rfl ?_; clear hF a; intro a hF
 refine WL_nil (hK _ _ ?_)
 clear hK K
 refine W_sr rfl (fun K hK => ?_)
 refine sv2 hF (v_move rfl) (v_move rfl) rfl rfl ?_; clear hF a; intro a hF
 refine sc hF rfl rfl rfl en47 rfl (IdxR_ok B M g lb p pmt cmt mt _ hS.inv hA hl eg hc) ?_; clear hF a; intro v w' a hv hF
 obtain ⟨rfl, hS'⟩ := hv
 replace hS := hS.trans hS'
 clear hS'
 refine sv hF (v_geq rfl rfl) rfl ?_; clear hF a; intro a hF
 refine sv hF (v_assign rfl) rfl ?_; clear hF a; intro a hF
 refine WL_nil (hK _ _ ?_)
 clear hK K
 replace hF := hF.sub _ (c_ 4 rfl (n_))
 refine W_ret ?_
 refine ⟨_, _, hF, rfl, ?_⟩
 exact ⟨by rw [← idxZ_any], hS⟩

set_option maxRecDepth 100000 in
set_option maxHeartbeats 1000000 in
theorem May1_ok (B M : Nat) (o : Fq) (fv : Value) (pf pa : Nat) (sa : Option Addr) (ca : Nat) (mt : Mtx) (r0 : List Int) (pr : Option Addr) (cr : Nat) (r : List Int) (w : World) (hI : Inv FDx B w) (hf : Fo FDx B w fv o) (hkf : KC FDx B w ⟨pf, 0, none⟩ fv) (hka : KC FDx B w ⟨pa, 0, none⟩ (.slice sa mt.length ca)) (hA : Mat FDx B M w sa ca mt) (h0 : mt[0]? = some r0) (hr : Row FDx B M w (.slice pr r.length cr) (zints r)) (hrl : r.length ≤ maxLen) : Ret Tryz.prog 32 [.slice pr r.length cr, .pointer (some ⟨pa, 0, none⟩), .pointer (some ⟨pf, 0, none⟩)] w fun v w' => v = .bool ((fun r => decide (r.length ≠ r0.length) || r.any fun x => !inF o x) r) ∧ St FDx B w w' := by
 refine enter 17 [(0, .slice pr r.length cr), (1, .pointer (some ⟨pa, 0, none⟩)), (2, .pointer (some ⟨pf, 0, none⟩))] 4 Tryz.func32 rfl rfl rfl rfl rfl ?_; intro a hF
 have hS := St.refl hI
 obtain ⟨g0, o0, pr0, cr0, hg0, hk0, hrow0, -⟩ := hA.row h0
 subst hg0
 have hml := (List.getElem?_eq_some_iff.1 h0).1
 refine W_sr rfl (fun K hK => ?_)
 refine sv hF (v_assign rfl) rfl ?_; clear hF a; intro a hF
 refine WL_nil (hK _ _ ?_)
 clear hK K
 refine W_sr rfl (fun K hK => ?_)
 refine sv hF (v_move rfl) rfl ?_; clear hF a; intro a hF
 refine sv hF (v_lenS rfl sl39 rfl) rfl ?_; clear hF a; intro a hF
 refine sv hF (v_load sc35 rfl (by first | assumption | (rw [toNat_c]; assumption) | exact KC.c (by assumption) | (rw [toNat_c]; exact KC.c (by assumption)) | exact Box.at (by assumption))) rfl ?_; clear hF a; intro a hF
 refine sv hF (v_ixS sl35 rfl rfl (by decide) (by omega)) rfl ?_; clear hF a; intro a hF
 refine sv hF (v_load sc39 rfl hk0.c) rfl ?_; clear hF a; intro a hF
 refine sv hF (v_lenS rfl sl39 rfl) rfl ?_; clear hF a; intro a hF
 refine sb hF (v_neq rfl rfl) rfl ?_ ?_
 ·
  clear hF a; intro hc1 a hF
  try simp only [dcl] at hc1
  refine sv hF (v_move rfl) rfl ?_; clear hF a; intro a hF
  refine svn hF rfl rfl rfl ?_; clear hF a; intro a hF
  refine svn hF rfl rfl rfl ?_; clear hF a; intro a hF
  refine svn hF rfl rfl rfl ?_; clear hF a; intro a hF
  refine sv2 hF (v_pickT rfl rfl) (v_assign rfl) rfl rfl ?_; clear hF a; intro a hF
  refine WL_nil (hK _ _ ?_)
  clear hK K
  replace hF := hF.sub _ (c_ 4 rfl (n_))
  refine W_ret ?_
  refine ⟨_, _, hF, rfl, ?_⟩
  have hd : decide (r.length ≠ r0.length) = true := by rw [decide_eq_true_iff]; omega
  exact ⟨by simp only [hd, Bool.true_or], hS⟩
 ·
  clear hF a; intro hc1 a hF
  try simp only [dcl] at hc1
  refine sv hF (v_move rfl) rfl ?_; clear hF a; intro a hF
  refine svg hF rfl ?_
  refine sv hF (v_move rfl) rfl ?_; clear hF a; intro a hF
  refine svg hF rfl ?_
  refine sv hF (v_mkf (cs := [.tmp 2]) (vs := [.pointer (some ⟨pf, 0, none⟩)]) rfl) rfl ?_; clear hF a; intro a hF
  refine svg hF rfl ?_
  refine sc hF rfl rfl rfl en33 rfl (AnyI_ok B M 34 [.pointer (some ⟨pf, 0, none⟩)] (fun x => !inF o x) pr cr r _ hS.inv hr hrl (ent Tryz.func34 (by kernel_rfl) (by kernel_rfl)) (fun x _ w1 hs => May11_ok B o fv pf x w1 hs.inv (hf.st (hS.trans hs)) (hkf.st (hS.trans hs)))) ?_; clear hF a; intro v w' a hv hF
  obtain ⟨rfl, hS'⟩ := hv
  replace hS := hS.trans hS'
  clear hS'
  refine sv2 hF (v_pickF rfl rfl) (v_assign rfl) rfl rfl ?_; clear hF a; intro a hF
  refine WL_nil (hK _ _ ?_)
  clear hK K
  replace hF := hF.sub _ (c_ 4 rfl (n_))
  refine W_ret ?_
  refine ⟨_, _, hF, rfl, ?_⟩
  have hd : decide (r.length ≠ r0.length) = false := by rw [decide_eq_false_iff_not]; omega
  exact ⟨by simp only [hd, Bool.false_or], hS⟩

set_option maxRecDepth 100000 in
set_option maxHeartbeats 1000000 in
theorem May_ok (B M : Nat) (o : Fq) (fv : Value) (pmt : Option Addr) (cmt : Nat) (mt : Mtx) (w : World) (hI : Inv FDx B w) (hf : Fo FDx B w fv o) (hA : Mat FDx B M w pmt cmt mt) (hl : mt.length ≤ maxLen) (hb : ∀ r ∈ mt, r.length ≤ maxLen) : Ret Tryz.prog 13 [fv, .slice pmt mt.length cmt] w fun v w' => v = .bool (mayM o mt) ∧ St FDx B w w' := by
 refine enter 21 [(0, fv), (1, .slice pmt mt.length cmt)] 4 Tryz.func13 rfl rfl rfl rfl rfl ?_; intro a hF
 have hS := St.refl hI
 have hl2 := hl
 simp only [maxLen] at hl2
 refine W_sr rfl (fun K hK => ?_)
 refine s_boxN (D := FDx) (B := B) hF rfl (hf.cells1) (by decide) hS.inv rfl ?_; clear hF a; intro w' a hm hI' hbf hsz hF
 replace hf := hf.mb hm
 replace hA := hA.mb hm (fun _ h => by cases h)
 replace hS := hS.mb0 hm
 clear hm hI' hsz
 obtain ⟨pf, hpf⟩ : ∃ pf, pf = w.heap.size := ⟨_, rfl⟩
 rw [← hpf] at hbf hF
 obtain ⟨pa, hpa⟩ : ∃ pa, pa = w'.heap.size := ⟨_, rfl⟩
 refine s_boxN (D := FDx) (B := B) hF rfl (rfl) (by decide) hS.inv rfl ?_; clear hF a; intro w' a hm hI' hba hsz hF
 replace hf := hf.mb hm
 replace hA := hA.mb hm (fun _ h => by cases h)
 replace hbf := hbf.mb hm (by simp)
 replace hS := hS.mb0 hm
 clear hm hI' hsz
 rw [← hpa] at hba hF
 have hkf := hbf.kc
 have hka := hba.kc
 clear hba hbf
 refine sv hF (v_assign rfl) rfl ?_; clear hF a; intro a hF
 refine WL_nil (hK _ _ ?_)
 clear hK K
 replace hF := hF.sub _ (c_ 4 rfl (c_ 3 rfl (c_ 2 rfl (n_))))
 refine W_seq ?_
 refine W_sr rfl (fun K hK => ?_)
 refine sv hF (v_load sc35 rfl hka.c) rfl ?_; clear hF a; intro a hF
 refine sv hF (v_lenS rfl sl35 rfl) rfl ?_; clear hF a; intro a hF
 refine sc hF rfl rfl rfl en30 rfl (within_ok (mt.length : Int) _) ?_; clear hF a; intro v w' a hv hF
 obtain ⟨rfl, hw⟩ := hv
 obtain rfl := hw.symm
 have hS' := St.refl hS.inv
 replace hf := hf.st hS'
 replace hA := hA.st hS'
 replace hkf := hkf.st hS'
 replace hka := hka.st hS'
 replace hS := hS.trans hS'
 clear hS'
 refine sb hF (v_not rfl) rfl ?_ ?_
 ·
  clear hF a; intro hc1 a hF
  try simp only [dcl] at hc1
  refine sv hF (v_move rfl) rfl ?_; clear hF a; intro a hF
  refine svn hF rfl rfl rfl ?_; clear hF a; intro a hF
  refine svn hF rfl rfl rfl ?_; clear hF a; intro a hF
  refine svn hF rfl rfl rfl ?_; clear hF a; intro a hF
  refine svn hF rfl rfl rfl ?_; clear hF a; intro a hF
  refine svn hF rfl rfl rfl ?_; clear hF a; intro a hF
  refine svn hF rfl rfl rfl ?_; clear hF a; intro a hF
  refine sv hF (v_pickT rfl rfl) rfl ?_; clear hF a; intro a hF
  refine WL_nil (hK _ _ ?_)
  clear hK K
  replace hF := hF.sub _ (c_ 16 rfl (c_ 4 rfl (c_ 3 rfl (c_ 2 rfl (n_)))))
  refine W_ifT hF rfl ?_
  refine W_sr rfl (fun K hK => ?_)
  refine sv hF (v_assign rfl) rfl ?_; clear hF a; intro a hF
  refine WL_nil (hK _ _ ?_)
  clear hK K
  replace hF := hF.sub _ (c_ 4 rfl (c_ 3 rfl (c_ 2 rfl (n_))))
  refine W_ret ?_
  refine ⟨_, _, hF, rfl, ?_⟩
  have hno : mayM o mt = false := mayM_no (fun h => by omega)
  rw [hno]
  exact ⟨rfl, hS⟩
 ·
  clear hF a; intro hc1 a hF
  try simp only [dcl] at hc1
  refine sv hF (v_move rfl) rfl ?_; clear hF a; intro a hF
  refine svg hF rfl ?_
  have hm20 : 1 ≤ mt.length ∧ mt.length ≤ 20 := by omega
  obtain ⟨r0, h0⟩ : ∃ r, mt[0]? = some r := ⟨_, List.getElem?_eq_getElem (by omega)⟩
  obtain ⟨g0, o0, pr0, cr0, hg0, hk0, hrow0, -⟩ := hA.row h0
  subst hg0
  refine sv hF (v_load sc35 rfl hka.c) rfl ?_; clear hF a; intro a hF
  refine svg hF rfl ?_
  refine sv hF (v_ixS sl35 rfl rfl (by decide) (by omega)) rfl ?_; clear hF a; intro a hF
  refine svg hF rfl ?_
  refine sv hF (v_load sc39 rfl hk0.c) rfl ?_; clear hF a; intro a hF
  refine svg hF rfl ?_
  refine sv hF (v_lenS rfl sl39 rfl) rfl ?_; clear hF a; intro a hF
  refine svg hF rfl ?_
  refine sc hF rfl rfl rfl en30 rfl (within_ok (r0.length : Int) _) ?_; clear hF a; intro v w' a hv hF
  obtain ⟨rfl, hw⟩ := hv
  obtain rfl := hw.symm
  have hS' := St.refl hS.inv
  replace hf := hf.st hS'
  replace hA := hA.st hS'
  replace hkf := hkf.st hS'
  replace hka := hka.st hS'
  replace hS := hS.trans hS'
  clear hS'
  refine svg hF rfl ?_
  refine sv hF (v_not rfl) rfl ?_; clear hF a; intro a hF
  refine sv hF (v_pickF rfl rfl) rfl ?_; clear hF a; intro a hF
  refine WL_nil (hK _ _ ?_)
  clear hK K
  replace hF := hF.sub _ (c_ 16 rfl (c_ 4 rfl (c_ 3 rfl (c_ 2 rfl (n_)))))
  refine W_if hF rfl (fun hc2 => ?_) (fun hc2 => ?_)
  ·
   skip
   try simp only [dcl] at hc2
   refine W_sr rfl (fun K hK => ?_)
   refine sv hF (v_assign rfl) rfl ?_; clear hF a; intro a hF
   refine WL_nil (hK _ _ ?_)
   clear hK K
   replace hF := hF.sub _ (c_ 4 rfl (c_ 3 rfl (c_ 2 rfl (n_))))
   refine W_ret ?_
   refine ⟨_, _, hF, rfl, ?_⟩
   have hno : mayM o mt = false := mayM_no (fun h => by rw [wid_at h0] at h; omega)
   rw [hno]
   exact ⟨rfl, hS⟩
  ·
   skip
   try simp only [dcl] at hc2
   refine W_skip ?_
   refine W_sr rfl (fun K hK => ?_)
   refine sv hF (v_load sc35 rfl hka.c) rfl ?_; clear hF a; intro a hF
   refine sv hF (v_mkf (cs := [.tmp 3, .tmp 2]) (vs := [.pointer (some ⟨pa, 0, none⟩), .pointer (some ⟨pf, 0, none⟩)]) rfl) rfl ?_; clear hF a; intro a hF
   refine sc hF rfl rfl rfl en31 rfl (AnyR_ok B M 32 [.pointer (some ⟨pa, 0, none⟩), .pointer (some ⟨pf, 0, none⟩)] (fun r => decide (r.length ≠ r0.length) || r.any fun x => !inF o x) _ cmt mt _ hS.inv hA hl (ent Tryz.func32 (by kernel_rfl) (by kernel_rfl)) (fun r hr pr cr w1 hs hrow => May1_ok B M o fv pf pa _ cmt mt r0 pr cr r w1 hs.inv (hf.st hs) (hkf.st hs) (hka.st hs) (hA.st hs) h0 hrow (hb r hr))) ?_; clear hF a; intro v w' a hv hF
   obtain ⟨rfl, hS'⟩ := hv
   replace hf := hf.st hS'
   replace hA := hA.st hS'
   replace hkf := hkf.st hS'
   replace hka := hka.st hS'
   replace hS := hS.trans hS'
   clear hS'
   refine sv hF (v_not rfl) rfl ?_; clear hF a; intro a hF
   refine sv hF (v_assign rfl) rfl ?_; clear hF a; intro a hF
   refine WL_nil (hK _ _ ?_)
   clear hK K
   replace hF := hF.sub _ (c_ 4 rfl (n_))
   refine W_ret ?_
   refine ⟨_, _, hF, rfl, ?_⟩
   have hr20 : 1 ≤ r0.length ∧ r0.length ≤ 20 := by omega
   exact ⟨by rw [← mayM_eq h0 hm20.2 hr20], hS⟩

end Go.Proofs.YtaeljbdpjiciaaaGreat

/- Sums of products in a field; matrices as tables of numbers; what products, rows picked and joined tell. No program in sight. -/
set_option linter.unusedVariables false
set_option linter.unusedSimpArgs false
namespace Go.Gam
open Px

/-- The sum of f 0 .. f (n - 1). -/
def xsum : Nat → (Nat → Nat) → Nat
  | 0, _ => 0
  | n + 1, f => xsum n f ^^^ f n
theorem xsum_congr {f g : Nat → Nat} : ∀ {n : Nat}, (∀ i, i < n → f i = g i) → xsum n f = xsum n g
  | 0, _ => rfl
  | n + 1, h => by rw [xsum, xsum, xsum_congr (fun i hi => h i (by omega)), h n (by omega)]
theorem xsum_lt {k : Nat} {f : Nat → Nat} : ∀ {n : Nat}, (∀ i, i < n → f i < 2 ^ k) → xsum n f < 2 ^ k
  | 0, _ => Nat.two_pow_pos _
  | n + 1, h => Px.xor_lt (xsum_lt fun i hi => h i (by omega)) (h n (by omega))
theorem xor4 (a b c d : Nat) : (a ^^^ b) ^^^ (c ^^^ d) = (a ^^^ c) ^^^ (b ^^^ d) := by
  rw [Nat.xor_assoc, Nat.xor_assoc, ← Nat.xor_assoc b c d, Nat.xor_comm b c, Nat.xor_assoc c b d]
theorem xsum_xor (f g : Nat → Nat) : ∀ n, xsum n (fun i => f i ^^^ g i) = xsum n f ^^^ xsum n g
  | 0 => by simp [xsum]
  | n + 1 => by rw [xsum, xsum, xsum, xsum_xor f g n, xor4]
theorem xsum_zero : ∀ n, xsum n (fun _ => 0) = 0
  | 0 => rfl
  | n + 1 => by rw [xsum, xsum_zero n]; rfl
theorem xsum_zero' {n : Nat} {f : Nat → Nat} (h : ∀ i, i < n → f i = 0) : xsum n f = 0 := by rw [xsum_congr h, xsum_zero]
theorem xsum_single {f : Nat → Nat} {i : Nat} : ∀ {n : Nat}, i < n → (∀ j, j < n → j ≠ i → f j = 0) → xsum n f = f i
  | 0, h, _ => by omega
  | n + 1, h, h2 => by
    rw [xsum]
    by_cases hn : i = n
    · subst hn; rw [xsum_zero' fun j hj => h2 j (by omega) (by omega), Nat.zero_xor]
    · rw [xsum_single (by omega) (fun j hj => h2 j (by omega)), h2 n (by omega) (by omega), Nat.xor_zero]
theorem xsum_add (f : Nat → Nat) (m : Nat) : ∀ n, xsum (m + n) f = xsum m f ^^^ xsum n (fun i => f (m + i))
  | 0 => by rw [Nat.add_zero, xsum, Nat.xor_zero]
  | n + 1 => by rw [← Nat.add_assoc, xsum, xsum_add f m n, xsum, Nat.xor_assoc]
theorem xsum_comm (f : Nat → Nat → Nat) (m : Nat) : ∀ n, xsum n (fun i => xsum m (f i)) = xsum m (fun j => xsum n (fun i => f i j))
  | 0 => (xsum_zero m).symm
  | n + 1 => by
    rw [xsum, xsum_comm f m n, ← xsum_xor]
    exact xsum_congr fun j _ => rfl
theorem mul_xsum (F : Fld) (c : Nat) (f : Nat → Nat) : ∀ n, F.mul c (xsum n f) = xsum n (fun i => F.mul c (f i))
  | 0 => F.mul_zero c
  | n + 1 => by rw [xsum, F.dist, mul_xsum F c f n, xsum]
theorem xsum_mul (F : Fld) (c : Nat) (f : Nat → Nat) (n : Nat) : F.mul (xsum n f) c = xsum n (fun i => F.mul (f i) c) := by
  rw [F.comm, mul_xsum]; exact xsum_congr fun i _ => F.comm _ _

/-! ### tables -/
/-- n rows of m numbers below 2^w. -/
def Mx (w n m : Nat) (a : Mtx) : Prop := a.length = n ∧ ∀ r ∈ a, r.length = m ∧ ∀ x ∈ r, 0 ≤ x ∧ x < ((2 ^ w : Nat) : Int)
/-- The number at row i, place j. -/
def en (a : Mtx) (i j : Nat) : Nat := ((a.getD i []).getD j 0).toNat
def tab (n m : Nat) (f : Nat → Nat → Nat) : Mtx := (List.range n).map fun i => (List.range m).map fun j => (f i j : Int)
theorem getD_of {α : Type} {l : List α} {i : Nat} {d : α} (h : i < l.length) : l.getD i d = l[i] := by rw [List.getD_eq_getElem?_getD, List.getElem?_eq_getElem h]; rfl
theorem Mx.num {w n m : Nat} {a : Mtx} (h : Mx w n m a) {i j : Nat} (hi : i < n) (hj : j < m) : ∃ r, a[i]? = some r ∧ r.length = m ∧ r[j]? = some (en a i j : Int) ∧ en a i j < 2 ^ w := by
  obtain ⟨rfl, h2⟩ := h
  have hr := h2 a[i] (List.getElem_mem hi)
  have hj' : j < a[i].length := by omega
  have hx := hr.2 a[i][j] (List.getElem_mem hj')
  have he : en a i j = a[i][j].toNat := by unfold en; rw [getD_of hi, getD_of hj']
  refine ⟨a[i], List.getElem?_eq_getElem hi, hr.1, ?_, by omega⟩
  rw [List.getElem?_eq_getElem hj']
  congr 1; omega
theorem Mx.lt {w n m : Nat} {a : Mtx} (h : Mx w n m a) {i j : Nat} (hi : i < n) (hj : j < m) : en a i j < 2 ^ w := let ⟨_, _, _, _, h⟩ := h.num hi hj; h
theorem Mx.ext {w n m : Nat} {a b : Mtx} (ha : Mx w n m a) (hb : Mx w n m b) (h : ∀ i j, i < n → j < m → en a i j = en b i j) : a = b := by
  apply List.ext_getElem?
  intro i
  by_cases hi : i < n
  · have hia : i < a.length := by rw [ha.1]; exact hi
    have hib : i < b.length := by rw [hb.1]; exact hi
    rw [List.getElem?_eq_getElem hia, List.getElem?_eq_getElem hib]
    congr 1
    apply List.ext_getElem?
    intro j
    have la := (ha.2 a[i] (List.getElem_mem hia)).1
    have lb := (hb.2 b[i] (List.getElem_mem hib)).1
    by_cases hj : j < m
    · obtain ⟨r, h1, _, h2, _⟩ := ha.num hi hj
      obtain ⟨s, h3, _, h4, _⟩ := hb.num hi hj
      rw [List.getElem?_eq_getElem hia] at h1
      rw [List.getElem?_eq_getElem hib] at h3
      obtain rfl := Option.some.inj h1
      obtain rfl := Option.some.inj h3
      rw [h2, h4, h i j hi hj]
    · rw [List.getElem?_eq_none (by omega), List.getElem?_eq_none (by omega)]
  · have := ha.1; have := hb.1
    rw [List.getElem?_eq_none (by omega), List.getElem?_eq_none (by omega)]
theorem tab_length (n m : Nat) (f : Nat → Nat → Nat) : (tab n m f).length = n := by simp [tab]
theorem tab_at {n m i : Nat} {f : Nat → Nat → Nat} (hi : i < n) : (tab n m f)[i]? = some ((List.range m).map fun j => (f i j : Int)) := by simp [tab, hi]
theorem en_tab {n m i j : Nat} {f : Nat → Nat → Nat} (hi : i < n) (hj : j < m) : en (tab n m f) i j = f i j := by
  unfold en
  rw [List.getD_eq_getElem?_getD, List.getD_eq_getElem?_getD, tab_at hi]
  simp [hj]
theorem Mx.tab {w n m : Nat} {f : Nat → Nat → Nat} (h : ∀ i j, i < n → j < m → f i j < 2 ^ w) : Mx w n m (tab n m f) := by
  refine ⟨tab_length _ _ _, fun r hr => ?_⟩
  obtain ⟨i, hi, rfl⟩ := List.mem_map.1 hr
  rw [List.mem_range] at hi
  refine ⟨by simp, fun x hx => ?_⟩
  obtain ⟨j, hj, rfl⟩ := List.mem_map.1 hx
  rw [List.mem_range] at hj
  have := h i j hi hj
  exact ⟨by omega, by omega⟩
theorem Mx.eq_tab {w n m : Nat} {a : Mtx} (h : Mx w n m a) : a = Gam.tab n m (en a) := h.ext (Mx.tab fun i j hi hj => h.lt hi hj) fun i j hi hj => (en_tab hi hj).symm
theorem tab_congr {n m : Nat} {f g : Nat → Nat → Nat} (h : ∀ i j, i < n → j < m → f i j = g i j) : tab n m f = tab n m g := by
  unfold tab
  refine List.map_congr_left fun i hi => List.map_congr_left fun j hj => ?_
  rw [List.mem_range] at hi hj
  rw [h i j hi hj]
theorem wid_tab {n m : Nat} {f : Nat → Nat → Nat} (h : 0 < n) : wid (tab n m f) = m := by rw [wid_at (tab_at h)]; simp
theorem Mx.wid {w n m : Nat} {a : Mtx} (h : Mx w n m a) (hn : 0 < n) : wid a = m := by
  obtain ⟨r, hr⟩ : ∃ r, a[0]? = some r := ⟨_, List.getElem?_eq_getElem (by rw [h.1]; exact hn)⟩
  rw [wid_at hr]
  exact (h.2 r (List.mem_of_getElem? hr)).1

section
variable {wb p : Nat}
theorem mayM_Mx {a : Mtx} (h : mayM (some (wb, p)) a = true) : Mx wb a.length (wid a) a ∧ 1 ≤ a.length ∧ a.length ≤ 20 ∧ 1 ≤ wid a ∧ wid a ≤ 20 := by
  obtain ⟨h1, h2, h3, h4, h5⟩ := mayM_pos h
  exact ⟨⟨rfl, fun r hr => ⟨(h5 r hr).1, fun x hx => inF_some.1 ((h5 r hr).2 x hx)⟩⟩, h1, h2, h3, h4⟩
theorem Mx.may {n m : Nat} {a : Mtx} (h : Mx wb n m a) (h1 : 1 ≤ n) (h2 : n ≤ 20) (h3 : 1 ≤ m) (h4 : m ≤ 20) : mayM (some (wb, p)) a = true := by
  have hw := h.wid (by omega)
  exact mayM_of (by rw [h.1]; exact h1) (by rw [h.1]; exact h2) (by omega) (by omega) fun r hr => ⟨by rw [hw]; exact (h.2 r hr).1, fun x hx => inF_some.2 ((h.2 r hr).2 x hx)⟩
theorem gmul_num (h : Prm wb p) {x y : Nat} (hx : x < 2 ^ wb) (hy : y < 2 ^ wb) : gmul (some (wb, p)) (x : Int) (y : Int) = (h.fld.mul x y : Int) := gmul_in hx hy
theorem idM_tab (n : Nat) : idM n = tab n n fun i j => if i = j then 1 else 0 := by
  unfold idM tab
  refine List.map_congr_left fun i _ => List.map_congr_left fun j _ => ?_
  by_cases h : i = j <;> simp [h]
theorem identM_of {n : Nat} (h : 1 ≤ n ∧ n ≤ 20) : identM (n : Int) = idM n := by unfold identM; rw [if_pos (by omega), Int.toNat_natCast]
/-! ### rows picked, joined -/
/-! ### columns -/
/-! ### no matrix -/
theorem idM_lens (n : Int) : (identM n).length ≤ 20 ∧ ∀ r ∈ identM n, r.length ≤ 20 := by
  unfold identM
  split
  · rename_i h
    refine ⟨by rw [idM_len]; omega, fun r hr => ?_⟩
    obtain ⟨i, _, rfl⟩ := List.mem_map.1 hr
    simp; omega
  · simp
theorem len20 {a : Mtx} (h : a.length ≤ 20 ∧ ∀ r ∈ a, r.length ≤ 20) : a.length ≤ maxLen ∧ ∀ r ∈ a, r.length ≤ maxLen := ⟨Nat.le_trans h.1 (by decide), fun r hr => Nat.le_trans (h.2 r hr) (by decide)⟩
theorem len1k {a : Mtx} (h : a.length ≤ 20 ∧ ∀ r ∈ a, r.length ≤ 20) : a.length ≤ 1000 ∧ ∀ r ∈ a, r.length ≤ 1000 := ⟨Nat.le_trans h.1 (by decide), fun r hr => Nat.le_trans (h.2 r hr) (by decide)⟩
theorem Mat.one {D : FD} {B N cap : Nat} {w : World} {E2 : TypeId} {sa : Option Addr} {b : Option Nat} {u : Value} {r : List Int} (h : Own D B N w E2 (.slice sa 1 cap) b [u]) (hE : E2 ≠ D.T) (hr : Row D B w.heap.size w u (zints r)) : Mat D B w.heap.size w sa cap [r] :=
  ⟨[u], rfl, h.row hE, fun j v r' hv hr' => by
    match j with
    | 0 => simp at hv hr'; subst hv; subst hr'; exact hr
    | j + 1 => simp at hv⟩
theorem Mat.two {D : FD} {B N cap : Nat} {w : World} {E2 : TypeId} {sa : Option Addr} {b : Option Nat} {u v : Value} {r s : List Int} (h : Own D B N w E2 (.slice sa 2 cap) b [u, v]) (hE : E2 ≠ D.T) (hr : Row D B w.heap.size w u (zints r)) (hs : Row D B w.heap.size w v (zints s)) : Mat D B w.heap.size w sa cap [r, s] :=
  ⟨[u, v], rfl, h.row hE, fun j v' r' hv hr' => by
    match j with
    | 0 => simp at hv hr'; subst hv; subst hr'; exact hr
    | 1 => simp at hv hr'; subst hv; subst hr'; exact hs
    | j + 2 => simp at hv⟩
/-- Two rows that have no block in common. -/
def Dj (b c : Option Nat) : Prop := ∀ k, b = some k → c ≠ some k
/-- Bytes as numbers: from place h on, i of them; the sums of two halves. -/
def zpart (v : List Nat) (h i : Nat) : List Int := (List.range i).map fun j => ((v.getD (h + j) 0 : Nat) : Int)
def zsum (v : List Nat) (h i : Nat) : List Int := (List.range i).map fun j => ((v.getD j 0 ^^^ v.getD (h + j) 0 : Nat) : Int)
/-- Rows that are picked by bytes. -/
def zmods (v : List Nat) (n i : Nat) : List Int := ((v.take i).map fun x => ((x % n : Nat) : Int))
end
end Go.Gam

/- Rows reduced by their first columns; inverses, ranks, what is solved; rows of powers. No program in sight. -/
set_option linter.unusedVariables false
set_option linter.unusedSimpArgs false
namespace Go.Gam
open Px

abbrev Tb := Nat → Nat → Nat
/-- The identity. -/
def I1 : Tb := fun i j => if i = j then 1 else 0
namespace Fld
variable (F : Fld)
/-- All numbers are the field's. -/
def Bd (f : Tb) : Prop := ∀ i j, f i j < 2 ^ F.w
/-- The product of two tables, over m. -/
def mm (m : Nat) (f g : Tb) : Tb := fun i j => xsum m fun l => F.mul (f i l) (g l j)
theorem mm_bd (m : Nat) (f g : Tb) : F.Bd (F.mm m f g) := fun i j => xsum_lt fun l _ => F.lt _ _
theorem I1_bd : F.Bd I1 := fun i j => by unfold I1; have := F.one_lt; split <;> omega
theorem mm_assoc (m k : Nat) (f g h : Tb) (i j : Nat) : F.mm k (F.mm m f g) h i j = F.mm m f (F.mm k g h) i j := by
  unfold mm
  rw [xsum_congr (fun l _ => xsum_mul F (h l j) _ m), xsum_comm (fun l s => F.mul (F.mul (f i s) (g s l)) (h l j))]
  exact xsum_congr fun s _ => by rw [mul_xsum]; exact xsum_congr fun l _ => F.assoc _ _ _
theorem mm_congr {m : Nat} {f f' g g' : Tb} {i j : Nat} (hf : ∀ l, l < m → f i l = f' i l) (hg : ∀ l, l < m → g l j = g' l j) : F.mm m f g i j = F.mm m f' g' i j :=
  xsum_congr fun l hl => by rw [hf l hl, hg l hl]
theorem mm_idl {n : Nat} {f : Tb} {i j : Nat} (hi : i < n) (h : f i j < 2 ^ F.w) : F.mm n I1 f i j = f i j := by
  unfold mm
  rw [xsum_single hi (fun s hs hne => by unfold I1; rw [if_neg (Ne.symm hne), F.zero_mul])]
  unfold I1; rw [if_pos rfl]; exact F.one _ h
theorem mm_idr {n : Nat} {f : Tb} {i j : Nat} (hj : j < n) (h : f i j < 2 ^ F.w) : F.mm n f I1 i j = f i j := by
  unfold mm
  rw [xsum_single hj (fun s hs hne => by unfold I1; rw [if_neg hne, F.mul_zero])]
  unfold I1; rw [if_pos rfl]; exact F.mul_one _ h

/-! ### one step -/
/-- Row at changed for row k. -/
def sw (t k i : Nat) : Nat := if i = t then k else if i = k then t else i
theorem sw_sw (t k i : Nat) : sw t k (sw t k i) = i := by unfold sw; split <;> split <;> (try split) <;> omega
theorem sw_lt {t k i n : Nat} (ht : t < n) (hk : k < n) (hi : i < n) : sw t k i < n := by unfold sw; split <;> (try split) <;> omega
/-- Rows t and k swapped, row t times s, then added to each other row i, v i times. -/
def op (t k s : Nat) (v : Nat → Nat) (f : Tb) : Tb := fun i j => if i = t then F.mul (f k j) s else f (sw t k i) j ^^^ F.mul (v i) (F.mul (f k j) s)
/-- And back. -/
def po (t k s : Nat) (v : Nat → Nat) (f : Tb) : Tb := fun i j => if i = k then F.mul (f t j) s else f (sw t k i) j ^^^ F.mul (v (sw t k i)) (f t j)
theorem op_bd (t k s : Nat) (v : Nat → Nat) {f : Tb} (h : F.Bd f) : F.Bd (F.op t k s v f) := fun i j => by
  unfold op; split
  · exact F.lt _ _
  · exact Px.xor_lt (h _ _) (F.lt _ _)
theorem po_bd (t k s : Nat) (v : Nat → Nat) {f : Tb} (h : F.Bd f) : F.Bd (F.po t k s v f) := fun i j => by
  unfold po; split
  · exact F.lt _ _
  · exact Px.xor_lt (h _ _) (F.lt _ _)
theorem po_op {t k s s' : Nat} (v : Nat → Nat) {f : Tb} (h : F.Bd f) (hs : F.mul s s' = 1) (i j : Nat) : F.po t k s' v (F.op t k s v f) i j = f i j := by
  have e1 : F.op t k s v f t j = F.mul (f k j) s := by unfold op; rw [if_pos rfl]
  unfold po
  rw [e1]
  by_cases hi : i = k
  · rw [if_pos hi, F.assoc, hs, F.mul_one _ (h _ _), hi]
  · rw [if_neg hi]
    have hne : sw t k i ≠ t := by unfold sw; split <;> (try split) <;> omega
    unfold op
    rw [if_neg hne, sw_sw, Nat.xor_assoc, Nat.xor_self, Nat.xor_zero]
theorem op_po {t k s s' : Nat} (v : Nat → Nat) {f : Tb} (h : F.Bd f) (hs : F.mul s s' = 1) (i j : Nat) : F.op t k s v (F.po t k s' v f) i j = f i j := by
  have e1 : F.mul (F.po t k s' v f k j) s = f t j := by unfold po; rw [if_pos rfl, F.assoc, F.comm s', hs, F.mul_one _ (h _ _)]
  unfold op
  rw [e1]
  by_cases hi : i = t
  · rw [if_pos hi, hi]
  · rw [if_neg hi]
    have hne : sw t k i ≠ k := by unfold sw; split <;> (try split) <;> omega
    unfold po
    rw [if_neg hne, sw_sw, Nat.xor_assoc, Nat.xor_self, Nat.xor_zero]
theorem op_mm {t k s n m : Nat} (v : Nat → Nat) (f g : Tb) (i j : Nat) : F.op t k s v (F.mm m f g) i j = F.mm m (F.op t k s v f) g i j := by
  have e : ∀ a : Nat, F.mul (xsum m fun l => F.mul (f a l) (g l j)) s = xsum m fun l => F.mul (F.mul (f a l) s) (g l j) := fun a => by
    rw [xsum_mul]; exact xsum_congr fun l _ => by rw [F.assoc, F.comm (g l j), ← F.assoc]
  unfold op mm
  by_cases hi : i = t
  · rw [if_pos hi, e]; exact xsum_congr fun l _ => by dsimp only; rw [if_pos hi]
  · rw [if_neg hi, e, mul_xsum, ← xsum_xor]
    exact xsum_congr fun l _ => by dsimp only; rw [if_neg hi, F.dist_r, F.assoc (v i)]
theorem po_mm {t k s n m : Nat} (v : Nat → Nat) (f g : Tb) (i j : Nat) : F.po t k s v (F.mm m f g) i j = F.mm m (F.po t k s v f) g i j := by
  unfold po mm
  by_cases hi : i = k
  · rw [if_pos hi, xsum_mul]; exact xsum_congr fun l _ => by dsimp only; rw [if_pos hi, F.assoc, F.comm (g l j), ← F.assoc]
  · rw [if_neg hi, mul_xsum, ← xsum_xor]
    exact xsum_congr fun l _ => by dsimp only; rw [if_neg hi, F.dist_r, F.assoc (v _)]

/-! ### rows reduced -/
/-- The first row from t on, of n, that has something in column c. -/
def piv (f : Tb) (n c : Nat) : Nat → Nat → Option Nat
  | _, 0 => none
  | t, d + 1 => if f t c ≠ 0 then some t else piv f n c (t + 1) d
theorem piv_some {f : Tb} {n c k : Nat} : ∀ {t d : Nat}, piv f n c t d = some k → t ≤ k ∧ k < t + d ∧ f k c ≠ 0 ∧ ∀ i, t ≤ i → i < k → f i c = 0
  | _, 0, h => by cases h
  | t, d + 1, h => by
    unfold piv at h
    split at h
    · rename_i h0
      obtain rfl := Option.some.inj h
      exact ⟨Nat.le_refl _, by omega, h0, fun i h1 h2 => by omega⟩
    · rename_i h0
      obtain ⟨h1, h2, h3, h4⟩ := piv_some h
      refine ⟨by omega, by omega, h3, fun i h5 h6 => ?_⟩
      by_cases e : i = t
      · subst e; simpa using h0
      · exact h4 i (by omega) h6
theorem piv_none {f : Tb} {n c : Nat} : ∀ {t d : Nat}, piv f n c t d = none → ∀ i, t ≤ i → i < t + d → f i c = 0
  | _, 0, _, i, h1, h2 => by omega
  | t, d + 1, h, i, h1, h2 => by
    unfold piv at h
    split at h
    · cases h
    · rename_i h0
      by_cases e : i = t
      · subst e; simpa using h0
      · exact piv_none h i (by omega) (by omega)
theorem piv_is {f : Tb} {n c k : Nat} : ∀ {t d : Nat}, t ≤ k → k < t + d → f k c ≠ 0 → (∀ i, t ≤ i → i < k → f i c = 0) → piv f n c t d = some k
  | _, 0, h1, h2, _, _ => by omega
  | t, d + 1, h1, h2, h3, h4 => by
    unfold piv
    by_cases e : t = k
    · subst e; rw [if_pos h3]
    · rw [if_neg (by simpa using h4 t (Nat.le_refl _) (by omega))]
      exact piv_is (by omega) (by omega) h3 fun i h5 h6 => h4 i (by omega) h6
theorem piv_no {f : Tb} {n c : Nat} : ∀ {t d : Nat}, (∀ i, t ≤ i → i < t + d → f i c = 0) → piv f n c t d = none
  | _, 0, _ => rfl
  | t, d + 1, h => by
    unfold piv
    rw [if_neg (by simpa using h t (Nat.le_refl _) (by omega))]
    exact piv_no fun i h1 h2 => h i (by omega) (by omega)
/-- Column c. -/
def stp (f : Tb) (n c t : Nat) : Tb × Nat :=
  match piv f n c t (n - t) with
  | none => (f, t)
  | some k => (F.op t k (F.inv (f k c)) (fun i => f (sw t k i) c) f, t + 1)
def red (n : Nat) (f : Tb) : Nat → Tb × Nat
  | 0 => (f, 0)
  | c + 1 => F.stp (red n f c).1 n c (red n f c).2
/-- Two tables, each the other's inverse. -/
structure Iv (n : Nat) (E E' : Tb) : Prop where
  bd : F.Bd E
  bd' : F.Bd E'
  r : ∀ i j, i < n → j < n → F.mm n E E' i j = I1 i j
  l : ∀ i j, i < n → j < n → F.mm n E' E i j = I1 i j
theorem Iv.id (n : Nat) : F.Iv n I1 I1 := ⟨F.I1_bd, F.I1_bd, fun i j hi hj => F.mm_idl hi (F.I1_bd _ _), fun i j hi hj => F.mm_idl hi (F.I1_bd _ _)⟩
theorem Iv.mul {n : Nat} {E E' G G' : Tb} (h : F.Iv n E E') (k : F.Iv n G G') : F.Iv n (F.mm n E G) (F.mm n G' E') := by
  refine ⟨F.mm_bd _ _ _, F.mm_bd _ _ _, fun i j hi hj => ?_, fun i j hi hj => ?_⟩
  · rw [mm_assoc, F.mm_congr (f' := E) (g' := E') (fun _ _ => rfl) (fun l hl => ?_)]
    · exact h.r i j hi hj
    · rw [← mm_assoc, F.mm_congr (f' := I1) (g' := E') (fun s hs => k.r l s hl hs) (fun _ _ => rfl), F.mm_idl hl (h.bd' _ _)]
  · rw [mm_assoc, F.mm_congr (f' := G') (g' := G) (fun _ _ => rfl) (fun l hl => ?_)]
    · exact k.l i j hi hj
    · rw [← mm_assoc, F.mm_congr (f' := I1) (g' := G) (fun s hs => h.l l s hl hs) (fun _ _ => rfl), F.mm_idl hl (k.bd _ _)]
theorem Iv.op {n t k s s' : Nat} (v : Nat → Nat) (ht : t < n) (hk : k < n) (hs : F.mul s s' = 1) : F.Iv n (F.op t k s v I1) (F.po t k s' v I1) := by
  refine ⟨F.op_bd _ _ _ _ F.I1_bd, F.po_bd _ _ _ _ F.I1_bd, fun i j hi hj => ?_, fun i j hi hj => ?_⟩
  · rw [← F.op_mm (n := n)]
    have e : ∀ a, a < n → F.mm n I1 (F.po t k s' v I1) a j = F.po t k s' v I1 a j := fun a ha => F.mm_idl ha (F.po_bd _ _ _ _ F.I1_bd _ _)
    rw [show F.op t k s v (F.mm n I1 (F.po t k s' v I1)) i j = F.op t k s v (F.po t k s' v I1) i j by
      unfold Fld.op; rw [e k hk, e _ (sw_lt ht hk hi)]]
    exact F.op_po v F.I1_bd hs i j
  · rw [← F.po_mm (n := n)]
    have e : ∀ a, a < n → F.mm n I1 (F.op t k s v I1) a j = F.op t k s v I1 a j := fun a ha => F.mm_idl ha (F.op_bd _ _ _ _ F.I1_bd _ _)
    rw [show F.po t k s' v (F.mm n I1 (F.op t k s v I1)) i j = F.po t k s' v (F.op t k s v I1) i j by
      unfold Fld.po; rw [e t ht, e _ (sw_lt ht hk hi)]]
    exact F.po_op v F.I1_bd hs i j
/-- What rows are, once they are reduced by c columns. -/
structure Red (n c : Nat) (f g : Tb) (t : Nat) : Prop where
  bd : F.Bd g
  tn : t ≤ n
  tc : t ≤ c
  ex : ∃ E E', F.Iv n E E' ∧ ∀ i j, i < n → g i j = F.mm n E f i j
  pv : ∃ p : Nat → Nat, (∀ r, r < t → p r < c ∧ ∀ i, i < n → g i (p r) = I1 i r) ∧ (t = c → ∀ r, r < t → p r = r)
  zr : ∀ i j, t ≤ i → i < n → j < c → g i j = 0
theorem red_ok {n : Nat} {f : Tb} (hf : F.Bd f) : ∀ c, F.Red n c f (F.red n f c).1 (F.red n f c).2
  | 0 => ⟨hf, Nat.zero_le _, Nat.le_refl _, ⟨I1, I1, Iv.id F n, fun i j hi => (F.mm_idl hi (hf _ _)).symm⟩, ⟨fun r => r, fun r h => by simp [red] at h, fun _ r h => by simp [red] at h⟩, fun i j _ _ h => by omega⟩
  | c + 1 => by
    have ih := red_ok (n := n) hf c
    show F.Red n (c + 1) f (F.stp _ n c _).1 (F.stp _ n c _).2
    generalize (F.red n f c).1 = g at ih ⊢
    generalize (F.red n f c).2 = t at ih ⊢
    obtain ⟨hb, htn, htc, ⟨E, E', hE, he⟩, ⟨p, hp, hpe⟩, hz⟩ := ih
    unfold stp
    cases hk : piv g n c t (n - t) with
    | none =>
      have h0 := piv_none hk
      refine ⟨hb, htn, by simp; omega, ⟨E, E', hE, he⟩, ⟨p, fun r hr => ⟨by have := (hp r hr).1; omega, (hp r hr).2⟩, fun e => by simp at e; omega⟩, fun i j h1 h2 h3 => ?_⟩
      by_cases e : j = c
      · subst e; exact h0 i h1 (by omega)
      · exact hz i j h1 h2 (by omega)
    | some k =>
      obtain ⟨k1, k2, k3, k4⟩ := piv_some hk
      have hkn : k < n := by omega
      have htn' : t < n := by omega
      have hs := F.inv_mul (hb k c) k3
      refine ⟨F.op_bd _ _ _ _ hb, by simp; omega, by simp; omega, ⟨F.mm n (F.op t k (F.inv (g k c)) (fun i => g (sw t k i) c) I1) E, F.mm n E' (F.po t k (g k c) (fun i => g (sw t k i) c) I1), (Iv.op F _ htn' hkn hs).mul F hE, fun i j hi => ?_⟩, ⟨fun r => if r = t then c else p r, fun r hr => ?_, fun e r hr => ?_⟩, fun i j h1 h2 h3 => ?_⟩
      · rw [mm_assoc, ← F.op_mm (n := n)]
        have e : ∀ a, a < n → F.mm n I1 (F.mm n E f) a j = g a j := fun a ha => by rw [F.mm_idl ha (F.mm_bd _ _ _ _ _), he a j ha]
        dsimp only
        unfold Fld.op; rw [e k hkn, e _ (sw_lt htn' hkn hi)]
      · by_cases e : r = t
        · subst e
          simp only [if_true]
          refine ⟨by omega, fun i hi => ?_⟩
          unfold Fld.op I1
          have h1 : F.mul (g k c) (F.inv (g k c)) = 1 := F.mul_inv (hb k c) k3
          split
          · exact h1
          · rw [h1, F.mul_one _ (hb _ _), Nat.xor_self]
        · simp only [if_neg e]
          have hr' : r < t := by simp at hr; omega
          obtain ⟨q1, q2⟩ := hp r hr'
          refine ⟨by omega, fun i hi => ?_⟩
          have hkr : g k (p r) = 0 := by rw [q2 k hkn]; unfold I1; rw [if_neg (by omega)]
          unfold Fld.op
          rw [hkr, F.zero_mul, F.mul_zero, Nat.xor_zero]
          split
          · rename_i h; unfold I1; rw [if_neg (by omega)]
          · rename_i h
            rw [q2 _ (sw_lt htn' hkn hi)]
            unfold I1 sw
            rw [if_neg h]
            split
            · rename_i h5; rw [if_neg (by omega), if_neg (by omega)]
            · rfl
      · simp at e
        by_cases h : r = t
        · simp only [if_pos h]; omega
        · simp only [if_neg h]; exact hpe (by omega) r (by simp at hr; omega)
      · dsimp only at h1 ⊢
        have hne : i ≠ t := by omega
        unfold Fld.op
        rw [if_neg hne]
        by_cases e : j = c
        · subst e
          rw [F.mul_inv (hb k j) k3, F.mul_one _ (hb _ _), Nat.xor_self]
        · rw [hz k j k1 hkn (by omega), F.zero_mul, F.mul_zero, Nat.xor_zero]
          refine hz _ j ?_ (sw_lt htn' hkn h2) (by omega)
          unfold sw; split <;> (try split) <;> omega

/-! ### inverses -/
/-- A table with another one beside it. -/
def bes (n : Nat) (f g : Tb) : Tb := fun i j => if j < n then f i j else g i (j - n)
theorem bes_bd {n : Nat} {f g : Tb} (hf : F.Bd f) (hg : F.Bd g) : F.Bd (bes n f g) := fun i j => by unfold bes; split; exact hf _ _; exact hg _ _
/-- The inverse. -/
def iv (n : Nat) (f : Tb) : Option Tb := if (F.red n (bes n f I1) n).2 < n then none else some fun i j => (F.red n (bes n f I1) n).1 i (n + j)
theorem iv_some {n : Nat} {f g : Tb} (hf : F.Bd f) (h : F.iv n f = some g) : F.Iv n f g := by
  unfold iv at h
  split at h
  · cases h
  · rename_i hn
    obtain rfl := Option.some.inj h
    have hr := F.red_ok (n := n) (bes_bd F (n := n) hf F.I1_bd) n
    generalize (F.red n (bes n f I1) n).1 = g at hr ⊢
    generalize (F.red n (bes n f I1) n).2 = t at hr hn
    obtain ⟨hb, htn, htc, ⟨E, E', hE, he⟩, ⟨p, hp, hpe⟩, hz⟩ := hr
    obtain rfl : t = n := by omega
    have hg : ∀ i j, i < t → j < t → g i (t + j) = E i j := fun i j hi hj => by
      rw [he i _ hi]
      refine Eq.trans (xsum_congr (g := fun l => F.mul (E i l) (I1 l j)) fun l _ => ?_) (F.mm_idr (f := E) (i := i) hj (hE.bd _ _))
      unfold bes; rw [if_neg (by omega), show t + j - t = j by omega]
    have hEf : ∀ i j, i < t → j < t → F.mm t E f i j = I1 i j := fun i j hi hj => by
      have := (hp j hj).2 i hi
      rw [hpe rfl j hj, he i j hi, F.mm_congr (f' := E) (g' := f) (fun _ _ => rfl) (fun l _ => by unfold bes; rw [if_pos hj])] at this
      exact this
    have hfE : ∀ i j, i < t → j < t → f i j = E' i j := fun i j hi hj => by
      have h1 : F.mm t E' (F.mm t E f) i j = E' i j := by
        rw [F.mm_congr (f' := E') (g' := I1) (fun _ _ => rfl) (fun l hl => hEf l j hl hj)]; exact F.mm_idr hj (hE.bd' _ _)
      rw [← mm_assoc, F.mm_congr (f' := I1) (g' := f) (fun l hl => hE.l i l hi hl) (fun _ _ => rfl), F.mm_idl hi (hf _ _)] at h1
      exact h1
    refine ⟨hf, fun i j => hb _ _, fun i j hi hj => ?_, fun i j hi hj => ?_⟩
    · rw [F.mm_congr (f' := E') (g' := E) (fun l hl => hfE i l hi hl) (fun l hl => hg l j hl hj)]; exact hE.l i j hi hj
    · rw [F.mm_congr (f' := E) (g' := f) (fun l hl => hg i l hi hl) (fun _ _ => rfl)]; exact hEf i j hi hj
/-- Without an inverse: a row that isn't 0, times the table, is 0. -/
theorem iv_none {n : Nat} {f : Tb} (hf : F.Bd f) (h : F.iv n f = none) : ∃ y : Nat → Nat, (∀ i, y i < 2 ^ F.w) ∧ (∃ i, i < n ∧ y i ≠ 0) ∧ ∀ j, j < n → (xsum n fun l => F.mul (y l) (f l j)) = 0 := by
  unfold iv at h
  split at h
  · rename_i hn
    have hr := F.red_ok (n := n) (bes_bd F (n := n) hf F.I1_bd) n
    generalize (F.red n (bes n f I1) n).1 = g at hr
    generalize (F.red n (bes n f I1) n).2 = t at hr hn
    obtain ⟨hb, htn, htc, ⟨E, E', hE, he⟩, -, hz⟩ := hr
    refine ⟨E t, hE.bd t, ?_, fun j hj => ?_⟩
    · refine Classical.byContradiction fun hno => ?_
      have h0 : ∀ l, l < n → E t l = 0 := fun l hl => Classical.byContradiction fun h => hno ⟨l, hl, h⟩
      have h1 := hE.r t t hn hn
      unfold mm I1 at h1
      rw [if_pos rfl, xsum_zero' fun l hl => by rw [h0 l hl, F.zero_mul]] at h1
      cases h1
    · have := hz t j (Nat.le_refl _) hn hj
      rw [he t j hn, F.mm_congr (f' := E) (g' := f) (fun _ _ => rfl) (fun l _ => by unfold bes; rw [if_pos hj])] at this
      exact this
  · cases h
/-- With an inverse no row but 0 makes 0. -/
theorem Iv.left {n : Nat} {f g : Tb} (h : F.Iv n f g) {y : Nat → Nat} (hy : ∀ i, y i < 2 ^ F.w) (h0 : ∀ j, j < n → (xsum n fun l => F.mul (y l) (f l j)) = 0) : ∀ i, i < n → y i = 0 := fun i hi => by
  have h1 : F.mm n (F.mm n (fun _ => y) f) g 0 i = y i := by
    rw [mm_assoc, F.mm_congr (f' := fun _ => y) (g' := I1) (fun _ _ => rfl) (fun l hl => h.r l i hl hi)]; exact F.mm_idr hi (hy _)
  rw [← h1]
  exact xsum_zero' fun l hl => by rw [show F.mm n (fun _ => y) f 0 l = 0 from h0 l hl, F.zero_mul]
theorem iv_of {n : Nat} {f : Tb} (hf : F.Bd f) (h : ∀ y : Nat → Nat, (∀ i, y i < 2 ^ F.w) → (∀ j, j < n → (xsum n fun l => F.mul (y l) (f l j)) = 0) → ∀ i, i < n → y i = 0) : ∃ g, F.iv n f = some g := by
  cases hi : F.iv n f with
  | some g => exact ⟨g, rfl⟩
  | none =>
    obtain ⟨y, h1, ⟨i, h2, h3⟩, h4⟩ := F.iv_none hf hi
    exact absurd (h y h1 h4 i h2) h3
theorem iv_of_Iv {n : Nat} {f g : Tb} (h : F.Iv n f g) : ∃ g', F.iv n f = some g' := F.iv_of h.bd fun y h1 h2 => h.left F h1 h2
/-- Rows for columns. -/
def tr (f : Tb) : Tb := fun i j => f j i
theorem mm_tr (n : Nat) (f g : Tb) (i j : Nat) : F.mm n (tr f) (tr g) i j = F.mm n g f j i := xsum_congr fun l _ => F.comm _ _
theorem Iv.tr {n : Nat} {f g : Tb} (h : F.Iv n f g) : F.Iv n (Fld.tr f) (Fld.tr g) :=
  ⟨fun i j => h.bd j i, fun i j => h.bd' j i, fun i j hi hj => by rw [mm_tr, h.l j i hj hi]; unfold I1; simp only [eq_comm], fun i j hi hj => by rw [mm_tr, h.r j i hj hi]; unfold I1; simp only [eq_comm]⟩
/-- A table that makes 0 of no column but 0 has an inverse. -/
theorem iv_ofR {n : Nat} {f : Tb} (hf : F.Bd f) (h : ∀ y : Nat → Nat, (∀ i, y i < 2 ^ F.w) → (∀ j, j < n → (xsum n fun l => F.mul (f j l) (y l)) = 0) → ∀ i, i < n → y i = 0) : ∃ g, F.iv n f = some g := by
  obtain ⟨g, hg⟩ := F.iv_of (n := n) (f := tr f) (fun i j => hf j i) (fun y h1 h2 => h y h1 fun j hj => by rw [← h2 j hj]; exact xsum_congr fun l _ => F.comm _ _)
  have := F.iv_some (fun i j => hf j i) hg
  exact F.iv_of_Iv (this.tr F)
theorem Iv.right {n : Nat} {f g : Tb} (h : F.Iv n f g) {y : Nat → Nat} (hy : ∀ i, y i < 2 ^ F.w) (h0 : ∀ j, j < n → (xsum n fun l => F.mul (f j l) (y l)) = 0) : ∀ i, i < n → y i = 0 :=
  (h.tr F).left F hy fun j hj => by rw [← h0 j hj]; exact xsum_congr fun l _ => F.comm _ _
theorem iv_congr {n : Nat} {f g : Tb} (hf : F.Bd f) (hg : F.Bd g) (h : ∀ i j, i < n → j < n → f i j = g i j) : (F.iv n f).isSome = (F.iv n g).isSome := by
  have key : ∀ {f g : Tb}, F.Bd f → F.Bd g → (∀ i j, i < n → j < n → f i j = g i j) → (F.iv n f).isSome = true → (F.iv n g).isSome = true := fun {f g} hf hg h hs => by
    obtain ⟨x, hx⟩ := Option.isSome_iff_exists.1 hs
    have hi := F.iv_some hf hx
    obtain ⟨y, hy⟩ := F.iv_of_Iv (n := n) (f := g) (g := x) ⟨hg, hi.bd', fun i j hi' hj => by rw [← hi.r i j hi' hj]; exact F.mm_congr (fun l hl => (h i l hi' hl).symm) (fun _ _ => rfl), fun i j hi' hj => by rw [← hi.l i j hi' hj]; exact F.mm_congr (fun _ _ => rfl) (fun l hl => (h l j hl hj).symm)⟩
    rw [hy]; rfl
  rw [Bool.eq_iff_iff]
  exact ⟨key hf hg h, key hg hf fun i j hi hj => (h i j hi hj).symm⟩

/-! ### ranks -/
/-- Each of the n rows of g is made of the m rows of f, over c columns. -/
def Sp (c m n : Nat) (f g : Tb) : Prop := ∃ C : Tb, F.Bd C ∧ ∀ i j, i < n → j < c → g i j = F.mm m C f i j
/-- The rank, of n rows over c columns. -/
def rk (n : Nat) (f : Tb) (c : Nat) : Nat := (F.red n f c).2
/-! ### rows of powers -/
theorem eval_sum (x : Nat) (hx : x < 2 ^ F.w) : ∀ (n : Nat) (y : Nat → Nat), (∀ i, y i < 2 ^ F.w) → F.eval ((List.range n).map y) x = xsum n fun l => F.mul (F.pow x l) (y l)
  | 0, _, _ => rfl
  | n + 1, y, h => by
    have ih := eval_sum x hx n (fun i => y (i + 1)) (fun i => h _)
    rw [List.range_succ_eq_map, List.map_cons, eval, List.map_map]
    rw [show (List.range n).map (y ∘ Nat.succ) = (List.range n).map fun i => y (i + 1) from rfl, ih, Nat.add_comm n 1, xsum_add]
    congr 1
    · show y 0 = 0 ^^^ F.mul 1 (y 0)
      rw [Nat.zero_xor, F.one _ (h 0)]
    · rw [mul_xsum]
      refine xsum_congr fun l _ => ?_
      show _ = F.mul (F.pow x (1 + l)) (y (1 + l))
      rw [Nat.add_comm 1 l, pow, F.comm (F.pow x l) x, F.assoc]
/-- Rows of powers of unlike numbers have an inverse. -/
theorem vander {n : Nat} {x : Nat → Nat} (hx : ∀ i, x i < 2 ^ F.w) (hu : ∀ i j, i < n → j < n → x i = x j → i = j) : ∃ g, F.iv n (fun i k => F.pow (x i) k) = some g := by
  refine F.iv_ofR (fun i j => F.pow_lt _ _) fun y h1 h2 i hi => ?_
  refine F.roots n ((List.range n).map y) ((List.range n).map x) (by simp) (by simp) (fun c hc => ?_) (fun c hc => ?_) ?_ (fun c hc => ?_) (y i) (List.mem_map.2 ⟨i, List.mem_range.2 hi, rfl⟩)
  · obtain ⟨l, _, rfl⟩ := List.mem_map.1 hc; exact h1 l
  · obtain ⟨l, _, rfl⟩ := List.mem_map.1 hc; exact hx l
  · refine List.Pairwise.map x (R := fun a b => a < n ∧ b < n ∧ a ≠ b) (fun a b h e => h.2.2 (hu a b h.1 h.2.1 e)) ?_
    exact List.Pairwise.imp_of_mem (fun ha hb hne => ⟨List.mem_range.1 ha, List.mem_range.1 hb, hne⟩) (List.nodup_range)
  · obtain ⟨l, hl, rfl⟩ := List.mem_map.1 hc
    rw [F.eval_sum _ (hx l) n y h1]
    exact h2 l (List.mem_range.1 hl)
/-- Two rows that are the same: no inverse. -/
theorem iv_twice {n : Nat} {f : Tb} (hf : F.Bd f) {a b : Nat} (ha : a < n) (hb : b < n) (hne : a ≠ b) (h : ∀ j, j < n → f a j = f b j) : F.iv n f = none := by
  cases hi : F.iv n f with
  | none => rfl
  | some g =>
    have h1 := (F.iv_some hf hi).left F (y := fun i => I1 a i ^^^ I1 b i) (fun i => Px.xor_lt (F.I1_bd _ _) (F.I1_bd _ _)) (fun j hj => by
      rw [xsum_congr fun l _ => F.dist_r _ _ _, xsum_xor]
      have e1 := F.mm_idl (n := n) (f := f) (i := a) (j := j) ha (hf _ _)
      have e2 := F.mm_idl (n := n) (f := f) (i := b) (j := j) hb (hf _ _)
      unfold mm at e1 e2
      rw [e1, e2, h j hj, Nat.xor_self]) a ha
    simp only [I1, if_true, if_neg (Ne.symm hne)] at h1
    cases h1
end Fld
end Go.Gam

/- The laws of the fields, as the statements of layer 2 ask them. No program in sight. -/
set_option linter.unusedVariables false
set_option linter.unusedSimpArgs false
namespace Go.Gam
open Px

theorem newF_p {wb p : Nat} (h : Prm wb p) : newF (wb : Int) p = some (wb, p) := by
  rw [newF_t ⟨by have := h.w; omega, by rw [deg_pos h.p0, h.lg], h.pr⟩]; rfl
theorem prm_285 : Prm 8 285 := ⟨.inl rfl, prim_285, by decide +kernel⟩
theorem prm_69643 : Prm 16 69643 := ⟨.inr rfl, prim_69643, by decide +kernel⟩

/-! ### by 0x11D -/
/-! ### powers of x -/
section
variable {wb p : Nat} (h : Prm wb p)
include h

/-! ### a field -/
theorem ginv_nat {x : Nat} (hx : x < 2 ^ wb) (h0 : x ≠ 0) : ginv (some (wb, p)) (x : Int) = (Px.pow x p (2 ^ wb - 2) : Int) := by
  have hs := h.size
  rw [ginv_in (inF_of hx) (by omega), show ((fsz (some (wb, p)) : Nat) : Int) - 2 = ((2 ^ wb - 2 : Nat) : Int) by show ((2 ^ wb : Nat) : Int) - 2 = _; omega, gpow_in hx]
end
end Go.Gam

/- Rows in memory that a walk writes: each in a block of its own; scopes; what one step of the reduction is. No program in sight. -/
set_option linter.unusedVariables false
set_option linter.unusedSimpArgs false
namespace Go.Gam
open Px

theorem W_scope {P : Program} {N R : Kont} {X : List (Nat × Kont)} {a : Act} {w : World} {c : Code} (h : W P c N X R a w) : W P (.scope c) N X R a w :=
  wp_scope_straight (wp_mono h fun e a w hq => by cases e <;> exact hq)
theorem W_label {P : Program} {N R : Kont} {X : List (Nat × Kont)} {a : Act} {w : World} {l : Nat} (h : N a w) : W P (.label l) N X R a w := wp_label h

section
variable {P : Program} {ops : Array Oper} {K : Kont} {rest : List Oper} {n : NN} {F : Fs} {T : TypeId} {pp : String} {af : Array Edge} {v : Value} {d : Nat} {a : Act} {w : World} {x y : Operand} {D : FD} {B : Nat}
theorem v_capS {t e by_ : Nat} {z : Value} {ats : Array TypeId} {a : Option Addr} {n c : Nat} (hat : ats = #[t]) (ht : Sl P t e z by_) (hx : ev F x = some (.slice a n c)) : Val P (.call ⟨.builtin .cap, #[x], ats⟩) T F w (.int .i64 (c : Int)) :=
  fun ρ h d p af g => by
    subst hat
    simp [execOp, resolve, invoke, builtin, Builtin.cap_, h x _ hx, underlying, ht.1, program, Sem.run, goInt]
theorem zeroCells_one (z : Value) (k : Nat) : Builtin.zeroCells #[z] k = (List.replicate k z).toArray := by
  apply Array.ext
  · simp [Builtin.zeroCells]
  · intro i h1 h2
    simp [Builtin.zeroCells, Nat.mod_one]
/-- So many zeros, appended to nothing. -/
theorem s_appZ {t tx e by_ m : Nat} {ats : Array TypeId} {z : Value} {k1 : IntKind} {X : Int} (hF : Fr n F a) (hat : ats = #[t, tx]) (ht : Sl P t e z by_) (htx : P.underlying tx = some (.int k1)) (hx : ev F x = some (.slice none 0 0)) (hy : ev F y = some (.int .i64 X))
    (hX : X = (m : Int)) (h0 : 0 < m) (hm : m * by_ ≤ 8388608 ∧ m ≤ 1048576) (he : e ≠ D.T) (hI : Inv D B w) (hd : Nat.blt d n.n = true)
    (k : ∀ w' a c, Mb D B none w w' → Inv D B w' → Own D B w.heap.size w' e (.slice (some ⟨w.heap.size, 0, none⟩) m c) (some w.heap.size) (List.replicate m z) → Fr n ((d, .slice (some ⟨w.heap.size, 0, none⟩) m c) :: F) a → WL P ops K rest a w') :
    WL P ops K (⟨some d, .call ⟨.builtin .append, #[x, y], ats⟩, T, pp, af, none⟩ :: rest) a w := by
  subst hat
  subst hX
  obtain ⟨t1, tz, i, t2, t3, t4, t5⟩ := ht
  subst t5
  have hml : m ≤ maxLen := Nat.le_trans hm.2 (by decide)
  have hge := grownCap_ge w m 0 e
  have hcm := grownCap_le_maxLen w m 0 e hml
  have hpn : Priv D B w w.heap.size := hI.priv_new (Nat.le_refl _)
  have hmn : m ≠ 0 := by omega
  have h63 : ¬ (9223372036854775807 < (m : Int)) := by omega
  have h48 : ¬ (281474976710656 < Builtin.nextslicecap m 0 * i.bytes) := by rw [nextslicecap_zero h0]; omega
  have h48' : ¬ (281474976710656 < (m : Int) * (i.bytes : Int)) := by
    have e1 : (m : Int) * (i.bytes : Int) = ((m * i.bytes : Nat) : Int) := by simp
    rw [e1]; omega
  have hw : IntKind.i64.wrap (m : Int) = (m : Int) := wrap_i64 _ (by omega)
  have hm0 : ¬ ((m : Int) < 0) := by omega
  have hz : ∀ k, Builtin.zeroCells z.cells k = (List.replicate k z).toArray := fun k => by rw [tz]; exact zeroCells_one z k
  obtain ⟨c, hc⟩ : ∃ c, c = grownCap w m 0 e := ⟨_, rfl⟩
  have hrun : (Builtin.append_ #[t, tx] T #[.slice none 0 0, .int .i64 (m : Int)]).run P w = .ok (.slice (some ⟨w.heap.size, 0, none⟩) m c) (w.drew.alloc (.cells (List.replicate m z ++ List.replicate (c - m) z).toArray e)) := by
    simp [Builtin.append_, run_underlying t1, run_underlying htx, sizeOf, typeInfo, zeroValue, t2, t3, t4, asInt, asIntOf, hw, hm0, hmn, h63, h48, h48', Question.forced, run_firstCells_none, newRow, hz, hc, grownCap]
  rw [← hc] at hge hcm
  have ho : Own D B w.heap.size (w.drew.alloc (.cells (List.replicate m z ++ List.replicate (c - m) z).toArray e)) e (.slice (some ⟨w.heap.size, 0, none⟩) m c) (some w.heap.size) (List.replicate m z) :=
    .inr ⟨w.heap.size, c, _, by simp, rfl, Nat.le_refl _, hI.1, alloc_new w.drew _, by simpa using hge, hcm, by simp; omega, by simp, (Mb.drew_alloc _ e he).priv hpn⟩
  refine s_run (w' := w.drew.alloc (.cells (List.replicate m z ++ List.replicate (c - m) z).toArray e)) hF (fun ρ h => ?_) hd fun a hF => k _ a c (Mb.drew_alloc _ e he) ((Mb.drew_alloc _ e he).inv hI) ho hF
  simp [execOp, resolve, invoke, builtin, h x _ hx, h y _ hy, hrun]
end
theorem Own.to {D : FD} {B N E g l cap hi : Nat} {w : World} {b : Option Nat} {xs : List Value} (h : Own D B N w E (.slice (some ⟨g, 0, none⟩) l cap) b xs) (h1 : hi ≤ xs.length) : Own D B N w E (.slice (some ⟨g, 0, none⟩) hi cap) b (xs.take hi) := by
  rcases h with ⟨h, _⟩ | ⟨g', cap', cur, e, h0, h1', hB, h2, h3, h4, h5, h6, h7⟩
  · cases h
  · obtain ⟨e1, e2, rfl⟩ := Value.slice.inj e
    injection e1 with e1; injection e1 with e1
    subst e1
    have hl : (xs.take hi).length = hi := by simp; omega
    refine .inr ⟨g, cap, cur, by rw [hl], h0, h1', hB, h2, by omega, h4, h5, ?_, h7⟩
    rw [hl, ← h6, List.take_take, Nat.min_eq_left h1]
/-! ### sums of rows -/
theorem flat_snoc {mt : Mtx} {i : Nat} {r : List Int} (h : mt[i]? = some r) : (mt.take (i + 1)).flatten = (mt.take i).flatten ++ r := by rw [take_snoc h, List.flatten_append]; simp
theorem flat_le {mt : Mtx} {c : Nat} (h : ∀ r ∈ mt, r.length ≤ c) : ∀ i, (mt.take i).flatten.length ≤ i * c
  | 0 => by simp
  | i + 1 => by
    have ih := flat_le h i
    cases hi : mt[i]? with
    | none => rw [List.take_add_one, hi]; simp only [Option.toList_none, List.append_nil]; rw [Nat.add_mul]; omega
    | some r => rw [flat_snoc hi, List.length_append, Nat.add_mul]; have := h r (List.mem_of_getElem? hi); omega

/-! ### rows of a table -/
def trow (m : Nat) (f : Tb) (i : Nat) : List Int := (List.range m).map fun j => (f i j : Int)
@[simp] theorem trow_length (m : Nat) (f : Tb) (i : Nat) : (trow m f i).length = m := by simp [trow]
theorem trow_at {m i j : Nat} {f : Tb} (h : j < m) : (trow m f i)[j]? = some (f i j : Int) := by simp [trow, h]
theorem trow_congr {m i k : Nat} {f g : Tb} (h : ∀ j, j < m → f i j = g k j) : trow m f i = trow m g k := List.map_congr_left fun j hj => by rw [h j (List.mem_range.1 hj)]
theorem trow_set {m i j y : Nat} {f g : Tb} (h : ∀ l, l < m → g i l = if l = j then y else f i l) : (trow m f i).set j (y : Int) = trow m g i := by
  apply List.ext_getElem?
  intro l
  by_cases hl : l < m
  · rw [trow_at hl, h l hl, List.getElem?_set]
    by_cases e : j = l
    · subst e; rw [if_pos rfl, if_pos (by simpa using hl), if_pos rfl]
    · rw [if_neg e, trow_at hl, if_neg (Ne.symm e)]
  · rw [List.getElem?_eq_none (by simp; omega), List.getElem?_eq_none (by simp; omega)]
def vls (n m : Nat) (bs rc : Nat → Nat) : List Value := (List.range n).map fun i => .slice (some ⟨bs i, 0, none⟩) m (rc i)
@[simp] theorem vls_length (n m : Nat) (bs rc : Nat → Nat) : (vls n m bs rc).length = n := by simp [vls]
theorem vls_at {n m i : Nat} {bs rc : Nat → Nat} (h : i < n) : (vls n m bs rc)[i]? = some (.slice (some ⟨bs i, 0, none⟩) m (rc i)) := by simp [vls, h]
theorem vls_sw {n m t k : Nat} {bs rc : Nat → Nat} (ht : t < n) (hk : k < n) :
    ((vls n m bs rc).set t (.slice (some ⟨bs k, 0, none⟩) m (rc k))).set k (.slice (some ⟨bs t, 0, none⟩) m (rc t)) = vls n m (fun i => bs (Fld.sw t k i)) (fun i => rc (Fld.sw t k i)) := by
  apply List.ext_getElem?
  intro l
  by_cases hl : l < n
  · rw [vls_at hl, List.getElem?_set]
    by_cases e : k = l
    · subst e
      rw [if_pos rfl, if_pos (by simpa using hl)]
      unfold Fld.sw
      by_cases e2 : k = t
      · subst e2; simp
      · simp [e2]
    · rw [if_neg e, List.getElem?_set]
      by_cases e2 : t = l
      · subst e2
        rw [if_pos rfl, if_pos (by simpa using hl)]
        unfold Fld.sw; simp
      · rw [if_neg e2, vls_at hl]
        unfold Fld.sw
        rw [if_neg (Ne.symm e2), if_neg (Ne.symm e)]
  · rw [List.getElem?_eq_none (by simp; omega), List.getElem?_eq_none (by simp; omega)]
theorem Own.kc {D : FD} {B N E g l cap i : Nat} {w : World} {b : Option Nat} {xs : List Value} {u : Value} (h : Own D B N w E (.slice (some ⟨g, 0, none⟩) l cap) b xs) (hE : E ≠ D.T) (hi : xs[i]? = some u) : KC D B w ⟨g, 0 + i, none⟩ u := by
  obtain ⟨g', o, e, hk, -⟩ := (h.row hE).kat hi
  injection e with e; injection e with e1 e2
  subst e1; subst e2
  exact hk
/-- n rows of m numbers, the table f, each in a block of its own (bs, below K), that nobody else knows. -/
structure Wr (D : FD) (B N K : Nat) (w : World) (n m : Nat) (bs rc : Nat → Nat) (f : Tb) : Prop where
  row : ∀ i, i < n → Own D B N w D.E (.slice (some ⟨bs i, 0, none⟩) m (rc i)) (some (bs i)) (zints (trow m f i))
  inj : ∀ i j, i < n → j < n → bs i = bs j → i = j
  lt : ∀ i, i < n → bs i < K
section
variable {D : FD} {B N K n m : Nat} {w w' : World} {bs rc : Nat → Nat} {f g : Tb}
theorem Wr.nil : Wr D B N K w 0 m bs rc f := ⟨fun i h => by omega, fun i j h => by omega, fun i h => by omega⟩
theorem Wr.st (h : Wr D B N K w n m bs rc f) (hs : St D B w w') : Wr D B N K w' n m bs rc f := ⟨fun i hi => (h.row i hi).st D.ne hs, h.inj, h.lt⟩
theorem Wr.mb0 (h : Wr D B N K w n m bs rc f) (hm : Mb D B none w w') : Wr D B N K w' n m bs rc f := ⟨fun i hi => (h.row i hi).mb hm (fun _ _ => by simp), h.inj, h.lt⟩
theorem Wr.mbx {c : Option Nat} (h : Wr D B N K w n m bs rc f) (hm : Mb D B c w w') (hc : ∀ k, c = some k → K ≤ k) : Wr D B N K w' n m bs rc f :=
  ⟨fun i hi => (h.row i hi).mb hm (fun k e e2 => by have h1 := hc k e2; have h2 := h.lt i hi; obtain rfl := Option.some.inj e; omega), h.inj, h.lt⟩
theorem Wr.mbo {N' E2 : Nat} {c : Option Nat} {v : Value} {xs : List Value} (h : Wr D B N K w n m bs rc f) (hm : Mb D B c w w') (ho : Own D B N' w E2 v c xs) (hE : D.E ≠ E2) : Wr D B N K w' n m bs rc f :=
  ⟨fun i hi => (h.row i hi).mb hm ((h.row i hi).ne_type ho hE), h.inj, h.lt⟩
theorem Wr.ge (h : Wr D B N K w n m bs rc f) {i : Nat} (hi : i < n) : N ≤ bs i ∧ bs i < w.heap.size := (h.row i hi).lt _ rfl
theorem Wr.ne (h : Wr D B N K w n m bs rc f) {i p : Nat} (hi : i < n) (hp : K ≤ p) : some (bs i) ≠ some p := fun e => by have h1 := h.lt i hi; injection e with e; omega
theorem Wr.set {i : Nat} (h : Wr D B N K w n m bs rc f) (hi : i < n) (hm : Mb D B (some (bs i)) w w') (ho : Own D B N w' D.E (.slice (some ⟨bs i, 0, none⟩) m (rc i)) (some (bs i)) (zints (trow m g i))) (hf : ∀ a, a < n → a ≠ i → ∀ j, j < m → g a j = f a j) : Wr D B N K w' n m bs rc g :=
  ⟨fun a ha => by
    by_cases e : a = i
    · subst e; exact ho
    · rw [trow_congr (hf a ha e)]
      exact (h.row a ha).mb hm (fun k e1 e2 => e (h.inj a i ha hi (Option.some.inj (e1.trans e2.symm)))), h.inj, h.lt⟩
theorem Wr.congr (h : Wr D B N K w n m bs rc f) (hf : ∀ i, i < n → ∀ j, j < m → f i j = g i j) : Wr D B N K w n m bs rc g :=
  ⟨fun i hi => by rw [← trow_congr (hf i hi)]; exact h.row i hi, h.inj, h.lt⟩
theorem Wr.sw {t k : Nat} (h : Wr D B N K w n m bs rc f) (ht : t < n) (hk : k < n) : Wr D B N K w n m (fun i => bs (Fld.sw t k i)) (fun i => rc (Fld.sw t k i)) (fun i j => f (Fld.sw t k i) j) :=
  ⟨fun i hi => h.row _ (Fld.sw_lt ht hk hi), fun i j hi hj e => by
    have h1 := h.inj _ _ (Fld.sw_lt ht hk hi) (Fld.sw_lt ht hk hj) e
    rw [← Fld.sw_sw t k i, h1, Fld.sw_sw], fun i hi => h.lt _ (Fld.sw_lt ht hk hi)⟩
theorem Wr.rd (h : Wr D B N K w n m bs rc f) {i j : Nat} (hi : i < n) (hj : j < m) : KC D B w ⟨bs i, 0 + j, none⟩ (.int .i64 (f i j : Int)) := (h.row i hi).kc D.ne (zints_at (trow_at hj))
theorem Wr.le {N' : Nat} (h : Wr D B N K w n m bs rc f) (hN : N' ≤ N) : Wr D B N' K w n m bs rc f := ⟨fun i hi => (h.row i hi).le hN, h.inj, h.lt⟩
theorem Wr.up {K' : Nat} (h : Wr D B N K w n m bs rc f) (hK : K ≤ K') : Wr D B N K' w n m bs rc f := ⟨h.row, h.inj, fun i hi => Nat.lt_of_lt_of_le (h.lt i hi) hK⟩
/-- A row more. -/
theorem Wr.snoc {gx cx : Nat} (h : Wr D B N K w n m bs rc f) (ho : Own D B N w D.E (.slice (some ⟨gx, 0, none⟩) m cx) (some gx) (zints (trow m f n))) (hK : K ≤ gx) :
    Wr D B N w.heap.size w (n + 1) m (fun a => if a = n then gx else bs a) (fun a => if a = n then cx else rc a) f := by
  have key : ∀ i, i < n + 1 → i ≠ n → i < n := fun i h1 h2 => by omega
  refine ⟨fun i hi => ?_, fun i j hi hj e => ?_, fun i hi => ?_⟩
  · by_cases e : i = n
    · subst e; simp only [if_true]; exact ho
    · simp only [if_neg e]; exact h.row i (key i hi e)
  · by_cases e1 : i = n <;> by_cases e2 : j = n
    · omega
    · have := h.lt j (key j hj e2); simp only [if_pos e1, if_neg e2] at e; omega
    · have := h.lt i (key i hi e1); simp only [if_neg e1, if_pos e2] at e; omega
    · simp only [if_neg e1, if_neg e2] at e; exact h.inj i j (key i hi e1) (key j hj e2) e
  · by_cases e : i = n
    · subst e; simp only [if_true]; exact (ho.lt _ rfl).2
    · simp only [if_neg e]; exact (h.ge (key i hi e)).2
theorem vls_snoc {gx cx : Nat} : vls (n + 1) m (fun a => if a = n then gx else bs a) (fun a => if a = n then cx else rc a) = vls n m bs rc ++ [.slice (some ⟨gx, 0, none⟩) m cx] := by
  unfold vls
  rw [List.range_succ, List.map_append]
  congr 1
  · refine List.map_congr_left fun i hi => ?_
    have := List.mem_range.1 hi
    dsimp only
    rw [if_neg (by omega), if_neg (by omega)]
  · simp
/-- The rows, as a matrix. -/
theorem Wr.mat {E2 gb cap : Nat} {b : Option Nat} {sa : Option Addr} (h : Wr D B N K w n m bs rc f) (ho : Own D B N w E2 (.slice sa n cap) b (vls n m bs rc)) (hE : E2 ≠ D.T) : Mat D B w.heap.size w sa cap (tab n m f) := by
  refine ⟨vls n m bs rc, by rw [vls_length, tab_length], ?_, fun j v r hv hr => ?_⟩
  · have := ho.row hE
    rw [tab_length]; exact this
  · have hj : j < n := by simpa using (List.getElem?_eq_some_iff.1 hv).1
    rw [vls_at hj] at hv
    rw [tab_at hj] at hr
    obtain rfl := Option.some.inj hv
    obtain rfl := Option.some.inj hr
    exact (h.row j hj).row D.ne
end

theorem tab_mem {n m t : Nat} {f : Tb} {r : List Int} (h : r ∈ (tab n m f).drop t) : r.length = m := by
  obtain ⟨i, _, rfl⟩ := List.mem_map.1 (List.mem_of_mem_drop h)
  simp
theorem ginv_fld {wb p x : Nat} (hp : Prm wb p) (hx : x < 2 ^ wb) (h0 : x ≠ 0) : ginv (some (wb, p)) (x : Int) = (hp.fld.inv x : Int) := by
  rw [ginv_nat hp hx h0]
  unfold Fld.inv
  rw [hp.fld_w, show hp.fld.pow x (2 ^ wb - 2) = Px.pow x p (2 ^ wb - 2) from fld_pow p hp.irrP x _]
theorem bes_row (m k : Nat) (f g : Tb) (i : Nat) : ([trow m f i, trow k g i] : Mtx).flatten = trow (m + k) (Fld.bes m f g) i := by
  simp only [List.flatten_cons, List.flatten_nil, List.append_nil]
  unfold trow
  rw [List.range_add, List.map_append, List.map_map]
  congr 1
  · refine List.map_congr_left fun j hj => ?_
    unfold Fld.bes; rw [if_pos (List.mem_range.1 hj)]
  · refine List.map_congr_left fun j hj => ?_
    simp only [Function.comp]
    unfold Fld.bes; rw [if_neg (by omega), Nat.add_sub_cancel_left]
/-- The row that a search finds. -/
theorem piv_idx {n m c t : Nat} {f : Tb} (hc : c < m) (ht : t ≤ n) {p : List Int → Bool} (hp : ∀ r, p r = decide (r.getD c 0 ≠ 0)) :
    (idxZ p ((tab n m f).drop t) = -1 ∧ Fld.piv f n c t (n - t) = none) ∨ ∃ k, Fld.piv f n c t (n - t) = some k ∧ t ≤ k ∧ k < n ∧ idxZ p ((tab n m f).drop t) = (k : Int) - (t : Int) := by
  have hpi : ∀ i, i < n → p (trow m f i) = decide (f i c ≠ 0) := fun i hi => by
    rw [hp, getD_at (trow_at hc)]
    congr 1
    simp
  have hat : ∀ j r, ((tab n m f).drop t)[j]? = some r → t + j < n ∧ r = trow m f (t + j) := fun j r h => by
    rw [List.getElem?_drop] at h
    have hl := (List.getElem?_eq_some_iff.1 h).1
    rw [tab_length] at hl
    rw [tab_at hl] at h
    exact ⟨hl, (Option.some.inj h).symm⟩
  cases hk : Fld.piv f n c t (n - t) with
  | none =>
    refine .inl ⟨idxZ_no fun r hr => ?_, rfl⟩
    obtain ⟨j, hj⟩ := List.getElem?_of_mem hr
    obtain ⟨h1, rfl⟩ := hat j r hj
    rw [hpi _ h1, Fld.piv_none hk (t + j) (by omega) (by omega)]
    simp
  | some k =>
    obtain ⟨k1, k2, k3, k4⟩ := Fld.piv_some hk
    refine .inr ⟨k, rfl, k1, by omega, ?_⟩
    have e : idxZ p ((tab n m f).drop t) = ((k - t : Nat) : Int) := by
      refine idxZ_at (x := trow m f k) (fun r hr => ?_) ?_ ?_
      · obtain ⟨j, hj⟩ := List.getElem?_of_mem hr
        rw [List.getElem?_take] at hj
        split at hj
        · rename_i hlt
          obtain ⟨h1, rfl⟩ := hat j r hj
          rw [hpi _ h1, k4 (t + j) (by omega) (by omega)]
          simp
        · cases hj
      · rw [List.getElem?_drop, show t + (k - t) = k by omega, tab_at (by omega)]; rfl
      · rw [hpi k (by omega)]; simpa using k3
    rw [e]; omega

/-! ### what the functions of package invert tell -/
theorem Mx.bd {wb p n m : Nat} {a : Mtx} (hp : Prm wb p) (h : Mx wb n m a) : hp.fld.Bd (en a) := fun i j => by
  rw [hp.fld_w]
  have h0 : 0 < 2 ^ wb := Nat.two_pow_pos _
  by_cases hi : i < n
  · by_cases hj : j < m
    · exact h.lt hi hj
    · obtain ⟨r, hr⟩ : ∃ r, a[i]? = some r := ⟨_, List.getElem?_eq_getElem (by rw [h.1]; exact hi)⟩
      have hl := (h.2 r (List.mem_of_getElem? hr)).1
      unfold en
      rw [List.getD_eq_getElem?_getD, List.getD_eq_getElem?_getD, hr, Option.getD_some, List.getElem?_eq_none (by omega)]
      exact h0
  · unfold en
    have e : a[i]? = none := List.getElem?_eq_none (by rw [h.1]; omega)
    simp [List.getD_eq_getElem?_getD, e, h0]
def sqM (o : Fq) (a : Mtx) : Bool := mayM o a && decide (a.length = wid a)
section
variable {wb p : Nat} (hp : Prm wb p)
def invR (a : Mtx) : Int × Mtx := if sqM (some (wb, p)) a = true then (match hp.fld.iv a.length (en a) with | none => (2, []) | some g => (0, tab a.length a.length g)) else (1, [])
def rankR (a : Mtx) : Int × Int := if mayM (some (wb, p)) a = true then ((hp.fld.rk a.length (en a) (wid a) : Nat), 0) else (0, 1)
def solR (a : Mtx) (v : List Int) : Int × List Int := if sqM (some (wb, p)) a = true ∧ v.length = a.length ∧ (∀ x ∈ v, inF (some (wb, p)) x = true) then (match hp.fld.iv a.length (en a) with | none => (2, []) | some g => (0, (applyM (some (wb, p)) (tab a.length a.length g) v).getD [])) else (1, [])
theorem sqM_Mx {a : Mtx} (h : sqM (some (wb, p)) a = true) : Mx wb a.length a.length a ∧ 1 ≤ a.length ∧ a.length ≤ 20 ∧ wid a = a.length := by
  simp only [sqM, Bool.and_eq_true, decide_eq_true_eq] at h
  obtain ⟨h1, h2, h3, h4, h5⟩ := mayM_Mx h.1
  rw [← h.2] at h1
  exact ⟨h1, h2, h3, h.2.symm⟩
theorem Mx.sq {n : Nat} {a : Mtx} (h : Mx wb n n a) (h1 : 1 ≤ n) (h2 : n ≤ 20) : sqM (some (wb, p)) a = true := by
  unfold sqM
  rw [h.may h1 h2 h1 h2, h.wid (by omega), h.1]; simp
theorem invR_bad {a : Mtx} (h : sqM (some (wb, p)) a = false) : invR hp a = (1, []) := by unfold invR; rw [h]; rfl
theorem invR_none {a : Mtx} (h : sqM (some (wb, p)) a = true) (hn : hp.fld.iv a.length (en a) = none) : invR hp a = (2, []) := by unfold invR; rw [if_pos h, hn]
theorem invR_some {a : Mtx} {g : Tb} (h : sqM (some (wb, p)) a = true) (hn : hp.fld.iv a.length (en a) = some g) : invR hp a = (0, tab a.length a.length g) := by unfold invR; rw [if_pos h, hn]
/-- The right half, once the rows are reduced. -/
def half (n : Nat) (f : Tb) : Tb := fun i j => (hp.fld.red n (Fld.bes n f I1) n).1 i (n + j)
theorem iv_lt {n : Nat} {f : Tb} (h : hp.fld.rk n (Fld.bes n f I1) n < n) : hp.fld.iv n f = none := if_pos h
theorem iv_ge {n : Nat} {f : Tb} (h : ¬ hp.fld.rk n (Fld.bes n f I1) n < n) : hp.fld.iv n f = some (half hp n f) := if_neg h
theorem half_row (n : Nat) (f : Tb) (i : Nat) : (trow (n + n) (hp.fld.red n (Fld.bes n f I1) n).1 i).drop n = trow n (half hp n f) i := by
  unfold trow
  rw [List.range_add, List.map_append, List.drop_append_of_le_length (by simp), List.drop_of_length_le (by simp), List.nil_append, List.map_map]
  rfl
end

/-! ### one step of the reduction, as it is walked -/
namespace Fld
variable (F : Fld)
def sclF (t s J : Nat) (f : Tb) : Tb := fun i j => if i = t ∧ j < J then F.mul (f t j) s else f i j
def clrF (t i n J : Nat) (f : Tb) : Tb := fun a j => if a = i ∧ j < J then f a j ^^^ F.mul n (f t j) else f a j
def cleF (t c I : Nat) (f : Tb) : Tb := fun a j => if a < I ∧ a ≠ t then f a j ^^^ F.mul (f a c) (f t j) else f a j
theorem op_eq {n m t k c s : Nat} {f : Tb} (hc : c < m) : ∀ i, i < n → ∀ j, j < m → F.cleF t c n (F.sclF t s m (fun i j => f (sw t k i) j)) i j = F.op t k s (fun i => f (sw t k i) c) f i j := by
  intro i hi j hj
  have e : sw t k t = k := by unfold sw; rw [if_pos rfl]
  unfold cleF sclF op
  by_cases h : i = t
  · subst h
    simp only [ne_eq, not_true_eq_false, and_false, if_false, hj, and_self, if_true, e]
  · simp only [hi, ne_eq, h, not_false_eq_true, and_self, if_true, false_and, if_false, hj, true_and, e]
theorem red_full {n : Nat} {f : Tb} {c : Nat} (h : (F.red n f c).2 = n) : ∀ d, F.red n f (c + d) = F.red n f c
  | 0 => rfl
  | d + 1 => by
    rw [← Nat.add_assoc, red, red_full h d, h]
    unfold stp
    rw [Nat.sub_self]
    show ((F.red n f c).1, n) = F.red n f c
    exact Prod.ext rfl h.symm
theorem red_none {n : Nat} {f g : Tb} {c t : Nat} (h1 : (F.red n f c).1 = g) (h2 : (F.red n f c).2 = t) (h : piv g n c t (n - t) = none) : F.red n f (c + 1) = (g, t) := by
  subst h1; subst h2
  rw [red]; unfold stp; rw [h]
theorem red_some {n : Nat} {f g : Tb} {c t k : Nat} (h1 : (F.red n f c).1 = g) (h2 : (F.red n f c).2 = t) (h : piv g n c t (n - t) = some k) : F.red n f (c + 1) = (F.op t k (F.inv (g k c)) (fun i => g (sw t k i) c) g, t + 1) := by
  subst h1; subst h2
  rw [red]; unfold stp; rw [h]
theorem sclF_bd {t s J : Nat} {f : Tb} (h : F.Bd f) : F.Bd (F.sclF t s J f) := fun i j => by unfold sclF; split; exact F.lt _ _; exact h _ _
theorem cleF_bd {t c I : Nat} {f : Tb} (h : F.Bd f) : F.Bd (F.cleF t c I f) := fun i j => by unfold cleF; split; exact Px.xor_lt (h _ _) (F.lt _ _); exact h _ _
theorem clrF_bd {t i n J : Nat} {f : Tb} (h : F.Bd f) : F.Bd (F.clrF t i n J f) := fun a j => by unfold clrF; split; exact Px.xor_lt (h _ _) (F.lt _ _); exact h _ _
theorem clrF_at {t i n j : Nat} {f : Tb} (hne : i ≠ t) (l : Nat) : F.clrF t i n (j + 1) f i l = if l = j then F.clrF t i n j f i j ^^^ F.mul n (F.clrF t i n j f t j) else F.clrF t i n j f i l := by
  unfold clrF
  by_cases h : l = j
  · subst h; rw [if_pos rfl, if_pos (by omega), if_neg (by omega), if_neg (by omega)]
  · rw [if_neg h]
    by_cases h2 : l < j
    · rw [if_pos (by omega), if_pos (by omega)]
    · rw [if_neg (by omega), if_neg (by omega)]
theorem sclF_at {t s j : Nat} {f : Tb} (l : Nat) : F.sclF t s (j + 1) f t l = if l = j then F.mul (F.sclF t s j f t j) s else F.sclF t s j f t l := by
  unfold sclF
  by_cases h : l = j
  · subst h; rw [if_pos rfl, if_pos (by omega), if_neg (by omega)]
  · rw [if_neg h]
    by_cases h2 : l < j
    · rw [if_pos (by omega), if_pos (by omega)]
    · rw [if_neg (by omega), if_neg (by omega)]
theorem cleF_step {t c I m : Nat} {f : Tb} (hc : c < m) (hI : I ≠ t) : ∀ a, ∀ j, j < m → F.clrF t I (F.cleF t c I f I c) m (F.cleF t c I f) a j = F.cleF t c (I + 1) f a j := by
  intro a j hj
  have e1 : F.cleF t c I f I c = f I c := by unfold cleF; rw [if_neg (by omega)]
  have e2 : F.cleF t c I f t j = f t j := by unfold cleF; rw [if_neg (by omega)]
  unfold clrF
  rw [e1, e2]
  unfold cleF
  by_cases h : a = I
  · subst h; rw [if_pos ⟨rfl, hj⟩, if_neg (by omega), if_pos ⟨by omega, hI⟩]
  · rw [if_neg (by omega)]
    by_cases h2 : a < I ∧ a ≠ t
    · rw [if_pos h2, if_pos ⟨by omega, h2.2⟩]
    · rw [if_neg h2, if_neg (by omega)]
theorem cleF_skip {t c : Nat} {f : Tb} : ∀ a j, F.cleF t c t f a j = F.cleF t c (t + 1) f a j := by
  intro a j
  unfold cleF
  by_cases h : a < t ∧ a ≠ t
  · rw [if_pos h, if_pos ⟨by omega, h.2⟩]
  · rw [if_neg h, if_neg (by omega)]
end Fld
end Go.Gam
