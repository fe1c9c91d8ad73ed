/- Texts of the claim ProfileTells (part 4), put together in the order of their imports. -/
import Derived.Test.YtkoiolamnnmokaaGreatKProfileTells3
import Derived.RangeFuncNested
import Derived.RangeFuncLeaves
import Derived.TacticsIn
import Derived.OrdersIn
/- The walks of package gf: products, powers, inverses. -/
set_option linter.unusedVariables false
set_option linter.unusedSimpArgs false
namespace Go.Proofs.YtkoiolamnnmokaaGreat
open Go Go.Gam
namespace FxFGfb
theorem en51 : Ent Tryz.prog 51 := ent Tryz.func51 (by kernel_rfl) (by kernel_rfl)
theorem en58 : Ent Tryz.prog 58 := ent Tryz.func58 (by kernel_rfl) (by kernel_rfl)
theorem en75 : Ent Tryz.prog 75 := ent Tryz.func75 (by kernel_rfl) (by kernel_rfl)
theorem en82 : Ent Tryz.prog 82 := ent Tryz.func82 (by kernel_rfl) (by kernel_rfl)
theorem en83 : Ent Tryz.prog 83 := ent Tryz.func83 (by kernel_rfl) (by kernel_rfl)
theorem en84 : Ent Tryz.prog 84 := ent Tryz.func84 (by kernel_rfl) (by kernel_rfl)
theorem en85 : Ent Tryz.prog 85 := ent Tryz.func85 (by kernel_rfl) (by kernel_rfl)
theorem en104 : Ent Tryz.prog 104 := ent Tryz.func104 (by kernel_rfl) (by kernel_rfl)
theorem fa80_0 : FieldFact Tryz.prog 80 0 0 := ff_of (sz := 2) Tryz.underlying80 (by kernel_rfl)
theorem fa80_1 : FieldFact Tryz.prog 80 1 3 := ff_of (sz := 0) Tryz.underlying80 (by kernel_rfl)
theorem fa80_2 : FieldFact Tryz.prog 80 2 4 := ff_of (sz := 0) Tryz.underlying80 (by kernel_rfl)
theorem fa82_0 : FieldFact Tryz.prog 82 0 0 := ff_of (sz := 0) Tryz.underlying82 (by kernel_rfl)
theorem fa82_1 : FieldFact Tryz.prog 82 1 1 := ff_of (sz := 0) Tryz.underlying82 (by kernel_rfl)
theorem fa82_2 : FieldFact Tryz.prog 82 2 2 := ff_of (sz := 4) Tryz.underlying82 (by kernel_rfl)
theorem hmix : Tryz.prog.follows .mixedOrders = true := by kernel_rfl
theorem sc25 : Scalar Tryz.prog 25 := ⟨_, Tryz.underlying25, by simp, by simp⟩
theorem sc3 : Scalar Tryz.prog 3 := ⟨_, Tryz.underlying3, by simp, by simp⟩
theorem sc42 : Scalar Tryz.prog 42 := ⟨_, Tryz.underlying42, by simp, by simp⟩
theorem sc53 : Scalar Tryz.prog 53 := ⟨_, Tryz.underlying53, by simp, by simp⟩
theorem sl53 : Sl Tryz.prog 53 3 (.int .i64 0) 8 := sl_of Tryz.underlying53 rfl (by kernel_rfl)
end FxFGfb
open FxFGfb
theorem Do_made_ok (B wb p k ge gl pb : Nat) (w : World) (hm : Made FDx B w k wb p ge gl) :
  Ret Tryz.prog 104 [.pointer (some ⟨k, 2, none⟩), .func (.func 105) #[] #[.pointer (some ⟨pb, 0, none⟩)]] w fun v w' => v = .tuple #[] ∧ w' = w :=
 (do_done k 2 _ w hm.c2).mono fun e w' ⟨h1, h2⟩ => ⟨_, h1, rfl, h2⟩
theorem Do_new_ok (B wb p k pb : Nat) (w : World) (hI : Inv FDx B w) (hB : B ≤ k) (hk : w.heap[k]? = some (.cells (fcells wb p 0 (.slice none 0 0) (.slice none 0 0)) FDx.T (0, 0))) (hp : Prm wb p)
  (hc : w.cell? ⟨pb, 0, none⟩ = some (.pointer (some ⟨k, 0, none⟩))) (hkb : k ≠ pb) :
  Ret Tryz.prog 104 [.pointer (some ⟨k, 2, none⟩), .func (.func 105) #[] #[.pointer (some ⟨pb, 0, none⟩)]] w fun v w' => v = .tuple #[] ∧ St FDx B w w' ∧ ∃ ge gl, Made FDx B w' k wb p ge gl := by
 have hu := setCell_heap (i := 3) (.int .i32 1) hk
 have hc' : (w.setCell ⟨k, 3, none⟩ (.int .i32 1)).cell? ⟨pb, 0, none⟩ = some (.pointer (some ⟨k, 0, none⟩)) := (cell_of_heap (a := ⟨pb, 0, none⟩) (hu.keep pb (Ne.symm hkb))).trans hc
 refine (do_first k 2 ⟨pb, 0, none⟩ w (fun w2 => ∃ g1 g2, Tst FDx (w.setCell ⟨k, 3, none⟩ (.int .i32 1)) w2 k #[.int .i64 (wb : Int), .int .u32 (p : Int), .int .u32 0, .int .i32 1, .int .u32 0, .slice (some ⟨g1, 0, none⟩) (2 ^ wb) (2 ^ wb), .slice (some ⟨g2, 0, none⟩) (2 ^ wb) (2 ^ wb)] g1 g2 (Px.expL wb p (2 ^ wb - 1)) (Px.logL wb p (2 ^ wb - 1))) ?_ ?_ ?_ ?_ ?_).mono ?_
 ·
  simp [World.cell?, hk, fcells]
 ·
  simp [World.cell?, hk, fcells]
 ·
  simp [World.frozen?, hk]
 ·
  exact Calls.mono (ready1_ok wb p k pb (.int .u32 0) (.int .i32 1) (.int .u32 0) _ hp hu.new hc' hkb) fun e w' ⟨v, h1, h2, h3⟩ => ⟨by rw [h1, h2], h3⟩
 ·
  rintro w2 ⟨g1, g2, hT⟩
  exact ⟨hT.c 2 rfl, hT.c 3 rfl, by simp [World.frozen?, hT.blk], by simp [World.frozen?, hT.blk]⟩
 ·
  rintro e w' ⟨rfl, w2, ⟨g1, g2, hT⟩, rfl⟩
  have h := hT.done hI hB hk
  exact ⟨_, rfl, rfl, h.1, g1, g2, h.2⟩
set_option maxRecDepth 100000 in
set_option maxHeartbeats 1000000 in
theorem ready_made (B wb p k ge gl : Nat) (w : World) (hI : Inv FDx B w) (hmd : Made FDx B w k wb p ge gl) : Ret Tryz.prog 84 [.pointer (some ⟨k, 0, none⟩)] w fun v w' => v = .pointer (some ⟨k, 2, none⟩) ∧ St FDx B w w' ∧ ∃ ge gl, Made FDx B w' k wb p ge gl := by
 refine enter 12 [(0, .pointer (some ⟨k, 0, none⟩))] 2 Tryz.func84 rfl rfl rfl rfl rfl ?_; intro a hF
 have hS := St.refl hI
 refine W_sr rfl fun K hK => ?_
 refine s_box (D := FDx) (B := B) hF rfl (by decide) hS.inv rfl ?_; clear hF a; intro w' a hm hbox hsz hF
 replace hmd := hm.made hmd
 replace hS := hS.mb0 hm
 clear hm
 refine svw hK hF (v_assign rfl) rfl ?_; clear hF a hK K; intro a hF
 replace hF := hF.sub _ (c_ 2 rfl (c_ 1 rfl (n_)))
 refine W_sr rfl fun K hK => ?_
 refine sv5 hF (v_load sc42 rfl (hbox.at 0 rfl)) (v_nil rfl) (v_fieldAddr fa82_2 rfl) (v_fieldAddr fa80_0 rfl) (v_mkf rfl) rfl rfl rfl rfl rfl ?_; clear hF a; intro a hF
 refine sc hF rfl rfl rfl en104 rfl (Do_made_ok B wb p k ge gl _ _ hmd) ?_; clear hF a; intro v w' a hv hF
 obtain ⟨rfl, rfl⟩ := hv
 have hS' := St.refl hS.inv
 replace hmd := hmd.st hS'
 replace hbox := hbox.st (by decide) hS'
 replace hS := hS.trans hS'
 clear hS'
 refine wn hK ?_
 clear hK K
 replace hF := hF.sub _ (c_ 2 rfl (c_ 1 rfl (n_)))
 refine W_sr rfl fun K hK => ?_
 refine sv4w hK hF (v_load sc42 rfl (hbox.at 0 rfl)) (v_nil rfl) (v_fieldAddr fa82_2 rfl) (v_assign rfl) rfl rfl rfl rfl ?_; clear hF a hK K; intro a hF
 replace hF := hF.sub _ (c_ 2 rfl (n_))
 refine W_ret ?_
 refine ⟨_, _, hF, rfl, ?_⟩
 exact ⟨rfl, hS, _, _, hmd⟩
set_option maxRecDepth 100000 in
set_option maxHeartbeats 1000000 in
theorem ready_new (B wb p k : Nat) (w : World) (hI : Inv FDx B w) (hB : B ≤ k) (hk : w.heap[k]? = some (.cells (fcells wb p 0 (.slice none 0 0) (.slice none 0 0)) FDx.T (0, 0))) (hp : Prm wb p) : Ret Tryz.prog 84 [.pointer (some ⟨k, 0, none⟩)] w fun v w' => v = .pointer (some ⟨k, 2, none⟩) ∧ St FDx B w w' ∧ ∃ ge gl, Made FDx B w' k wb p ge gl := by
 refine enter 12 [(0, .pointer (some ⟨k, 0, none⟩))] 2 Tryz.func84 rfl rfl rfl rfl rfl ?_; intro a hF
 have hS := St.refl hI
 have hlt := heap_lt hk
 refine W_sr rfl fun K hK => ?_
 refine s_box (D := FDx) (B := B) hF rfl (by decide) hS.inv rfl ?_; clear hF a; intro w' a hm hbox hsz hF
 replace hk := (hm.keep _ (heap_lt hk) (by simp)).trans hk
 replace hS := hS.mb0 hm
 clear hm
 have hkb : k ≠ w.heap.size := by omega
 generalize w.heap.size = pb at *
 refine svw hK hF (v_assign rfl) rfl ?_; clear hF a hK K; intro a hF
 replace hF := hF.sub _ (c_ 2 rfl (c_ 1 rfl (n_)))
 refine W_sr rfl fun K hK => ?_
 refine sv5 hF (v_load sc42 rfl (hbox.at 0 rfl)) (v_nil rfl) (v_fieldAddr fa82_2 rfl) (v_fieldAddr fa80_0 rfl) (v_mkf rfl) rfl rfl rfl rfl rfl ?_; clear hF a; intro a hF
 refine sc hF rfl rfl rfl en104 rfl (Do_new_ok B wb p k pb _ hS.inv hB hk hp (hbox.at 0 rfl) hkb) ?_; clear hF a; intro v w' a hv hF
 clear hk
 obtain ⟨rfl, hS', hmd⟩ := hv
 replace hbox := hbox.st (by decide) hS'
 replace hS := hS.trans hS'
 clear hS'
 refine wn hK ?_
 clear hK K
 replace hF := hF.sub _ (c_ 2 rfl (c_ 1 rfl (n_)))
 refine W_sr rfl fun K hK => ?_
 refine sv4w hK hF (v_load sc42 rfl (hbox.at 0 rfl)) (v_nil rfl) (v_fieldAddr fa82_2 rfl) (v_assign rfl) rfl rfl rfl rfl ?_; clear hF a hK K; intro a hF
 replace hF := hF.sub _ (c_ 2 rfl (n_))
 refine W_ret ?_
 refine ⟨_, _, hF, rfl, ?_⟩
 exact ⟨rfl, hS, hmd⟩
theorem ready_ok (B wb p k : Nat) (w : World) (hI : Inv FDx B w) (hf : FOK FDx B w k wb p) (hp : Prm wb p) : Ret Tryz.prog 84 [.pointer (some ⟨k, 0, none⟩)] w fun v w' => v = .pointer (some ⟨k, 2, none⟩) ∧ St FDx B w w' ∧ ∃ ge gl, Made FDx B w' k wb p ge gl := by
 rcases hf.cases with ⟨hB, hk⟩ | ⟨ge, gl, hmd⟩
 ·
  exact ready_new B wb p k w hI hB hk hp
 ·
  exact ready_made B wb p k ge gl w hI hmd
set_option maxRecDepth 100000 in
set_option maxHeartbeats 1000000 in
theorem Exp_some (B wb p k : Nat) (n : Int) (w : World) (hI : Inv FDx B w) (hf : FOK FDx B w k wb p) (hp : Prm wb p) (hn : -9223372036854775808 ≤ n ∧ n < 9223372036854775808) : Ret Tryz.prog 85 [.pointer (some ⟨k, 0, none⟩), .int .i64 n] w fun v w' => v = .int .i64 ((Px.pw p (n % ((2 ^ wb - 1 : Nat) : Int)).toNat : Int)) ∧ St FDx B w w' := by
 refine enter 25 [(0, .pointer (some ⟨k, 0, none⟩)), (1, .int .i64 n)] 4 Tryz.func85 rfl rfl rfl rfl rfl ?_; intro a hF
 have hS := St.refl hI
 have hsz := hp.size
 have horder := hp.order
 have htm := tmod_bd n (m := 2 ^ wb - 1) (by omega)
 have hidx := exp_index n (m := 2 ^ wb - 1) (by omega)
 have hi1 := Int.emod_nonneg n (show ((2 ^ wb - 1 : Nat) : Int) ≠ 0 by omega)
 have hi2 := Int.emod_lt_of_pos n (show (0 : Int) < ((2 ^ wb - 1 : Nat) : Int) by omega)
 obtain ⟨i, hi⟩ : ∃ i : Nat, n % ((2 ^ wb - 1 : Nat) : Int) = (i : Int) := ⟨(n % ((2 ^ wb - 1 : Nat) : Int)).toNat, by omega⟩
 rw [hi] at hidx
 refine W_sr rfl fun K hK => ?_
 refine svw hK hF (v_assign rfl) rfl ?_; clear hF a hK K; intro a hF
 refine W_seq ?_
 refine W_sr rfl fun K hK => ?_
 refine sv2w hK hF (v_move rfl) ((v_eqlNil (by exact Tryz.underlying42) rfl rfl).as (congrArg Value.bool (rfl))) rfl rfl ?_; clear hF a hK K; intro a hF
 replace hF := hF.sub _ (c_ 7 rfl (c_ 4 rfl (c_ 0 rfl (c_ 1 rfl (n_)))))
 refine W_ifF hF rfl ?_
 refine W_skip ?_
 refine W_sr rfl fun K hK => ?_
 refine sv hF (v_move rfl) rfl ?_; clear hF a; intro a hF
 refine sc hF rfl rfl rfl en75 rfl (Size_some k wb _ hf.w0 (by have := hp.w; omega)) ?_; clear hF a; intro v w' a hv hF
 obtain ⟨rfl, rfl⟩ := hv
 have hS' := St.refl hS.inv
 replace hf := hf.st hS'
 replace hS := hS.trans hS'
 clear hS'
 refine sv2w hK hF (v_subN (m := 2 ^ wb) (n := 1) rfl rfl (by omega) (by omega)) (v_assign rfl) rfl rfl ?_; clear hF a hK K; intro a hF
 replace hF := hF.sub _ (c_ 5 rfl (c_ 4 rfl (c_ 0 rfl (c_ 1 rfl (n_)))))
 refine W_sd (m := 15) rfl hmix hS.inv (fun K hK w1 hS' hh => ?_)
 replace hf := hf.st hS'
 replace hS := hS.trans hS'
 clear hS'
 clear hh
 refine a_v (i := 0) rfl (by kernel_rfl) hF (fun w2 hx => v_move rfl) rfl ?_; clear hF a; intro a hF
 refine a_v (i := 5) rfl (by kernel_rfl) hF (fun w2 hx => v_move rfl) rfl ?_; clear hF a; intro a hF
 refine a_v (i := 6) rfl (by kernel_rfl) hF (fun w2 hx => v_move rfl) rfl ?_; clear hF a; intro a hF
 refine a_v (i := 7) rfl (by kernel_rfl) hF (fun w2 hx => v_rem rfl rfl (by omega)) rfl ?_; clear hF a; intro a hF
 refine a_v (i := 8) rfl (by kernel_rfl) hF (fun w2 hx => v_move rfl) rfl ?_; clear hF a; intro a hF
 refine a_v (i := 9) rfl (by kernel_rfl) hF (fun w2 hx => v_addI rfl rfl (by omega)) rfl ?_; clear hF a; intro a hF
 refine a_v (i := 10) rfl (by kernel_rfl) hF (fun w2 hx => v_move rfl) rfl ?_; clear hF a; intro a hF
 refine a_v (i := 11) rfl (by kernel_rfl) hF (fun w2 hx => (v_remI rfl rfl (by omega) (by omega)).as (congrArg _ hidx)) rfl ?_; clear hF a; intro a hF
 refine a_e (i := 1) rfl (by kernel_rfl) ?_
 refine sc hF rfl rfl rfl en84 rfl (ready_ok B wb p k _ hS.inv hf hp) ?_; clear hF a; intro v w' a hv hF
 obtain ⟨rfl, hS', ge, gl, hmd⟩ := hv
 refine WL_nil ⟨hS'.ext, ?_⟩
 replace hS := hS.trans hS'
 clear hS'
 refine a_v (i := 2) rfl (by kernel_rfl) hF (fun w2 hx => v_nil rfl) rfl ?_; clear hF a; intro a hF
 refine a_v (i := 3) rfl (by kernel_rfl) hF (fun w2 hx => v_fieldAddr fa80_1 rfl) rfl ?_; clear hF a; intro a hF
 refine a_v (i := 4) rfl (by kernel_rfl) hF (fun w2 hx => v_load sc53 rfl (hx.made _ _ _ _ _ hmd).c5) rfl ?_; clear hF a; intro a hF
 refine a_v (i := 12) rfl (by kernel_rfl) hF (fun w2 hx => v_ixS sl53 rfl rfl (by omega) (by omega)) rfl ?_; clear hF a; intro a hF
 refine a_v (i := 13) rfl (by kernel_rfl) hF (fun w2 hx => v_load sc3 rfl (by rw [toNat_c, Nat.zero_add]; exact (hx.made _ _ _ _ _ hmd).exp (by omega))) rfl ?_; clear hF a; intro a hF
 refine a_v (i := 14) rfl (by kernel_rfl) hF (fun w2 hx => v_assign rfl) rfl ?_; clear hF a; intro a hF
 refine a_done (by kernel_rfl) (hK _ _ ?_)
 clear hK K
 replace hF := hF.sub _ (c_ 4 rfl (n_))
 refine W_ret ?_
 refine ⟨_, _, hF, rfl, ?_⟩
 exact ⟨by rw [hi]; rfl, hS⟩
set_option maxRecDepth 100000 in
set_option maxHeartbeats 1000000 in
theorem Mul_gf (B : Nat) (o : Fq) (fv : Value) (ia ib : Int) (w : World) (hI : Inv FDx B w) (hf : Fo FDx B w fv o) : Ret Tryz.prog 51 [fv, .int .i64 ia, .int .i64 ib] w fun v w' => v = .int .i64 (gmul o ia ib) ∧ St FDx B w w' := by
 refine enter 58 [(0, fv), (1, .int .i64 ia), (2, .int .i64 ib)] 6 Tryz.func51 rfl rfl rfl rfl rfl ?_; intro a hF
 have hS := St.refl hI
 refine W_sr rfl fun K hK => ?_
 refine svw hK hF (v_assign rfl) rfl ?_; clear hF a hK K; intro a hF
 refine W_seq ?_
 refine W_block ?_
 refine W_sr rfl fun K hK => ?_
 refine sv3 hF (v_move rfl) (v_move rfl) (v_move rfl) rfl rfl rfl ?_; clear hF a; intro a hF
 refine s_bs (D := FDx) (B := B) hF sl53 rfl rfl (by decide) (by simp [Value.cells]) (by decide) hS.inv rfl ?_; clear hF a; intro w' a hm hI' hb hF
 replace hf := hf.mb hm
 replace hS := hS.mb0 hm
 clear hm hI'
 refine sc hF rfl rfl rfl en82 rfl (in_ok B o fv (some ⟨_, 0, none⟩) 2 [ia, ib] _ hS.inv hf (by simp) (own_in (D := FDx) (B := B) (zs := [ia, ib]) hb (by decide))) ?_; clear hF a; intro v w' a hv hF
 clear hb
 obtain ⟨rfl, rfl⟩ := hv
 have hS' := St.refl hS.inv
 replace hf := hf.st hS'
 replace hS := hS.trans hS'
 clear hS'
 refine sb hF (v_not rfl) rfl ?_ ?_
 ·
  clear hF a; intro hc1 a hF
  try simp only [dcl] at hc1
  refine sv hF (v_move rfl) rfl ?_; clear hF a; intro a hF
  refine svn2 hF rfl rfl rfl rfl rfl rfl ?_; clear hF a; intro a hF
  refine sv2 hF (v_pickT rfl rfl) (v_move rfl) rfl rfl ?_; clear hF a; intro a hF
  refine svn2 hF rfl rfl rfl rfl rfl rfl ?_; clear hF a; intro a hF
  refine sv2w hK hF (v_pickT rfl rfl) (v_assign rfl) rfl rfl ?_; clear hF a hK K; intro a hF
  replace hF := hF.sub _ (c_ 8 rfl (c_ 6 rfl (c_ 0 rfl (c_ 1 rfl (c_ 2 rfl (n_))))))
  refine W_ifT hF rfl ?_
  refine W_sr rfl fun K hK => ?_
  refine svw hK hF (v_assign rfl) rfl ?_; clear hF a hK K; intro a hF
  replace hF := hF.sub _ (c_ 6 rfl (c_ 0 rfl (c_ 1 rfl (c_ 2 rfl (n_)))))
  refine W_ret ?_
  refine ⟨_, _, hF, rfl, ?_⟩
  first
   | exact ⟨by rw [gmul_out hc1], hS⟩
   | (subst_vars; exact ⟨by rw [gmul_zl], hS⟩)
   | (subst_vars; exact ⟨by rw [gmul_zr], hS⟩)
   | exact ⟨by rw [gmul_in hx hy, hp.pw_sum ei ej], hS⟩
   | exact ⟨by rw [gmul_in hx hy], hS⟩
 ·
  clear hF a; intro hc1 a hF
  try simp only [dcl] at hc1
  refine sv hF (v_move rfl) rfl ?_; clear hF a; intro a hF
  refine svg hF rfl ?_
  refine sv hF (v_move rfl) rfl ?_; clear hF a; intro a hF
  refine svg hF rfl ?_
  refine sb hF (v_eql rfl rfl) rfl ?_ ?_
  ·
   clear hF a; intro hc2 a hF
   try simp only [dcl] at hc2
   refine sv2 hF (v_pickF rfl rfl) (v_move rfl) rfl rfl ?_; clear hF a; intro a hF
   refine svn2 hF rfl rfl rfl rfl rfl rfl ?_; clear hF a; intro a hF
   refine sv2w hK hF (v_pickT rfl rfl) (v_assign rfl) rfl rfl ?_; clear hF a hK K; intro a hF
   replace hF := hF.sub _ (c_ 8 rfl (c_ 6 rfl (c_ 0 rfl (c_ 1 rfl (c_ 2 rfl (n_))))))
   refine W_ifT hF rfl ?_
   refine W_sr rfl fun K hK => ?_
   refine svw hK hF (v_assign rfl) rfl ?_; clear hF a hK K; intro a hF
   replace hF := hF.sub _ (c_ 6 rfl (c_ 0 rfl (c_ 1 rfl (c_ 2 rfl (n_)))))
   refine W_ret ?_
   refine ⟨_, _, hF, rfl, ?_⟩
   first
    | exact ⟨by rw [gmul_out hc1], hS⟩
    | (subst_vars; exact ⟨by rw [gmul_zl], hS⟩)
    | (subst_vars; exact ⟨by rw [gmul_zr], hS⟩)
    | exact ⟨by rw [gmul_in hx hy, hp.pw_sum ei ej], hS⟩
    | exact ⟨by rw [gmul_in hx hy], hS⟩
  ·
   clear hF a; intro hc2 a hF
   try simp only [dcl] at hc2
   refine sv2 hF (v_pickF rfl rfl) (v_move rfl) rfl rfl ?_; clear hF a; intro a hF
   refine svg hF rfl ?_
   refine sv hF (v_move rfl) rfl ?_; clear hF a; intro a hF
   refine svg hF rfl ?_
   refine sv3w hK hF (v_eql rfl rfl) (v_pickF rfl rfl) (v_assign rfl) rfl rfl rfl ?_; clear hF a hK K; intro a hF
   replace hF := hF.sub _ (c_ 8 rfl (c_ 6 rfl (c_ 0 rfl (c_ 1 rfl (c_ 2 rfl (n_))))))
   refine W_if hF rfl (fun hc3 => ?_) (fun hc3 => ?_)
   ·
    skip
    try simp only [dcl] at hc3
    refine W_sr rfl fun K hK => ?_
    refine svw hK hF (v_assign rfl) rfl ?_; clear hF a hK K; intro a hF
    replace hF := hF.sub _ (c_ 6 rfl (c_ 0 rfl (c_ 1 rfl (c_ 2 rfl (n_)))))
    refine W_ret ?_
    refine ⟨_, _, hF, rfl, ?_⟩
    first
     | exact ⟨by rw [gmul_out hc1], hS⟩
     | (subst_vars; exact ⟨by rw [gmul_zl], hS⟩)
     | (subst_vars; exact ⟨by rw [gmul_zr], hS⟩)
     | exact ⟨by rw [gmul_in hx hy, hp.pw_sum ei ej], hS⟩
     | exact ⟨by rw [gmul_in hx hy], hS⟩
   ·
    skip
    try simp only [dcl] at hc3
    rw [all2, Bool.and_eq_true] at hc1
    obtain ⟨hin, hinb⟩ := hc1
    obtain ⟨wb, p, k, rfl, rfl, hp, hfk⟩ := fo_some hf (a := ia) hin
    obtain ⟨x, rfl, hx⟩ := inF_nat hin
    obtain ⟨y, rfl, hy⟩ := inF_nat hinb
    have hsz := hp.size
    have hml := hp.mulMod_lt x y
    have hplt := hp.lt
    refine W_sr rfl fun K hK => ?_
    refine sv6w hK hF (v_move rfl) (v_nil rfl) (v_fieldAddr fa82_0 rfl) (v_load sc3 rfl hfk.w0) (v_eql rfl rfl) (v_assign rfl) rfl rfl rfl rfl rfl rfl ?_; clear hF a hK K; intro a hF
    replace hF := hF.sub _ (c_ 23 rfl (c_ 6 rfl (c_ 0 rfl (c_ 1 rfl (c_ 2 rfl (n_))))))
    refine W_if hF rfl (fun hc4 => ?_) (fun hc4 => ?_)
    ·
     skip
     try simp only [dcl] at hc4
     refine W_sr rfl fun K hK => ?_
     refine sv6 hF (v_move rfl) (v_cv Tryz.underlying3 Tryz.underlying25 rfl (wrap_u32 _ (by omega))) (v_move rfl) (v_cv Tryz.underlying3 Tryz.underlying25 rfl (wrap_u32 _ (by omega))) (v_move rfl) (v_nil rfl) rfl rfl rfl rfl rfl rfl ?_; clear hF a; intro a hF
     refine sv2 hF (v_fieldAddr fa82_1 rfl) (v_load sc25 rfl hfk.p0) rfl rfl ?_; clear hF a; intro a hF
     refine sc hF rfl rfl rfl en83 rfl (MulMod_ok B x y p _ hS.inv (by omega) (by omega) (by omega)) ?_; clear hF a; intro v w' a hv hF
     obtain ⟨rfl, hS'⟩ := hv
     replace hS := hS.trans hS'
     clear hS'
     refine sv2w hK hF (v_cv Tryz.underlying25 Tryz.underlying3 rfl (wrap_i64 _ (by omega))) (v_assign rfl) rfl rfl ?_; clear hF a hK K; intro a hF
     replace hF := hF.sub _ (c_ 6 rfl (c_ 0 rfl (c_ 1 rfl (c_ 2 rfl (n_)))))
     refine W_ret ?_
     refine ⟨_, _, hF, rfl, ?_⟩
     first
      | exact ⟨by rw [gmul_out hc1], hS⟩
      | (subst_vars; exact ⟨by rw [gmul_zl], hS⟩)
      | (subst_vars; exact ⟨by rw [gmul_zr], hS⟩)
      | exact ⟨by rw [gmul_in hx hy, hp.pw_sum ei ej], hS⟩
      | exact ⟨by rw [gmul_in hx hy], hS⟩
    ·
     skip
     try simp only [dcl] at hc4
     refine W_skip ?_
     refine W_sr rfl fun K hK => ?_
     refine sv hF (v_move rfl) rfl ?_; clear hF a; intro a hF
     refine sc hF rfl rfl rfl en84 rfl (ready_ok B wb p k _ hS.inv hfk hp) ?_; clear hF a; intro v w' a hv hF
     obtain ⟨rfl, hS', ge, gl, hmd⟩ := hv
     replace hS := hS.trans hS'
     clear hS'
     refine svw hK hF (v_assign rfl) rfl ?_; clear hF a hK K; intro a hF
     replace hF := hF.sub _ (c_ 7 rfl (c_ 40 rfl (c_ 39 rfl (c_ 6 rfl (c_ 0 rfl (c_ 1 rfl (c_ 2 rfl (n_))))))))
     obtain ⟨i, hi, ei, li⟩ := hp.log_of hx (by omega)
     obtain ⟨j, hj, ej, lj⟩ := hp.log_of hy (by omega)
     refine W_sd (m := 18) rfl hmix hS.inv (fun K hK w1 hS' hh => ?_)
     replace hmd := hmd.st hS'
     replace hS := hS.trans hS'
     clear hS'
     clear hh
     refine a_v (i := 0) rfl (by kernel_rfl) hF (fun w2 hx => v_move rfl) rfl ?_; clear hF a; intro a hF
     refine a_v (i := 1) rfl (by kernel_rfl) hF (fun w2 hx => v_move rfl) rfl ?_; clear hF a; intro a hF
     refine a_v (i := 2) rfl (by kernel_rfl) hF (fun w2 hx => v_nil rfl) rfl ?_; clear hF a; intro a hF
     refine a_v (i := 3) rfl (by kernel_rfl) hF (fun w2 hx => v_fieldAddr fa80_2 rfl) rfl ?_; clear hF a; intro a hF
     refine a_v (i := 4) rfl (by kernel_rfl) hF (fun w2 hx => v_load sc53 rfl (hx.made _ _ _ _ _ hmd).c6) rfl ?_; clear hF a; intro a hF
     refine a_v (i := 5) rfl (by kernel_rfl) hF (fun w2 hx => v_move rfl) rfl ?_; clear hF a; intro a hF
     refine a_v (i := 6) rfl (by kernel_rfl) hF (fun w2 hx => v_ixS sl53 rfl rfl (by omega) (by omega)) rfl ?_; clear hF a; intro a hF
     refine a_v (i := 7) rfl (by kernel_rfl) hF (fun w2 hx => v_load sc3 rfl (by rw [toNat_c, Nat.zero_add]; exact (hx.made _ _ _ _ _ hmd).log li)) rfl ?_; clear hF a; intro a hF
     refine a_v (i := 8) rfl (by kernel_rfl) hF (fun w2 hx => v_move rfl) rfl ?_; clear hF a; intro a hF
     refine a_v (i := 9) rfl (by kernel_rfl) hF (fun w2 hx => v_nil rfl) rfl ?_; clear hF a; intro a hF
     refine a_v (i := 10) rfl (by kernel_rfl) hF (fun w2 hx => v_fieldAddr fa80_2 rfl) rfl ?_; clear hF a; intro a hF
     refine a_v (i := 11) rfl (by kernel_rfl) hF (fun w2 hx => v_load sc53 rfl (hx.made _ _ _ _ _ hmd).c6) rfl ?_; clear hF a; intro a hF
     refine a_v (i := 12) rfl (by kernel_rfl) hF (fun w2 hx => v_move rfl) rfl ?_; clear hF a; intro a hF
     refine a_v (i := 13) rfl (by kernel_rfl) hF (fun w2 hx => v_ixS sl53 rfl rfl (by omega) (by omega)) rfl ?_; clear hF a; intro a hF
     refine a_v (i := 14) rfl (by kernel_rfl) hF (fun w2 hx => v_load sc3 rfl (by rw [toNat_c, Nat.zero_add]; exact (hx.made _ _ _ _ _ hmd).log lj)) rfl ?_; clear hF a; intro a hF
     refine a_v (i := 15) rfl (by kernel_rfl) hF (fun w2 hx => v_addI rfl rfl (by omega)) rfl ?_; clear hF a; intro a hF
     refine a_e (i := 16) rfl (by kernel_rfl) ?_
     refine sc hF rfl rfl rfl en85 rfl (Exp_some B wb p k ((i : Int) + (j : Int)) _ hS.inv hmd.fok hp (by omega)) ?_; clear hF a; intro v w' a hv hF
     obtain ⟨rfl, hS'⟩ := hv
     refine WL_nil ⟨hS'.ext, ?_⟩
     replace hmd := hmd.st hS'
     replace hS := hS.trans hS'
     clear hS'
     refine a_v (i := 17) rfl (by kernel_rfl) hF (fun w2 hx => v_assign rfl) rfl ?_; clear hF a; intro a hF
     refine a_done (by kernel_rfl) (hK _ _ ?_)
     clear hK K
     refine W_ret ?_
     refine ⟨_, _, hF, rfl, ?_⟩
     first
      | exact ⟨by rw [gmul_out hc1], hS⟩
      | (subst_vars; exact ⟨by rw [gmul_zl], hS⟩)
      | (subst_vars; exact ⟨by rw [gmul_zr], hS⟩)
      | exact ⟨by rw [gmul_in hx hy, hp.pw_sum ei ej], hS⟩
      | exact ⟨by rw [gmul_in hx hy], hS⟩
theorem powB_prm {wb p X n : Nat} (hp : Prm wb p) : powB X p 1 n = Px.pow X p n := by rw [← hp.mod1, powB_one]
set_option maxRecDepth 100000 in
set_option maxHeartbeats 1000000 in
theorem Pow_gf (B : Nat) (o : Fq) (fv : Value) (ia n : Int) (w : World) (hI : Inv FDx B w) (hf : Fo FDx B w fv o) (hn : -9223372036854775808 ≤ n ∧ n < 9223372036854775808) : Ret Tryz.prog 58 [fv, .int .i64 ia, .int .i64 n] w fun v w' => v = .int .i64 (gpow o ia n) ∧ St FDx B w w' := by
 refine enter 33 [(0, fv), (1, .int .i64 ia), (2, .int .i64 n)] 6 Tryz.func58 rfl rfl rfl rfl rfl ?_; intro a hF
 have hS := St.refl hI
 refine W_sr rfl fun K hK => ?_
 refine svw hK hF (v_assign rfl) rfl ?_; clear hF a hK K; intro a hF
 refine W_seq ?_
 refine W_sr rfl fun K hK => ?_
 refine sv2 hF (v_move rfl) (v_move rfl) rfl rfl ?_; clear hF a; intro a hF
 refine s_bs (D := FDx) (B := B) hF sl53 rfl rfl (by decide) (by simp [Value.cells]) (by decide) hS.inv rfl ?_; clear hF a; intro w' a hm hI' hb hF
 replace hf := hf.mb hm
 replace hS := hS.mb0 hm
 clear hm hI'
 refine sc hF rfl rfl rfl en82 rfl (in_ok B o fv (some ⟨_, 0, none⟩) 1 [ia] _ hS.inv hf (by simp) (own_in (D := FDx) (B := B) (zs := [ia]) hb (by decide))) ?_; clear hF a; intro v w' a hv hF
 clear hb
 obtain ⟨rfl, rfl⟩ := hv
 have hS' := St.refl hS.inv
 replace hf := hf.st hS'
 replace hS := hS.trans hS'
 clear hS'
 refine sb hF (v_not rfl) rfl ?_ ?_
 ·
  clear hF a; intro hc1 a hF
  try simp only [dcl] at hc1
  refine sv hF (v_move rfl) rfl ?_; clear hF a; intro a hF
  refine svn2 hF rfl rfl rfl rfl rfl rfl ?_; clear hF a; intro a hF
  refine svw hK hF (v_pickT rfl rfl) rfl ?_; clear hF a hK K; intro a hF
  replace hF := hF.sub _ (c_ 16 rfl (c_ 6 rfl (c_ 0 rfl (c_ 1 rfl (c_ 2 rfl (n_))))))
  refine W_ifT hF rfl ?_
  refine W_sr rfl fun K hK => ?_
  refine svw hK hF (v_assign rfl) rfl ?_; clear hF a hK K; intro a hF
  replace hF := hF.sub _ (c_ 6 rfl (c_ 0 rfl (c_ 1 rfl (c_ 2 rfl (n_)))))
  refine W_ret ?_
  refine ⟨_, _, hF, rfl, ?_⟩
  rw [all1] at hc1
  exact ⟨by rw [gpow_out (.inl hc1)], hS⟩
 ·
  clear hF a; intro hc1 a hF
  try simp only [dcl] at hc1
  refine sv hF (v_move rfl) rfl ?_; clear hF a; intro a hF
  refine svg hF rfl ?_
  refine sv hF (v_move rfl) rfl ?_; clear hF a; intro a hF
  refine svg hF rfl ?_
  refine sv2w hK hF (v_lss rfl rfl) (v_pickF rfl rfl) rfl rfl ?_; clear hF a hK K; intro a hF
  replace hF := hF.sub _ (c_ 16 rfl (c_ 6 rfl (c_ 0 rfl (c_ 1 rfl (c_ 2 rfl (n_))))))
  refine W_if hF rfl (fun hc2 => ?_) (fun hc2 => ?_)
  ·
   skip
   try simp only [dcl] at hc2
   refine W_sr rfl fun K hK => ?_
   refine svw hK hF (v_assign rfl) rfl ?_; clear hF a hK K; intro a hF
   replace hF := hF.sub _ (c_ 6 rfl (c_ 0 rfl (c_ 1 rfl (c_ 2 rfl (n_)))))
   refine W_ret ?_
   refine ⟨_, _, hF, rfl, ?_⟩
   exact ⟨by rw [gpow_out (.inr (by omega))], hS⟩
  ·
   skip
   try simp only [dcl] at hc2
   refine W_skip ?_
   rw [all1] at hc1
   have hin := hc1
   obtain ⟨wb, p, k, rfl, rfl, hp, hfk⟩ := fo_some hf (a := ia) hin
   obtain ⟨x0, rfl, hx0⟩ := inF_nat hin
   obtain ⟨n0, rfl⟩ : ∃ n0 : Nat, n = (n0 : Int) := ⟨n.toNat, by omega⟩
   have hsz := hp.size
   refine W_sr rfl fun K hK => ?_
   refine svw hK hF (v_assign rfl) rfl ?_; clear hF a hK K; intro a hF
   replace hF := hF.sub _ (c_ 7 rfl (c_ 6 rfl (c_ 0 rfl (c_ 1 rfl (c_ 2 rfl (n_))))))
   refine W_seq ?_
   refine W_block ?_
   refine W_loop (fun m a w1 => ∃ x q : Nat, Fr 33 [(0, .pointer (some ⟨k, 0, none⟩)), (1, .int .i64 (x : Int)), (2, .int .i64 (m : Int)), (7, .int .i64 (q : Int))] a ∧ St FDx B w w1 ∧ Fo FDx B w1 (.pointer (some ⟨k, 0, none⟩)) (some (wb, p)) ∧ powB x p q m = powB x0 p 1 n0 ∧ x < 2 ^ wb ∧ q < 2 ^ wb ∧ m < 9223372036854775808) (n0) ?_ ?_
   ·
    skip
    exact ⟨_, 1, hF.sub _ (c_ 0 rfl (c_ 1 rfl (c_ 2 rfl (c_ 7 rfl n_)))), hS, hf, rfl, hx0, by omega, by omega⟩
   ·
    skip
    clear hF
    clear hS hf hfk
    rintro m a w1 ⟨x, q, hF, hS, hf, hg, hx, hq, hm⟩
    refine W_seq ?_
    refine W_sr rfl fun K hK => ?_
    refine sv2w hK hF (v_move rfl) (v_gtr rfl rfl) rfl rfl ?_; clear hF a hK K; intro a hF
    replace hF := hF.sub _ (c_ 18 rfl (c_ 0 rfl (c_ 1 rfl (c_ 2 rfl (c_ 7 rfl (n_))))))
    refine W_if hF rfl (fun hc3 => ?_) (fun hc3 => ?_)
    ·
     skip
     try simp only [dcl] at hc3
     refine W_skip ?_
     refine W_seq ?_
     refine W_block ?_
     refine W_seq ?_
     refine W_sr rfl fun K hK => ?_
     refine sv3w hK hF (v_move rfl) (v_andN (n := 1) rfl rfl (fits_i64 hm) (fits_i64 (by decide))) (v_eql rfl rfl) rfl rfl rfl ?_; clear hF a hK K; intro a hF
     replace hF := hF.sub _ (c_ 23 rfl (c_ 0 rfl (c_ 1 rfl (c_ 2 rfl (c_ 7 rfl (n_))))))
     refine W_if hF rfl (fun hc4 => ?_) (fun hc4 => ?_)
     ·
      skip
      try simp only [dcl] at hc4
      rw [Nat.and_one_is_mod] at hc4
      rw [powB_odd x p q (by omega)] at hg
      have hml := hp.mulMod_lt q x
      refine W_reg rfl fun K hK => ?_
      refine sv3 hF (v_move rfl) (v_move rfl) (v_move rfl) rfl rfl rfl ?_; clear hF a; intro a hF
      refine sc hF rfl rfl rfl en51 rfl (Mul_gf B (some (wb, p)) _ q x _ hS.inv hf) ?_; clear hF a; intro v w' a hv hF
      obtain ⟨rfl, hS'⟩ := hv
      replace hf := hf.st hS'
      replace hS := hS.trans hS'
      clear hS'
      rw [gmul_in hq hx] at hF
      refine svw hK hF (v_assign rfl) rfl ?_; clear hF a hK K; intro a hF
      replace hF := hF.sub _ (c_ 7 rfl (c_ 0 rfl (c_ 1 rfl (c_ 2 rfl (n_)))))
      refine W_reg rfl fun K hK => ?_
      refine sv3 hF (v_move rfl) (v_move rfl) (v_move rfl) rfl rfl rfl ?_; clear hF a; intro a hF
      refine sc hF rfl rfl rfl en51 rfl (Mul_gf B (some (wb, p)) _ x x _ hS.inv hf) ?_; clear hF a; intro v w' a hv hF
      obtain ⟨rfl, hS'⟩ := hv
      replace hf := hf.st hS'
      replace hS := hS.trans hS'
      clear hS'
      rw [gmul_in hx hx] at hF
      refine svw hK hF (v_assign rfl) rfl ?_; clear hF a hK K; intro a hF
      replace hF := hF.sub _ (c_ 1 rfl (c_ 7 rfl (c_ 0 rfl (c_ 2 rfl (n_)))))
      refine W_reg rfl fun K hK => ?_
      refine sv3w hK hF (v_move rfl) (v_shrN (m := m) rfl rfl (by decide)) (v_assign rfl) rfl rfl rfl ?_; clear hF a hK K; intro a hF
      exact ⟨m / 2, by omega, _, _, hF.sub _ (c_ 0 rfl (c_ 1 rfl (c_ 2 rfl (c_ 7 rfl n_)))), hS, hf, hg, hp.mulMod_lt _ _, by first | exact hml | exact hq, by omega⟩
     ·
      skip
      try simp only [dcl] at hc4
      rw [Nat.and_one_is_mod] at hc4
      rw [powB_even x p q (by omega) (by omega)] at hg
      refine W_skip ?_
      refine W_reg rfl fun K hK => ?_
      refine sv3 hF (v_move rfl) (v_move rfl) (v_move rfl) rfl rfl rfl ?_; clear hF a; intro a hF
      refine sc hF rfl rfl rfl en51 rfl (Mul_gf B (some (wb, p)) _ x x _ hS.inv hf) ?_; clear hF a; intro v w' a hv hF
      obtain ⟨rfl, hS'⟩ := hv
      replace hf := hf.st hS'
      replace hS := hS.trans hS'
      clear hS'
      rw [gmul_in hx hx] at hF
      refine svw hK hF (v_assign rfl) rfl ?_; clear hF a hK K; intro a hF
      replace hF := hF.sub _ (c_ 1 rfl (c_ 0 rfl (c_ 2 rfl (c_ 7 rfl (n_)))))
      refine W_reg rfl fun K hK => ?_
      refine sv3w hK hF (v_move rfl) (v_shrN (m := m) rfl rfl (by decide)) (v_assign rfl) rfl rfl rfl ?_; clear hF a hK K; intro a hF
      exact ⟨m / 2, by omega, _, _, hF.sub _ (c_ 0 rfl (c_ 1 rfl (c_ 2 rfl (c_ 7 rfl n_)))), hS, hf, hg, hp.mulMod_lt _ _, by first | exact hml | exact hq, by omega⟩
    ·
     skip
     try simp only [dcl] at hc3
     obtain rfl : m = 0 := by omega
     rw [powB_zero] at hg
     refine W_exit rfl ?_
     refine W_sr rfl fun K hK => ?_
     refine sv2w hK hF (v_move rfl) (v_assign rfl) rfl rfl ?_; clear hF a hK K; intro a hF
     replace hF := hF.sub _ (c_ 6 rfl (c_ 32 rfl (c_ 0 rfl (c_ 1 rfl (c_ 2 rfl (c_ 7 rfl (n_)))))))
     refine W_ret ?_
     refine ⟨_, _, hF, rfl, ?_⟩
     exact ⟨by rw [gpow_in hx0, hg, powB_prm hp], hS⟩
set_option maxRecDepth 100000 in
set_option maxHeartbeats 1000000 in
theorem Inv_gf (B : Nat) (o : Fq) (fv : Value) (ia : Int) (w : World) (hI : Inv FDx B w) (hf : Fo FDx B w fv o) : Ret Tryz.prog 49 [fv, .int .i64 ia] w fun v w' => v = .tuple #[.int .i64 (ginv o ia), .bool (ginvb o ia)] ∧ St FDx B w w' := by
 refine enter2 21 [(0, fv), (1, .int .i64 ia)] 4 5 Tryz.func49 rfl rfl rfl rfl rfl ?_; intro a hF
 have hS := St.refl hI
 refine W_sr rfl fun K hK => ?_
 refine sv2w hK hF (v_assign rfl) (v_assign rfl) rfl rfl ?_; clear hF a hK K; intro a hF
 refine W_seq ?_
 refine W_sr rfl fun K hK => ?_
 refine sv2 hF (v_move rfl) (v_move rfl) rfl rfl ?_; clear hF a; intro a hF
 refine s_bs (D := FDx) (B := B) hF sl53 rfl rfl (by decide) (by simp [Value.cells]) (by decide) hS.inv rfl ?_; clear hF a; intro w' a hm hI' hb hF
 replace hf := hf.mb hm
 replace hS := hS.mb0 hm
 clear hm hI'
 refine sc hF rfl rfl rfl en82 rfl (in_ok B o fv (some ⟨_, 0, none⟩) 1 [ia] _ hS.inv hf (by simp) (own_in (D := FDx) (B := B) (zs := [ia]) hb (by decide))) ?_; clear hF a; intro v w' a hv hF
 clear hb
 obtain ⟨rfl, rfl⟩ := hv
 have hS' := St.refl hS.inv
 replace hf := hf.st hS'
 replace hS := hS.trans hS'
 clear hS'
 refine sb hF (v_not rfl) rfl ?_ ?_
 ·
  clear hF a; intro hc1 a hF
  try simp only [dcl] at hc1
  refine sv hF (v_move rfl) rfl ?_; clear hF a; intro a hF
  refine svn2 hF rfl rfl rfl rfl rfl rfl ?_; clear hF a; intro a hF
  refine svw hK hF (v_pickT rfl rfl) rfl ?_; clear hF a hK K; intro a hF
  replace hF := hF.sub _ (c_ 14 rfl (c_ 5 rfl (c_ 4 rfl (c_ 0 rfl (c_ 1 rfl (n_))))))
  refine W_ifT hF rfl ?_
  refine W_sr rfl fun K hK => ?_
  refine sv2w hK hF (v_assign rfl) (v_assign rfl) rfl rfl ?_; clear hF a hK K; intro a hF
  replace hF := hF.sub _ (c_ 5 rfl (c_ 4 rfl (c_ 0 rfl (c_ 1 rfl (n_)))))
  refine W_ret ?_
  refine ⟨_, _, _, hF, rfl, rfl, ?_⟩
  rw [all1] at hc1
  exact ⟨by rw [ginv_out (.inl hc1), ginvb_out (.inl hc1)], hS⟩
 ·
  clear hF a; intro hc1 a hF
  try simp only [dcl] at hc1
  refine sv hF (v_move rfl) rfl ?_; clear hF a; intro a hF
  refine svg hF rfl ?_
  refine sv hF (v_move rfl) rfl ?_; clear hF a; intro a hF
  refine svg hF rfl ?_
  refine sv2w hK hF (v_eql rfl rfl) (v_pickF rfl rfl) rfl rfl ?_; clear hF a hK K; intro a hF
  replace hF := hF.sub _ (c_ 14 rfl (c_ 5 rfl (c_ 4 rfl (c_ 0 rfl (c_ 1 rfl (n_))))))
  refine W_if hF rfl (fun hc2 => ?_) (fun hc2 => ?_)
  ·
   skip
   try simp only [dcl] at hc2
   refine W_sr rfl fun K hK => ?_
   refine sv2w hK hF (v_assign rfl) (v_assign rfl) rfl rfl ?_; clear hF a hK K; intro a hF
   replace hF := hF.sub _ (c_ 5 rfl (c_ 4 rfl (c_ 0 rfl (c_ 1 rfl (n_)))))
   refine W_ret ?_
   refine ⟨_, _, _, hF, rfl, rfl, ?_⟩
   exact ⟨by rw [ginv_out (.inr (by omega)), ginvb_out (.inr (by omega))], hS⟩
  ·
   skip
   try simp only [dcl] at hc2
   refine W_skip ?_
   rw [all1] at hc1
   have hsz := fsz_le hf
   refine W_sr rfl fun K hK => ?_
   refine sv3 hF (v_move rfl) (v_move rfl) (v_move rfl) rfl rfl rfl ?_; clear hF a; intro a hF
   refine sc hF rfl rfl rfl en75 rfl (Size_ok B o fv _ hf) ?_; clear hF a; intro v w' a hv hF
   obtain ⟨rfl, rfl⟩ := hv
   have hS' := St.refl hS.inv
   replace hf := hf.st hS'
   replace hS := hS.trans hS'
   clear hS'
   refine sv hF (v_subI rfl rfl (by omega)) rfl ?_; clear hF a; intro a hF
   refine sc hF rfl rfl rfl en58 rfl (Pow_gf B o fv ia ((fsz o : Int) - 2) _ hS.inv hf (by omega)) ?_; clear hF a; intro v w' a hv hF
   obtain ⟨rfl, hS'⟩ := hv
   replace hf := hf.st hS'
   replace hS := hS.trans hS'
   clear hS'
   refine sv2w hK hF (v_assign rfl) (v_assign rfl) rfl rfl ?_; clear hF a hK K; intro a hF
   replace hF := hF.sub _ (c_ 5 rfl (c_ 4 rfl (n_)))
   refine W_ret ?_
   refine ⟨_, _, _, hF, rfl, rfl, ?_⟩
   exact ⟨by rw [ginv_in hc1 (by omega), ginvb_in hc1 (by omega)], hS⟩
end Go.Proofs.YtkoiolamnnmokaaGreat

/- Ranges over functions: what a round may turn, an iterator's contract, the statement's rule, a function's end with marks. No program in sight. -/
namespace Go.Gam
open Go
/-! ### weaker steps -/
def isC (o : Obj) : Prop := ∃ c e fr, o = .cells c e fr
theorem notT_nc {D : FD} {w : World} {k : Nat} {o : Obj} (h : w.heap[k]? = some o) (ho : o.isCells = false) : notT D w k := by
  intro c fr e
  rw [h] at e
  obtain rfl := Option.some.inj e
  cases ho
structure Xt (D : FD) (B n : Nat) (w w' : World) : Prop where
  os : w'.os = w.os
  tape : w'.tape = w.tape
  output : w'.output = w.output
  size : w.heap.size ≤ w'.heap.size
  keep : ∀ k, k < w.heap.size → (k < n ∨ ∃ c e fr, w.heap[k]? = some (.cells c e fr)) → (k < B ∨ notT D w k) → w'.heap[k]? = w.heap[k]?
  fld : ∀ k wb p, FOK D B w k wb p → FOK D B w' k wb p
  priv : ∀ b, b < w.heap.size → Priv D B w b → Priv D B w' b
  made : ∀ k wb p ge gl, Made D B w k wb p ge gl → Made D B w' k wb p ge gl
  inv : Inv D B w'
theorem St.xt {D : FD} {B n : Nat} {w w' : World} (h : St D B w w') : Xt D B n w w' :=
  ⟨h.ext.os, h.ext.tape, h.ext.output, h.ext.size, fun k hk _ hc => h.ext.keep k hk hc, h.ext.fld, h.ext.priv, h.ext.made, h.inv⟩
def SameC (w w' : World) : Prop := ∀ (k : Nat) (c : Array Value) (e : TypeId) (fr : Nat × Nat), (w.heap[k]? = some (Obj.cells c e fr)) ↔ (w'.heap[k]? = some (Obj.cells c e fr))
theorem SameC.tab {w w' : World} (h : SameC w w') {E B : Nat} {v : Value} {xs : List Value} (ht : Tab E B w v xs) : Tab E B w' v xs := by
  obtain ⟨g, h1, h2, h3⟩ := ht
  exact ⟨g, h1, h2, (h _ _ _ _).1 h3⟩
theorem SameC.fok {D : FD} {B : Nat} {w w' : World} (h : SameC w w') {k wb p : Nat} (hf : FOK D B w k wb p) : FOK D B w' k wb p := by
  obtain ⟨hB, hf | ⟨e, l, h1, h2, h3⟩⟩ := hf
  · exact ⟨hB, .inl ((h _ _ _ _).1 hf)⟩
  · exact ⟨hB, .inr ⟨e, l, (h _ _ _ _).1 h1, h.tab h2, h.tab h3⟩⟩
theorem SameC.made {D : FD} {B : Nat} {w w' : World} (h : SameC w w') {k wb p ge gl : Nat} (hf : Made D B w k wb p ge gl) : Made D B w' k wb p ge gl := by
  obtain ⟨hB, h1, h2, h3⟩ := hf
  exact ⟨hB, (h _ _ _ _).1 h1, h.tab h2, h.tab h3⟩
theorem SameC.priv {D : FD} {B : Nat} {w w' : World} (h : SameC w w') {b : Nat} (hp : Priv D B w b) : Priv D B w' b :=
  fun k hk c fr hc => hp k hk c fr ((h _ _ _ _).2 hc)
theorem SameC.inv {D : FD} {B : Nat} {w w' : World} (h : SameC w w') (hs : w.heap.size ≤ w'.heap.size) (hI : Inv D B w) : Inv D B w' :=
  ⟨Nat.le_trans hI.1 hs, fun k hk c fr hc => let ⟨wb, p, hf⟩ := hI.2 k hk c fr ((h _ _ _ _).2 hc); ⟨wb, p, h.fok hf⟩⟩
theorem sameC_put {w : World} {l : Nat} {o o' : Obj} (h : w.heap[l]? = some o) (ho : o.isCells = false) (ho' : o'.isCells = false) : SameC w (w.putObj l o') := by
  intro k c e fr
  by_cases hk : k = l
  · subst hk
    rw [World.putObj_heap_same (heap_lt h), h]
    constructor
    · intro hh; obtain rfl := Option.some.inj hh; cases ho
    · intro hh; obtain rfl := Option.some.inj hh; cases ho'
  · rw [World.putObj_heap_other hk]
theorem sameC_new {w : World} {o : Obj} (ho : o.isCells = false) : SameC w (w.alloc o) := by
  intro k c e fr
  by_cases hk : k < w.heap.size
  · rw [RowKit.Below.heap_alloc w o k hk]
  · constructor
    · intro hh; exact absurd (heap_lt hh) hk
    · intro hh
      have h1 := heap_lt hh
      have h2 : (w.alloc o).heap.size = w.heap.size + 1 := by simp
      have : k = w.heap.size := by omega
      subst this
      rw [alloc_new] at hh
      obtain rfl := Option.some.inj hh
      cases ho
theorem Xt.put {D : FD} {B n : Nat} {w : World} {l : Nat} {o o' : Obj} (hI : Inv D B w) (hn : n ≤ l) (h : w.heap[l]? = some o) (ho : o.isCells = false) (ho' : o'.isCells = false) : Xt D B n w (w.putObj l o') := by
  have hs := sameC_put h ho ho'
  refine ⟨rfl, rfl, rfl, by simp, fun k hk hc _ => ?_, fun _ _ _ => hs.fok, fun _ _ => hs.priv, fun _ _ _ _ _ => hs.made, hs.inv (by simp) hI⟩
  refine World.putObj_heap_other ?_
  rintro rfl
  rcases hc with hc | ⟨c, e, fr, hc⟩
  · omega
  · rw [h] at hc; obtain rfl := Option.some.inj hc; cases ho
theorem St.new {D : FD} {B : Nat} {w : World} {o : Obj} (hI : Inv D B w) (ho : o.isCells = false) : St D B w (w.alloc o) := by
  have hs := sameC_new (w := w) ho
  exact ⟨⟨rfl, rfl, rfl, by simp, fun k hk _ => RowKit.Below.heap_alloc w o k hk, fun _ _ _ => hs.fok, fun _ _ => hs.priv, fun _ _ _ _ _ => hs.made⟩, hs.inv (by simp) hI⟩
theorem Xt.refl {D : FD} {B n : Nat} {w : World} (hI : Inv D B w) : Xt D B n w w := (St.refl hI).xt
theorem Xt.trans {D : FD} {B n : Nat} {a b c : World} (h : Xt D B n a b) (k : Xt D B n b c) : Xt D B n a c := by
  refine ⟨k.os.trans h.os, k.tape.trans h.tape, k.output.trans h.output, Nat.le_trans h.size k.size, fun i hi h1 h2 => ?_, fun i wb p hf => k.fld i wb p (h.fld i wb p hf), fun b hb hp => k.priv b (Nat.lt_of_lt_of_le hb h.size) (h.priv b hb hp), fun i wb p e l hf => k.made i wb p e l (h.made i wb p e l hf), k.inv⟩
  have e := h.keep i hi h1 h2
  exact (k.keep i (Nat.lt_of_lt_of_le hi h.size) (h1.imp id fun ⟨c, t, fr, hc⟩ => ⟨c, t, fr, e.trans hc⟩) (h2.imp id (notT_of e))).trans e
theorem Row.xt {D : FD} {B n M : Nat} {w w' : World} {v : Value} {xs : List Value} (h : Row D B M w v xs) (hs : Xt D B n w w') : Row D B M w' v xs := by
  rcases h with h | ⟨g, o, cap, rfl, h0, h1, h2, h3, h4⟩
  · exact .inl h
  · by_cases hx : xs = []
    · subst hx; exact .inl ⟨_, _, rfl, rfl⟩
    · obtain ⟨u, hu⟩ : ∃ u, xs[0]? = some u := ⟨_, List.getElem?_eq_getElem (List.length_pos_iff.2 hx)⟩
      have hc := h4 0 u hu
      have hcell : ∃ c e fr, w.heap[g]? = some (.cells c e fr) := by
        unfold World.cell? at hc
        split at hc
        · rename_i c e fr hh; exact ⟨c, e, fr, hh⟩
        · cases hc
      have hk := hs.keep g h3 (.inr hcell) h2
      exact .inr ⟨g, o, cap, rfl, h0, h1, h2.imp id (notT_of hk), Nat.lt_of_lt_of_le h3 hs.size, fun i u hu => (cell_of_heap hk).trans (h4 i u hu)⟩
theorem Own.xt {D : FD} {B n N : Nat} {w w' : World} {E : TypeId} {v : Value} {b : Option Nat} {xs : List Value} (h : Own D B N w E v b xs) (hE : E ≠ D.T) (hs : Xt D B n w w') : Own D B N w' E v b xs := by
  rcases h with h | ⟨g, cap, cur, rfl, rfl, h1, hB, h2, h3, h4, h5, h6, h7⟩
  · exact .inl h
  · refine .inr ⟨g, cap, cur, rfl, rfl, h1, hB, ?_, h3, h4, h5, h6, hs.priv g (heap_lt h2) h7⟩
    rw [hs.keep g (heap_lt h2) (.inr ⟨_, _, _, h2⟩) (.inr fun c fr e => by rw [h2] at e; exact hE (Obj.cells.inj (Option.some.inj e)).2.1)]
    exact h2
theorem Blk.xt {D : FD} {B n : Nat} {w w' : World} {g : Nat} {E : TypeId} {cs : List Value} (h : Blk w g E cs) (hE : E ≠ D.T) (hs : Xt D B n w w') : Blk w' g E cs := by
  unfold Blk at *
  rw [hs.keep g (heap_lt h) (.inr ⟨_, _, _, h⟩) (.inr fun c fr e => by rw [h] at e; exact hE (Obj.cells.inj (Option.some.inj e)).2.1)]
  exact h
theorem St.thenX {D : FD} {B n : Nat} {a b c : World} (h : St D B a b) (k : Xt D B n b c) (hn : a.heap.size ≤ n) : St D B a c := by
  refine ⟨⟨k.os.trans h.ext.os, k.tape.trans h.ext.tape, k.output.trans h.ext.output, Nat.le_trans h.ext.size k.size, fun i hi hc => ?_, fun i wb p hf => k.fld i wb p (h.ext.fld i wb p hf), fun b hb hp => k.priv b (Nat.lt_of_lt_of_le hb h.ext.size) (h.ext.priv b hb hp), fun i wb p e l hf => k.made i wb p e l (h.ext.made i wb p e l hf)⟩, k.inv⟩
  have e := h.ext.keep i hi hc
  exact (k.keep i (Nat.lt_of_lt_of_le hi h.ext.size) (.inl (by omega)) (hc.imp id (notT_of e))).trans e
structure ExtZ (D : FD) (B : Nat) (Z : Nat → Prop) (w w' : World) : Prop where
  os : w'.os = w.os
  tape : w'.tape = w.tape
  output : w'.output = w.output
  size : w.heap.size ≤ w'.heap.size
  keep : ∀ k, k < w.heap.size → ¬ Z k → (k < B ∨ notT D w k) → w'.heap[k]? = w.heap[k]?
  oth : ∀ (k : Nat) (o : Obj), w.heap[k]? = some o → o.isCells = false → w'.heap[k]? = some o
  fld : ∀ k wb p, FOK D B w k wb p → FOK D B w' k wb p
  priv : ∀ b, b < w.heap.size → Priv D B w b → Priv D B w' b
  made : ∀ k wb p ge gl, Made D B w k wb p ge gl → Made D B w' k wb p ge gl
structure StZ (D : FD) (B : Nat) (Z : Nat → Prop) (w w' : World) : Prop where
  ext : ExtZ D B Z w w'
  inv : Inv D B w'
theorem St.z {D : FD} {B : Nat} {Z : Nat → Prop} {w w' : World} (h : St D B w w') : StZ D B Z w w' :=
  ⟨⟨h.ext.os, h.ext.tape, h.ext.output, h.ext.size, fun k hk _ hc => h.ext.keep k hk hc, fun k o hk ho => (h.ext.keep k (heap_lt hk) (.inr (notT_nc hk ho))).trans hk, h.ext.fld, h.ext.priv, h.ext.made⟩, h.inv⟩
theorem StZ.refl {D : FD} {B : Nat} {Z : Nat → Prop} {w : World} (h : Inv D B w) : StZ D B Z w w := (St.refl h).z
theorem StZ.transZ {D : FD} {B : Nat} {Z : Nat → Prop} {a b c : World} (h : StZ D B Z a b) (k : StZ D B Z b c) : StZ D B Z a c := by
  refine ⟨⟨k.ext.os.trans h.ext.os, k.ext.tape.trans h.ext.tape, k.ext.output.trans h.ext.output, Nat.le_trans h.ext.size k.ext.size, fun i hi hz hc => ?_, fun i o hi ho => k.ext.oth i o (h.ext.oth i o hi ho) ho, fun i wb p hf => k.ext.fld i wb p (h.ext.fld i wb p hf), fun b hb hp => k.ext.priv b (Nat.lt_of_lt_of_le hb h.ext.size) (h.ext.priv b hb hp), fun i wb p e l hf => k.ext.made i wb p e l (h.ext.made i wb p e l hf)⟩, k.inv⟩
  have e := h.ext.keep i hi hz hc
  exact (k.ext.keep i (Nat.lt_of_lt_of_le hi h.ext.size) hz (hc.imp id (notT_of e))).trans e
theorem StZ.trans {D : FD} {B : Nat} {Z : Nat → Prop} {a b c : World} (h : StZ D B Z a b) (k : St D B b c) : StZ D B Z a c := h.transZ k.z
theorem StZ.mb {D : FD} {B : Nat} {Z : Nat → Prop} {b : Option Nat} {w0 w w' : World} (hs : StZ D B Z w0 w) (h : Mb D B b w w') (hb : ∀ k, b = some k → Z k ∧ ∃ c e fr, w.heap[k]? = some (.cells c e fr)) : StZ D B Z w0 w' := by
  refine hs.transZ ⟨⟨h.os, h.tape, h.output, h.size, fun k hk hz _ => h.keep k hk (fun e => hz (hb k e.symm).1), fun k o hk ho => (h.keep k (heap_lt hk) (fun e => ?_)).trans hk, fun _ _ _ => h.fok, fun _ _ => h.priv, fun _ _ _ _ _ => h.made⟩, h.inv hs.inv⟩
  obtain ⟨c, e', fr, hc⟩ := (hb k e.symm).2
  rw [hk] at hc
  obtain rfl := Option.some.inj hc
  cases ho
theorem StZ.mb0 {D : FD} {B : Nat} {Z : Nat → Prop} {w0 w w' : World} (hs : StZ D B Z w0 w) (h : Mb D B none w w') : StZ D B Z w0 w' := hs.mb h (fun k e => by cases e)
theorem StZ.weak {D : FD} {B : Nat} {Z Z' : Nat → Prop} {w w' : World} (h : StZ D B Z w w') (hz : ∀ k, Z k → Z' k) : StZ D B Z' w w' :=
  ⟨⟨h.ext.os, h.ext.tape, h.ext.output, h.ext.size, fun k hk hn hc => h.ext.keep k hk (fun hh => hn (hz k hh)) hc, h.ext.oth, h.ext.fld, h.ext.priv, h.ext.made⟩, h.inv⟩
theorem Row.stz {D : FD} {B M : Nat} {Z : Nat → Prop} {w w' : World} {v : Value} {xs : List Value} (h : Row D B M w v xs) (hs : StZ D B Z w w') (hz : ∀ k, k < M → ¬ Z k) : Row D B M w' v xs := by
  rcases h with h | ⟨g, o, cap, rfl, h0, h1, h2, h3, h4⟩
  · exact .inl h
  · have hk := hs.ext.keep g h3 (hz g h1) h2
    exact .inr ⟨g, o, cap, rfl, h0, h1, h2.imp id (notT_of hk), Nat.lt_of_lt_of_le h3 hs.ext.size, fun i u hu => (cell_of_heap hk).trans (h4 i u hu)⟩
theorem Blk.stz {D : FD} {B : Nat} {Z : Nat → Prop} {w w' : World} {g : Nat} {E : TypeId} {cs : List Value} (h : Blk w g E cs) (hE : E ≠ D.T) (hs : StZ D B Z w w') (hz : ¬ Z g) : Blk w' g E cs := by
  unfold Blk at *
  rw [hs.ext.keep g (heap_lt h) hz (.inr fun c fr e => by rw [h] at e; exact hE (Obj.cells.inj (Option.some.inj e)).2.1)]
  exact h
theorem StZ.plain {D : FD} {B : Nat} {Z : Nat → Prop} {w w' : World} (h : StZ D B Z w w') (hz : ∀ k, k < w.heap.size → ¬ Z k) : St D B w w' :=
  ⟨⟨h.ext.os, h.ext.tape, h.ext.output, h.ext.size, fun k hk hc => h.ext.keep k hk (hz k hk) hc, h.ext.fld, h.ext.priv, h.ext.made⟩, h.inv⟩
theorem St.thenZ {D : FD} {B : Nat} {Z : Nat → Prop} {a b c : World} (h : St D B a b) (k : StZ D B Z b c) (hz : ∀ k, k < a.heap.size → ¬ Z k) : St D B a c := (h.z.transZ k).plain hz
/-! ### fences: everything may be called; a round's frame, or not -/
abbrev FW (r : Option Nat) : Fence := { Fence.wide with round := r }
section
variable {P : Program} {r : Option Nat}
theorem opIn_of {o : Oper} {a : Act} {w : World} {next : Act → World → Prop} {Q : Exit → Act → World → Prop} (hnd : ∀ c, o.op ≠ .defer c) (h : o.wp P a w next Q) : o.wpIn (FW r) 0 P a w next Q := by
  refine ⟨fun _ _ => trivial, ?_⟩
  rw [Oper.semAt_eq _ _ _ hnd]
  unfold Oper.wp at h
  cases hr : (execOp a.eval o).run P w with
  | ok nx w' =>
    rw [hr] at h
    cases nx <;> simp only [Oper.upon, Oper.uponIn] at h ⊢ <;> try exact h
    · exact ⟨fun hd => by simp [FW, Fence.wide] at hd, Calls.mono h (fun e w'' he => by cases e <;> exact he) |> callsIn_wide.2⟩
    · exact ⟨fun hd => by simp [FW, Fence.wide] at hd, fun c cs _ => let ⟨v, w1, h1, h2⟩ := h c cs; ⟨v, w1, h1, stepsIn_wide.2 h2⟩⟩
    all_goals exact h.elim
  | halt x w' =>
    rw [hr] at h
    cases x <;> simp only [Oper.upon, Oper.uponIn] at h ⊢ <;> exact h
def noDefer (ops : List Oper) : Bool := ops.all fun o => match o.op with | .defer _ => false | _ => true
theorem noDefer_op {ops : List Oper} (h : noDefer ops = true) {o : Oper} (ho : o ∈ ops) : ∀ c, o.op ≠ .defer c := by
  intro c e
  have := List.all_eq_true.1 h o ho
  rw [e] at this
  cases this
theorem listIn_of {ops : Array Oper} {Q : Exit → Act → World → Prop} (hno : ¬ LetsOut Q) : ∀ (l : List Oper) (a : Act) (w : World), noDefer l = true → wpList P ops Q l a w → wpListIn (FW r) 0 P ops Q l a w
  | [], a, w, _, h => h
  | o :: rest, a, w, hd, h => by
    have hd2 : noDefer rest = true := by simp only [noDefer, List.all_cons, Bool.and_eq_true] at hd ⊢; exact hd.2
    have ih := fun a w => listIn_of (ops := ops) hno rest a w hd2
    unfold wpListIn
    unfold wpList at h
    split
    · rename_i hw
      rw [if_pos hw] at h
      rcases h with h | ⟨_, h⟩
      · exact Oper.wpIn_mono ih (opIn_of (noDefer_op hd (by simp)) h)
      · exact absurd h hno
    · rename_i hw
      rw [if_neg hw] at h
      exact ⟨fun _ _ => trivial, ih _ _ h⟩
theorem opsIn_of {ops : Array Oper} {Q : Exit → Act → World → Prop} (hno : ¬ LetsOut Q) (hd : noDefer ops.toList = true) : ∀ (l : List Nat) (a : Act) (w : World), wpOps P ops Q l a w → wpOpsIn (FW r) 0 P ops Q l a w
  | [], a, w, h => h
  | i :: rest, a, w, h => by
    have ih := opsIn_of hno hd rest
    unfold wpOpsIn
    unfold wpOps at h
    cases ho : ops[i]? with
    | none => rw [ho] at h; exact ih a w h
    | some o =>
      rw [ho] at h
      simp only at h ⊢
      split
      · rename_i hw
        rw [if_pos hw] at h
        rcases h with h | ⟨_, h⟩
        · refine Oper.wpIn_mono ih (opIn_of (noDefer_op hd ?_) h)
          rw [← Array.getElem?_toList] at ho
          exact List.mem_of_getElem? ho
        · exact absurd h hno
      · rename_i hw
        rw [if_neg hw] at h
        exact ⟨fun _ _ => trivial, ih _ _ h⟩
def WI (P : Program) (r : Option Nat) (c : Code) (N : Kont) (X : List (Nat × Kont)) (R : Kont) (a : Act) (w : World) : Prop := c.wpIn (FW r) 0 P (Qof N X R) a w
variable {N : Kont} {X : List (Nat × Kont)} {R : Kont} {a : Act} {w : World}
theorem W_of {c : Code} (h : WI P none c N X R a w) : W P c N X R a w := wpIn_wide.1 h
theorem WI_of {c : Code} (h : W P c N X R a w) : WI P none c N X R a w := wpIn_wide.2 h
theorem qof_no : ¬ LetsOut (Qof N X R) := fun ⟨_, _, h⟩ => h
namespace Rd
variable {l : Nat}
theorem W_block {id : Nat} {c : Code} (h : WI P r c N ((id, N) :: X) R a w) : WI P r (.block id c) N X R a w :=
  wpIn_block (wpIn_mono h fun e a w hq => by
    cases e with
    | exit i =>
      simp only [Exit.inBlock]
      simp only [Qof, lookX] at hq
      by_cases e : i = id
      · subst e; rw [if_pos rfl]; simp only [Nat.beq_refl, cond_true] at hq; exact hq
      · rw [if_neg e]
        have hb : Nat.beq id i = false := by
          cases hb : Nat.beq id i with
          | false => rfl
          | true => exact absurd (Nat.eq_of_beq_eq_true hb).symm e
        rw [hb] at hq
        simpa [Qof] using hq
    | normal => exact hq
    | ret => exact hq
    | goto l => exact hq
    | panic c => exact hq
    | outgrown => exact hq)
theorem qof_reg {K : Kont} : ∀ e a w, Qof K [] (fun _ _ => False) e a w → Qof K X R e a w := fun e a w hq => by
  cases e with
  | exit i => simp [Qof, lookX] at hq
  | normal => exact hq
  | ret => exact hq.elim
  | goto l => exact hq.elim
  | panic c => exact hq.elim
  | outgrown => exact hq.elim
theorem W_reg {id : Nat} {ops : Array Oper} {l : List Oper} (hl : ops.toList = l) (hd : noDefer l = true) (h : ∀ K : Kont, (∀ a w, N a w → K a w) → WL P ops K l a w) : WI P r (.region id ops false) N X R a w :=
  wpIn_mono (wpIn_region_list (by rw [hl]; exact listIn_of qof_no l a w hd (h N (fun _ _ h => h)))) (qof_reg)
end Rd
/-! ### yield -/
def YieldOk (P : Program) (l : Nat) (v : Value) (w : World) (R : Bool → World → Prop) : Prop :=
  ∃ fn tmps assign body, (Instr.yield l #[v]).run P w = .ok (.round l fn tmps assign body) w ∧ RoundIn Fence.wide 0 P l fn tmps assign body w fun e w' => ∃ b, e = .returned (.bool b) ∧ R b w'
theorem YieldOk.mono {l : Nat} {v : Value} {R R' : Bool → World → Prop} (h : YieldOk P l v w R) (hr : ∀ b w', R b w' → R' b w') : YieldOk P l v w R' := by
  obtain ⟨fn, t, x, y, h1, h2⟩ := h
  exact ⟨fn, t, x, y, h1, h2.mono fun e w' ⟨b, h3, h4⟩ => ⟨b, h3, hr _ _ h4⟩⟩
section
variable {ops : Array Oper} {K : Kont} {rest : List Oper} {n : NN} {F : Fs} {op : Op} {T : TypeId} {pp : String} {af : Array Edge} {v : Value} {d : Nat}
def WLI (P : Program) (r : Option Nat) (ops : Array Oper) (K : Kont) (l : List Oper) (a : Act) (w : World) : Prop := wpListIn (FW r) 0 P ops (Qof K [] (fun _ _ => False)) l a w
theorem WLI_of {l : List Oper} (hd : noDefer l = true) (h : WL P ops K l a w) : WLI P r ops K l a w := listIn_of qof_no l a w hd h
theorem svI (hF : Fr n F a) (hnd : noDefer [⟨some d, op, T, pp, af, none⟩] = true) (hv : Val P op T F w v) (hd : Nat.blt d n.n = true) (k : ∀ a, Fr n ((d, v) :: F) a → WLI P r ops K rest a w) :
    WLI P r ops K (⟨some d, op, T, pp, af, none⟩ :: rest) a w := by
  unfold WLI wpListIn
  rw [if_pos (by simp [Region.wanted])]
  refine opIn_of (noDefer_op hnd (by simp)) ?_
  unfold Oper.wp
  rw [hv a.eval hF.reads]
  exact k _ (hF.put hd)
theorem syI {l : Nat} {x y : Operand} {ats : Array TypeId} (hF : Fr n F a) (hx : ev F x = some (.func (.yield l) #[] #[])) (hy : ev F y = some v) (hd : Nat.blt d n.n = true)
    (h : YieldOk P l v w fun b w' => ∀ a, Fr n ((d, .bool b) :: F) a → WLI P r ops K rest a w') : WLI P r ops K (⟨some d, .call ⟨.value x, #[y], ats⟩, T, pp, af, none⟩ :: rest) a w := by
  obtain ⟨fn, tmps, assign, body, h1, h2⟩ := h
  unfold WLI wpListIn
  rw [if_pos (by simp [Region.wanted])]
  refine ⟨fun _ _ => trivial, ?_⟩
  rw [Oper.semAt_eq _ _ _ (by intro c e; cases e)]
  have hrun : (execOp a.eval ⟨some d, .call ⟨.value x, #[y], ats⟩, T, pp, af, none⟩).run P w = .ok (.round l fn tmps assign body) w := by
    simp [execOp, resolve, invoke, Deferred.ofValue, hF.reads x _ hx, hF.reads y _ hy, h1]
  rw [hrun]
  simp only [Oper.uponIn]
  refine ⟨fun hd => by simp [FW, Fence.wide] at hd, RoundIn.mono (F := FW r) h2 ?_⟩
  rintro e w' ⟨b, rfl, h3⟩
  exact h3 _ (hF.put hd)
theorem W_srY {id : Nat} {l : List Oper} {y : Code} (hl : ops.toList = l) (h : ∀ K : Kont, (∀ a w, W P y N X R a w → K a w) → WLI P none ops K l a w) :
    W P (.seq (.region id ops false) y) N X R a w := W_seq (W_of (wpIn_mono (wpIn_region_list (by rw [hl]; exact h _ (fun _ _ h => h))) Rd.qof_reg))
end
/-! ### iterators -/
def Oth (l : Nat) (w w' : World) : Prop := w.heap.size ≤ w'.heap.size ∧ ∀ (k : Nat) (o : Obj), k ≠ l → w.heap[k]? = some o → o.isCells = false → w'.heap[k]? = some o
def Seq (P : Program) (D : FD) (B : Nat) {α : Type} (gf : FuncId) (lb : List Value) (enc : α → World → Value → Prop) (xs : List α) (Z : Nat → Prop) (w0 : World) : Prop :=
  ∀ (l : Nat) (J Jx : Nat → World → Prop) (W : World), w0.heap.size ≤ l → St D B w0 W →
    (∀ i A C, J i A → St D B A C → J i C) →
    (∀ i x v A, xs[i]? = some x → J i A → StZ D B Z w0 A → enc x A v → YieldOk P l v A fun b A' => (b = true ∧ J (i + 1) A' ∧ StZ D B Z A A') ∨ (b = false ∧ Jx (i + 1) A')) →
    J 0 W → Calls P gf (#[.func (.yield l) #[] #[]] ++ lb.toArray) W fun e A' => ∃ v, e = .returned v ∧ ((J xs.length A' ∧ StZ D B Z w0 A') ∨ ∃ i, Jx i A')
def Mk (n : Nat) (ds : List Nat) (w : World) : Prop := ds.Nodup ∧ ∀ D ∈ ds, n ≤ D ∧ w.heap[D]? = some (.deferred (some []))
theorem Mk.nil (n : Nat) (w : World) : Mk n [] w := ⟨List.nodup_nil, fun _ h => by cases h⟩
theorem Mk.st {D : FD} {B n : Nat} {ds : List Nat} {w w' : World} (h : Mk n ds w) (hs : St D B w w') : Mk n ds w' :=
  ⟨h.1, fun k hk => ⟨(h.2 k hk).1, (hs.ext.keep k (heap_lt (h.2 k hk).2) (.inr (notT_nc (h.2 k hk).2 rfl))).trans (h.2 k hk).2⟩⟩
theorem Mk.mb {D : FD} {B n : Nat} {b : Option Nat} {ds : List Nat} {w w' : World} (h : Mk n ds w) (hm : Mb D B b w w') (hb : ∀ k, b = some k → ∃ c e fr, w.heap[k]? = some (.cells c e fr)) : Mk n ds w' :=
  ⟨h.1, fun k hk => ⟨(h.2 k hk).1, (hm.keep k (heap_lt (h.2 k hk).2) (fun e => by obtain ⟨c, e', fr, hc⟩ := hb k e.symm; rw [(h.2 k hk).2] at hc; cases hc)).trans (h.2 k hk).2⟩⟩
theorem Mk.cons {D : FD} {B n : Nat} {ds : List Nat} {w w' : World} (h : Mk n ds w) {d : Nat} (hd : w.heap.size ≤ d) (hn : n ≤ w.heap.size) (h' : Mk n ds w') (hw : w'.heap[d]? = some (.deferred (some []))) : Mk n (d :: ds) w' := by
  refine ⟨List.nodup_cons.2 ⟨fun hm => ?_, h.1⟩, fun k hk => ?_⟩
  · have := heap_lt (h.2 d hm).2; omega
  · rcases List.mem_cons.1 hk with rfl | hk
    · exact ⟨by omega, hw⟩
    · exact h'.2 k hk
theorem Own.isrow {D : FD} {B n : Nat} {w : World} {E : TypeId} {v : Value} {b : Option Nat} {xs : List Value} (h : Own D B n w E v b xs) : ∀ k, b = some k → ∃ c e fr, w.heap[k]? = some (.cells c e fr) := by
  rintro k rfl
  rcases h with ⟨_, h, _⟩ | ⟨g, cap, cur, rfl, hb, h1, hB, h2, h3⟩
  · cases h
  · obtain rfl := Option.some.inj hb
    exact ⟨_, _, _, h2⟩
theorem StZ.put {D : FD} {B : Nat} {Z : Nat → Prop} {w A : World} {l : Nat} {o o' : Obj} (h : StZ D B Z w A) (hI : Inv D B A) (hl : A.heap[l]? = some o) (ho : o.isCells = false) (ho' : o'.isCells = false) (hn : w.heap.size ≤ l) (hz : Z l) : StZ D B Z w (A.putObj l o') := by
  have hs := sameC_put hl ho ho'
  refine ⟨⟨h.ext.os, h.ext.tape, h.ext.output, by simpa using h.ext.size, fun k hk hk' hc => ?_, fun k o1 hk ho1 => ?_, fun k wb p hf => hs.fok (h.ext.fld k wb p hf), fun b hb hp => hs.priv (h.ext.priv b hb hp), fun k wb p e g hf => hs.made (h.ext.made k wb p e g hf)⟩, hs.inv (by simp) hI⟩
  · exact (World.putObj_heap_other (show k ≠ l from fun e => hk' (by rw [e]; exact hz))).trans (h.ext.keep k hk hk' hc)
  · have := heap_lt hk
    exact (World.putObj_heap_other (by omega)).trans (h.ext.oth k o1 hk ho1)
theorem StZ.round {D : FD} {B : Nat} {Z : Nat → Prop} {A A2 A' : World} {l : Nat} {o1 o2 : Obj} (h : St D B A A2) (h2 : StZ D B Z (A2.putObj l o1) A') (hl : A.heap[l]? = some o2) (ho2 : o2.isCells = false) (ho1 : o1.isCells = false) (hz : Z l) : StZ D B Z A (A'.putObj l o2) := by
  have hl2 : A2.heap[l]? = some o2 := (h.z (Z := Z)).ext.oth l o2 hl ho2
  have hs := sameC_put hl2 ho2 ho1
  have hl3 : (A2.putObj l o1).heap[l]? = some o1 := World.putObj_heap_same (heap_lt hl2)
  have hl4 : A'.heap[l]? = some o1 := h2.ext.oth l o1 hl3 ho1
  have hs4 := sameC_put hl4 ho1 ho2
  refine ⟨⟨h2.ext.os.trans h.ext.os, h2.ext.tape.trans h.ext.tape, h2.ext.output.trans h.ext.output, ?_, fun k hk hk' hc => ?_, fun k o hk ho => ?_, fun k wb p hf => hs4.fok (h2.ext.fld k wb p (hs.fok (h.ext.fld k wb p hf))),
    fun b hb hp => hs4.priv (h2.ext.priv b (by have := h.ext.size; simp; omega) (hs.priv (h.ext.priv b hb hp))), fun k wb p e g hf => hs4.made (h2.ext.made k wb p e g (hs.made (h.ext.made k wb p e g hf)))⟩, hs4.inv (by simp) h2.inv⟩
  · have h1 := h.ext.size; have h3 := h2.ext.size; simp at h3 ⊢; omega
  · have hne : k ≠ l := fun e => hk' (by rw [e]; exact hz)
    have e1 := h.ext.keep k hk hc
    have e2 : (A2.putObj l o1).heap[k]? = A.heap[k]? := (World.putObj_heap_other hne).trans e1
    have e3 := h2.ext.keep k (by have := h.ext.size; simp; omega) hk' (hc.imp id (notT_of e2))
    exact (World.putObj_heap_other hne).trans (e3.trans e2)
  · by_cases hne : k = l
    · subst hne
      rw [hl] at hk
      obtain rfl := Option.some.inj hk
      exact World.putObj_heap_same (heap_lt hl4)
    · have e1 := (h.z (Z := Z)).ext.oth k o hk ho
      have e2 : (A2.putObj l o1).heap[k]? = some o := (World.putObj_heap_other hne).trans e1
      exact (World.putObj_heap_other hne).trans (h2.ext.oth k o e2 ho)
theorem W_rf {D : FD} {B : Nat} {α : Type} {g : Operand} {p : Tmp} {assign body : Code} {n : NN} {F : Fs} {gf : FuncId} {lb : List Value} {enc : α → World → Value → Prop} {xs : List α} {Z : Nat → Prop}
    (J : Nat → World → Prop) (Jr : World → Prop) (G : Value → Act → World → Prop)
    (hF : Fr n F a) (hg : ev F g = some (.func (.func gf) #[] lb.toArray)) (hp : Nat.blt p n.n = true) (eg : Ent P gf) (hI : Inv D B w)
    (hseq : Seq P D B gf lb enc xs Z w) (hZ : ∀ k, w.heap.size ≤ k → Z k)
    (hJ : ∀ i A C, J i A → Xt D B w.heap.size A C → J i C) (hJr : ∀ A C, Jr A → Xt D B w.heap.size A C → Jr C) (hG : ∀ v a A C, G v a A → Xt D B w.heap.size A C → G v a C)
    (hE : ∀ x v A C, enc x A v → Xt D B w.heap.size A C → enc x C v) (h0 : J 0 w)
    (hassign : ∀ l i x v A a', xs[i]? = some x → J i A → Inv D B A → enc x A v → Fr ⟨n.n, []⟩ ((p, v) :: F) a' → WI P (some l) assign (fun a2 A2 => St D B A A2 ∧ G v a2 A2) [] (fun _ _ => False) a' A)
    (hbody : ∀ l i x v A a2, xs[i]? = some x → J i A → StZ D B Z w A → enc x A v → G v a2 A → WI P (some l) body (fun _ A' => J (i + 1) A' ∧ StZ D B Z A A') [] (fun _ A' => Jr A' ∧ StZ D B Z A A') a2 A)
    (hdone : ∀ a' W, Fr ⟨n.n, w.heap.size :: n.ds⟩ F a' → W.heap[w.heap.size]? = some (.deferred (some [])) → J xs.length W → StZ D B Z w W → N a' W)
    (hret : ∀ a' W, Fr ⟨n.n, w.heap.size :: n.ds⟩ F a' → W.heap[w.heap.size]? = some (.deferred (some [])) → Jr W → Inv D B W → R a' W) :
    W P (.rangeFunc g #[p] assign body) N X R a w := by
  refine W_of (wpIn_rangeFunc fun fn _ => ?_)
  obtain ⟨rec, hrec⟩ : ∃ rec : LoopState → Option Code → Loop, rec = fun st pe => { state := st, pending := pe, fn, tmps := a.tmps, params := #[p], assign, body, defers := w.heap.size } := ⟨_, rfl⟩
  obtain ⟨W1, hW1⟩ : ∃ W1, (w.alloc (.deferred (some []))).alloc (.loop (rec .ready none)) = W1 := ⟨_, rfl⟩
  have hs0 : St D B w (w.alloc (.deferred (some []))) := St.new hI rfl
  have hs1 : St D B w W1 := by rw [← hW1]; exact hs0.trans (St.new hs0.inv rfl)
  have hL1 : W1.heap[w.heap.size + 1]? = some (.loop (rec .ready none)) := by
    rw [← hW1]; have := World.alloc_heap_new (w.alloc (.deferred (some []))) (.loop (rec .ready none)); rwa [World.size_alloc] at this
  have hK1 : W1.heap[w.heap.size]? = some (.deferred (some [])) := by
    rw [← hW1]; exact (RowKit.Below.heap_alloc _ _ _ (by simp)).trans (World.alloc_heap_new w _)
  refine ⟨w.heap.size + 1, [{ target := .collected w.heap.size, args := #[] }], W1, { target := .fn (.func gf) lb.toArray, args := #[.func (.yield (w.heap.size + 1)) #[] #[]] }, W1, gf,
    #[.func (.yield (w.heap.size + 1)) #[] #[]] ++ lb.toArray, W1, ?_, ?_, fun _ _ => trivial, ?_, fun hd => by simp [FW, Fence.wide] at hd, ?_⟩
  · rw [← hW1, hrec]; exact run_enterLoop_outer _ _ _ _ _
  · have := hF.reads g _ hg
    simp [resolve, rangeCall, Deferred.ofValue, Act.eval] at this ⊢
    simp [this]
  · have := eg (#[.func (.yield (w.heap.size + 1)) #[] #[]] ++ lb.toArray) W1
    simp [invoke] at this ⊢
    exact this
  · refine callsIn_wide.2 ?_
    have key := hseq (w.heap.size + 1) (fun i A => J i A ∧ Inv D B A ∧ A.heap[w.heap.size + 1]? = some (.loop (rec .ready none)) ∧ A.heap[w.heap.size]? = some (.deferred (some [])))
      (fun i A => ∃ c, (c = .ret ∧ Jr A) ∧ Inv D B A ∧ A.heap[w.heap.size + 1]? = some (.loop (rec .done (some c))) ∧ A.heap[w.heap.size]? = some (.deferred (some [])))
      W1 (by omega) hs1
      (fun i A C ⟨h1, h2, h3, h4⟩ hs => ⟨hJ i A C h1 hs.xt, hs.inv, hs.z (Z := Z) |>.ext.oth _ _ h3 rfl, hs.z (Z := Z) |>.ext.oth _ _ h4 rfl⟩) ?_ ⟨hJ 0 w W1 h0 hs1.xt, hs1.inv, hL1, hK1⟩
    · refine Calls.mono key ?_
      rintro e A' ⟨v, rfl, ⟨⟨h1, h2, h3, h4⟩, hz⟩ | ⟨i, c, ⟨rfl, h1⟩, h2, h3, h4⟩⟩
      · refine ⟨none, _, by subst hrec; exact run_endLoop (P := P) h3 (by simp), ?_⟩
        have hx := Xt.put (n := w.heap.size) h2 (Nat.le_succ _) h3 rfl (o' := .loop { rec .ready none with state := .exhausted }) rfl
        refine hdone _ _ ⟨hF.size, by show _ :: a.defers = _; rw [hF.defers]; rfl, hF.val⟩ ?_ (hJ _ _ _ h1 (by subst hrec; exact hx)) ?_
        · exact (World.putObj_heap_other (by omega)).trans h4
        · exact hz.put h2 h3 rfl rfl (Nat.le_succ _) (hZ _ (Nat.le_succ _))
      · refine ⟨some .ret, _, by subst hrec; exact run_endLoop (P := P) h3 (by simp), ?_⟩
        have hx := Xt.put (n := w.heap.size) h2 (Nat.le_succ _) h3 rfl (o' := .loop { rec .done (some .ret) with state := .exhausted }) rfl
        refine wpIn_ret (hret _ _ ⟨hF.size, by show _ :: a.defers = _; rw [hF.defers]; rfl, hF.val⟩ ?_ (hJr _ _ h1 (by subst hrec; exact hx)) (by subst hrec; exact hx.inv))
        exact (World.putObj_heap_other (by omega)).trans h4
    · rintro i x v A hx ⟨h1, h2, h3, h4⟩ hz he
      have hy := run_yield (P := P) (args := #[v]) h3 (by subst hrec; rfl)
      replace hy : (Instr.yield (w.heap.size + 1) #[v]).run P A = .ok (.round (w.heap.size + 1) fn (a.tmps.setIfInBounds p v) assign body) A := by subst hrec; simpa using hy
      refine ⟨fn, _, assign, body, hy, roundIn_of_wpIn trivial ?_⟩
      have hfr : Fr ⟨n.n, []⟩ ((p, v) :: F) { tmps := a.tmps.setIfInBounds p v, defers := [] } := by
        have := Fr.put (n := ⟨n.n, []⟩) (F := F) (a := { tmps := a.tmps, defers := [] }) (d := p) (v := v) ⟨hF.size, rfl, hF.val⟩ hp
        exact this
      refine wpIn_mono (hassign (w.heap.size + 1) i x v A { tmps := a.tmps.setIfInBounds p v, defers := [] } hx h1 h2 he hfr) ?_
      rintro e a2 A2 hq
      cases e with
      | normal =>
        obtain ⟨hs2, hg2⟩ : St D B A A2 ∧ G v a2 A2 := hq
        have hl2 : A2.heap[w.heap.size + 1]? = some (.loop (rec .ready none)) := (hs2.z (Z := Z)).ext.oth _ _ h3 rfl
        have hx2 := Xt.put (n := w.heap.size) hs2.inv (Nat.le_succ _) hl2 rfl (o' := .loop { rec .ready none with state := .busy }) rfl
        have hb3 : (A2.putObj (w.heap.size + 1) (.loop { rec .ready none with state := .busy })).heap[w.heap.size + 1]? = some (.loop { rec .ready none with state := .busy }) := World.putObj_heap_same (heap_lt hl2)
        refine ⟨_, run_beginRound hl2 (by subst hrec; rfl), ?_⟩
        have hd3 : (A2.putObj (w.heap.size + 1) (.loop { rec .ready none with state := .busy })).heap[w.heap.size]? = some (.deferred (some [])) := (World.putObj_heap_other (by omega)).trans ((hs2.z (Z := Z)).ext.oth _ _ h4 rfl)
        refine wpIn_mono (hbody (w.heap.size + 1) i x v _ a2 hx (hJ _ _ _ (hJ _ _ _ h1 hs2.xt) hx2) ((hz.trans hs2).put hs2.inv hl2 rfl rfl (Nat.le_succ _) (hZ _ (Nat.le_succ _))) (hE _ _ _ _ (hE _ _ _ _ he hs2.xt) hx2) (hG _ _ _ _ hg2 hx2)) ?_
        rintro e' a3 A' hq'
        cases e' with
        | normal =>
          obtain ⟨j1, j2⟩ : J (i + 1) A' ∧ StZ D B Z (A2.putObj (w.heap.size + 1) (.loop { rec .ready none with state := .busy })) A' := hq'
          have hl' := j2.ext.oth _ _ hb3 rfl
          have hx4 := Xt.put (n := w.heap.size) j2.inv (Nat.le_succ _) hl' rfl (o' := .loop (rec .ready none)) rfl
          refine ⟨_, _, run_endRound none hl', true, rfl, .inl ⟨rfl, ⟨?_, ?_, ?_, ?_⟩, ?_⟩⟩
          · subst hrec; exact hJ _ _ _ j1 hx4
          · subst hrec; exact hx4.inv
          · subst hrec; exact World.putObj_heap_same (heap_lt hl')
          · exact (World.putObj_heap_other (by omega)).trans (j2.ext.oth _ _ hd3 rfl)
          · subst hrec; exact StZ.round hs2 j2 h3 rfl rfl (hZ _ (Nat.le_succ _))
        | ret =>
          obtain ⟨j1, j2⟩ : Jr A' ∧ StZ D B Z (A2.putObj (w.heap.size + 1) (.loop { rec .ready none with state := .busy })) A' := hq'
          have hl' := j2.ext.oth _ _ hb3 rfl
          have hx4 := Xt.put (n := w.heap.size) j2.inv (Nat.le_succ _) hl' rfl (o' := .loop (rec .done (some .ret))) rfl
          refine ⟨_, _, run_endRound (some .ret) hl', false, rfl, .inr ⟨rfl, .ret, ⟨rfl, ?_⟩, ?_, ?_, ?_⟩⟩
          · subst hrec; exact hJr _ _ j1 hx4
          · subst hrec; exact hx4.inv
          · subst hrec; exact World.putObj_heap_same (heap_lt hl')
          · exact (World.putObj_heap_other (by omega)).trans (j2.ext.oth _ _ hd3 rfl)
        | exit id => exact absurd hq' (by simp [Qof, lookX])
        | goto t => exact hq'.elim
        | panic c => exact hq'.elim
        | outgrown => exact hq'.elim
      | exit id => exact absurd hq (by simp [Qof, lookX])
      | ret => exact hq.elim
      | goto t => exact hq.elim
      | panic c => exact hq.elim
      | outgrown => exact hq.elim
/-! ### a function's end, with marks -/
theorem leavesM {D : FD} {B m : Nat} {fn : Func} {tmps : Array Value} {v : Value} {Q : Value → World → Prop} : ∀ (ds : List Nat) (w : World), Mk m ds w → Inv D B w → (∀ w2, (results fn tmps).run P w2 = .ok v w2) → (∀ w2, Xt D B m w w2 → Q v w2) →
    LeavesInM Fence.wide 0 P fn tmps (fun e w' => ∃ u, e = .returned u ∧ Q u w') (ds.map dmark) .returning w
  | [], w, _, hI, hr, hq => ⟨v, hr w, v, rfl, hq w (Xt.refl hI)⟩
  | d :: ds, w, hM, hI, hr, hq => by
    obtain ⟨h1, h2⟩ := hM.2 d (by simp)
    have hx := Xt.put (n := m) hI h1 h2 rfl (o' := .deferred none) rfl
    refine ⟨by simp, .inl ⟨d, w.putObj d (.deferred none), rfl, run_takeDeferred h2, leavesM ds _ ⟨(List.nodup_cons.1 hM.1).2, fun k hk => ?_⟩ hx.inv hr (fun w2 h => hq w2 (hx.trans h))⟩⟩
    have hne : k ≠ d := fun e => (List.nodup_cons.1 hM.1).1 (e ▸ hk)
    exact ⟨(hM.2 k (by simp [hk])).1, (World.putObj_heap_other hne).trans (hM.2 k (by simp [hk])).2⟩
theorem enterMG {D : FD} {B : Nat} {f : FuncId} {fn : Func} {c : Code} {vs : List Value} {Q : Value → World → Prop} {n : NN} {F : Fs} (m : Nat) (E : Kont) (hf : P.funcs[f]? = some fn) (hb : fn.body = some c) (hn : n = ⟨fn.ntmps, []⟩) (hle : Nat.ble vs.length n.n = true) (hF : F = idx vs 0)
    (hE : ∀ a w, E a w → ∃ ds v, a.defers = ds.map dmark ∧ Mk m ds w ∧ Inv D B w ∧ (∀ w2, (results fn a.tmps).run P w2 = .ok v w2) ∧ ∀ w2, Xt D B m w w2 → Q v w2) (h : ∀ a, Fr n F a → W P c E [] E a w) : Ret P f vs w Q := by
  refine callsIn_wide.1 (callsIn_of_wp_marks (F := Fence.wide) (n := 0) hf hb trivial (wpIn_mono (WI_of (h _ ⟨by have := Nat.le_of_ble_eq_true hle; subst hn; simp at this ⊢; omega, by subst hn; rfl, fun i v hv => ?_⟩)) ?_) rfl)
  · rw [hF] at hv
    obtain ⟨k, hk, h1⟩ := look_idx vs 0 i v hv
    rw [show i = k from by omega]
    have h2 : k < vs.length := (List.getElem?_eq_some_iff.1 h1).1
    rw [Array.getElem?_append_left (by simpa using h2)]
    simpa using h1
  · intro e a w hq
    have key : ∀ a w, E a w → LeavesInM Fence.wide 0 P fn a.tmps (fun e w' => ∃ u, e = .returned u ∧ Q u w') a.defers .returning w := fun a w he => by
      obtain ⟨ds, v, h1, h2, h3, h4, h5⟩ := hE a w he
      rw [h1]
      exact leavesM ds w h2 h3 h4 h5
    cases e with
    | normal => exact key a w hq
    | ret => exact key a w hq
    | exit i => simp [Qof, lookX] at hq
    | goto l => exact hq.elim
    | panic c => exact hq.elim
    | outgrown => exact hq.elim
theorem enterM2 {D : FD} {B : Nat} {f : FuncId} {fn : Func} {c : Code} {vs : List Value} {Q : Value → World → Prop} (m : Nat) (n : NN) (F : Fs) (t s : Nat) (hf : P.funcs[f]? = some fn) (hb : fn.body = some c) (hn : n = ⟨fn.ntmps, []⟩) (hr : fn.results = #[.tmp t, .tmp s]) (hle : Nat.ble vs.length n.n = true) (hF : F = idx vs 0)
    (h : ∀ a, Fr n F a → W P c (fun a w => ∃ ds F' v u, Mk m ds w ∧ Inv D B w ∧ Fr ⟨n.n, ds⟩ F' a ∧ look F' t = some v ∧ look F' s = some u ∧ ∀ w2, Xt D B m w w2 → Q (.tuple #[v, u]) w2) []
      (fun a w => ∃ ds F' v u, Mk m ds w ∧ Inv D B w ∧ Fr ⟨n.n, ds⟩ F' a ∧ look F' t = some v ∧ look F' s = some u ∧ ∀ w2, Xt D B m w w2 → Q (.tuple #[v, u]) w2) a w) : Ret P f vs w Q := by
  refine enterMG (D := D) (B := B) m _ hf hb hn hle hF (fun a w ⟨ds, F', v, u, hM, hI, hF', hl, hk, hq⟩ => ⟨ds, _, hF'.defers, hM, hI, fun w2 => ?_, hq⟩) h
  have hv := hF'.val t v hl
  have hu := hF'.val s u hk
  simp [results, hr, Array.getD_eq_getD_getElem?, hv, hu]
end
end Go.Gam

/- Matrices: rows of numbers in memory; what the functions of matrices tell. No program in sight. -/
namespace Go.Gam
open Px
/-! ### cells that nobody turns -/
def KC (D : FD) (B : Nat) (w : World) (a : Addr) (v : Value) : Prop := w.cell? a = some v ∧ a.block < w.heap.size ∧ (a.block < B ∨ notT D w a.block)
theorem KC.c {D : FD} {B : Nat} {w : World} {a : Addr} {v : Value} (h : KC D B w a v) : w.cell? a = some v := h.1
theorem KC.ld {D : FD} {B : Nat} {w w' : World} {a : Addr} {v : Value} (h : KC D B w a v) (hs : Ext D B w w') : w'.cell? a = some v := (cell_of_heap (hs.keep a.block h.2.1 h.2.2)).trans h.1
theorem KC.ext {D : FD} {B : Nat} {w w' : World} {a : Addr} {v : Value} (h : KC D B w a v) (hs : Ext D B w w') : KC D B w' a v :=
  ⟨h.ld hs, Nat.lt_of_lt_of_le h.2.1 hs.size, h.2.2.imp id (notT_of (hs.keep a.block h.2.1 h.2.2))⟩
theorem KC.st {D : FD} {B : Nat} {w w' : World} {a : Addr} {v : Value} (h : KC D B w a v) (hs : St D B w w') : KC D B w' a v := h.ext hs.ext
theorem KC.mb {D : FD} {B : Nat} {b : Option Nat} {w w' : World} {a : Addr} {v : Value} (h : KC D B w a v) (hm : Mb D B b w w') (hb : b ≠ some a.block) : KC D B w' a v := by
  have hk := hm.keep a.block h.2.1 (fun e => hb e.symm)
  exact ⟨(cell_of_heap hk).trans h.1, Nat.lt_of_lt_of_le h.2.1 hm.size, h.2.2.imp id (notT_of hk)⟩
theorem Row.kat {D : FD} {B M len cap : Nat} {w : World} {sa : Option Addr} {xs : List Value} {i : Nat} {u : Value} (h : Row D B M w (.slice sa len cap) xs) (hi : xs[i]? = some u) : ∃ g o, sa = some ⟨g, o, none⟩ ∧ KC D B w ⟨g, o + i, none⟩ u ∧ g < M := by
  rcases h with ⟨_, _, h1, rfl⟩ | ⟨g, o, cap', h1, h0, h2, h3, h4, h5⟩
  · simp at hi
  · obtain ⟨rfl, rfl, rfl⟩ := Value.slice.inj h1
    exact ⟨g, o, rfl, ⟨h5 i u hi, h4, h3⟩, h2⟩
theorem Blk.kc {D : FD} {B : Nat} {w : World} {g : Nat} {E : TypeId} {cs : List Value} (h : Blk w g E cs) (hE : E ≠ D.T) (i : Nat) {v : Value} (hv : nth cs i = some v) : KC D B w ⟨g, i, none⟩ v :=
  ⟨h.at i hv, heap_lt h, .inr fun c fr e => by rw [show w.heap[g]? = _ from h] at e; exact hE (Obj.cells.inj (Option.some.inj e)).2.1⟩
/-! ### matrices in memory -/
abbrev Mtx := List (List Int)
structure Mat (D : FD) (B M : Nat) (w : World) (sa : Option Addr) (cap : Nat) (a : Mtx) : Prop where
  ex : ∃ vals, vals.length = a.length ∧ Row D B M w (.slice sa a.length cap) vals ∧ ∀ (j : Nat) (v : Value) (r : List Int), vals[j]? = some v → a[j]? = some r → Row D B M w v (zints r)
theorem Mat.st {D : FD} {B M : Nat} {w w' : World} {sa : Option Addr} {cap : Nat} {a : Mtx} (h : Mat D B M w sa cap a) (hs : St D B w w') : Mat D B M w' sa cap a := by
  obtain ⟨vals, h1, h2, h3⟩ := h.ex
  exact ⟨vals, h1, h2.st hs, fun j v r x y => (h3 j v r x y).st hs⟩
theorem Mat.mb {D : FD} {B M : Nat} {b : Option Nat} {w w' : World} {sa : Option Addr} {cap : Nat} {a : Mtx} (h : Mat D B M w sa cap a) (hm : Mb D B b w w') (hb : ∀ k, b = some k → M ≤ k) : Mat D B M w' sa cap a := by
  obtain ⟨vals, h1, h2, h3⟩ := h.ex
  exact ⟨vals, h1, h2.mb hm hb, fun j v r x y => (h3 j v r x y).mb hm hb⟩
theorem Mat.mono {D : FD} {B M M' : Nat} {w : World} {sa : Option Addr} {cap : Nat} {a : Mtx} (h : Mat D B M w sa cap a) (hM : M ≤ M') : Mat D B M' w sa cap a := by
  obtain ⟨vals, h1, h2, h3⟩ := h.ex
  exact ⟨vals, h1, h2.mono hM, fun j v r x y => (h3 j v r x y).mono hM⟩
theorem Mat.xt {D : FD} {B M n : Nat} {w w' : World} {sa : Option Addr} {cap : Nat} {a : Mtx} (h : Mat D B M w sa cap a) (hs : Xt D B n w w') : Mat D B M w' sa cap a := by
  obtain ⟨vals, h1, h2, h3⟩ := h.ex
  exact ⟨vals, h1, h2.xt hs, fun j v r x y => (h3 j v r x y).xt hs⟩
theorem Mat.stz {D : FD} {B M : Nat} {Z : Nat → Prop} {w w' : World} {sa : Option Addr} {cap : Nat} {a : Mtx} (h : Mat D B M w sa cap a) (hs : StZ D B Z w w') (hz : ∀ k, k < M → ¬ Z k) : Mat D B M w' sa cap a := by
  obtain ⟨vals, h1, h2, h3⟩ := h.ex
  exact ⟨vals, h1, h2.stz hs hz, fun j v r x y => (h3 j v r x y).stz hs hz⟩
theorem Mat.row {D : FD} {B M : Nat} {w : World} {sa : Option Addr} {cap : Nat} {a : Mtx} (h : Mat D B M w sa cap a) {i : Nat} {r : List Int} (hi : a[i]? = some r) :
    ∃ g o pr cr, sa = some ⟨g, o, none⟩ ∧ KC D B w ⟨g, o + i, none⟩ (.slice pr r.length cr) ∧ Row D B M w (.slice pr r.length cr) (zints r) ∧ g < M := by
  obtain ⟨vals, h1, h2, h3⟩ := h.ex
  have hl := (List.getElem?_eq_some_iff.1 hi).1
  obtain ⟨v, hv⟩ : ∃ v, vals[i]? = some v := ⟨_, List.getElem?_eq_getElem (by omega)⟩
  have hr := h3 i v r hv hi
  obtain ⟨pr, cr, rfl⟩ := hr.sl
  rw [zints_length] at hr hv
  obtain ⟨g, o, rfl, hk, hM⟩ := h2.kat hv
  exact ⟨g, o, pr, cr, rfl, hk, hr, hM⟩
theorem Mat.capd {D : FD} {B M : Nat} {w : World} {sa : Option Addr} {cap : Nat} {a : Mtx} (h : Mat D B M w sa cap a) : a.length ≤ cap := by
  obtain ⟨vals, h1, h2, h3⟩ := h.ex
  exact h2.capd
theorem Mat.to {D : FD} {B M : Nat} {w : World} {sa : Option Addr} {cap : Nat} {a b : Mtx} (h : Mat D B M w sa cap a) {hi : Nat} (h2 : hi ≤ a.length) (hb : b = a.take hi) : Mat D B M w sa cap b := by
  obtain ⟨vals, h1, h3, h4⟩ := h.ex
  subst hb
  have hl : (a.take hi).length = hi := by simp; omega
  refine ⟨vals.take hi, by simp; omega, by rw [hl]; exact h3.to (by omega), fun j v r x y => ?_⟩
  rw [List.getElem?_take] at x y
  split at x
  · rename_i hj; rw [if_pos hj] at y; exact h4 j v r x y
  · cases x
theorem Mat.from {D : FD} {B M : Nat} {w : World} {sa : Option Addr} {cap : Nat} {a b : Mtx} (h : Mat D B M w sa cap a) {lo : Nat} (h2 : lo ≤ a.length) (hb : b = a.drop lo) : Mat D B M w (slA sa lo cap) (cap - lo) b := by
  obtain ⟨vals, h1, h3, h4⟩ := h.ex
  subst hb
  have hl : (a.drop lo).length = a.length - lo := by simp
  have hp := h3.part (lo := lo) (hi := a.length) (by omega) (by omega)
  rw [show vals.take a.length = vals from List.take_of_length_le (by omega)] at hp
  refine ⟨vals.drop lo, by simp; omega, by rw [hl]; exact hp, fun j v r x y => ?_⟩
  rw [List.getElem?_drop] at x y
  exact h4 _ v r x y
def RowO (D : FD) (B N K : Nat) (w : World) (u : Value) (r : List Int) : Prop := (∃ b, Own D B N w D.E u b (zints r) ∧ ∀ g, b = some g → g < K) ∨ Row D B N w u (zints r)
theorem RowO.st {D : FD} {B N K : Nat} {w w' : World} {u : Value} {r : List Int} (h : RowO D B N K w u r) (hs : St D B w w') : RowO D B N K w' u r :=
  h.imp (fun ⟨b, h1, h2⟩ => ⟨b, h1.st D.ne hs, h2⟩) (fun h => h.st hs)
theorem RowO.xt {D : FD} {B N K n : Nat} {w w' : World} {u : Value} {r : List Int} (h : RowO D B N K w u r) (hs : Xt D B n w w') : RowO D B N K w' u r :=
  h.imp (fun ⟨b, h1, h2⟩ => ⟨b, h1.xt D.ne hs, h2⟩) (fun h => h.xt hs)
theorem RowO.mb {D : FD} {B N K : Nat} {b : Option Nat} {w w' : World} {u : Value} {r : List Int} (h : RowO D B N K w u r) (hm : Mb D B b w w') (hb : ∀ k, b = some k → K ≤ k ∧ N ≤ k) : RowO D B N K w' u r :=
  h.imp (fun ⟨c, h1, h2⟩ => ⟨c, h1.mb hm (fun k e e2 => by have := h2 k e; have := (hb k e2).1; omega), h2⟩) (fun h => h.mb hm (fun k e => (hb k e).2))
theorem RowO.mb2 {D : FD} {B N K N' E2 : Nat} {b : Option Nat} {w w' : World} {u v : Value} {xs : List Value} {r : List Int} (h : RowO D B N K w u r) (hm : Mb D B b w w') (ho : Own D B N' w E2 v b xs) (hE : D.E ≠ E2) (hN : N ≤ N') : RowO D B N K w' u r :=
  h.imp (fun ⟨c, h1, h2⟩ => ⟨c, h1.mb hm (h1.ne_type ho hE), h2⟩) (fun h => h.mb hm (fun k e => Nat.le_trans hN (ho.lt k e).1))
theorem RowO.row {D : FD} {B N K : Nat} {w : World} {u : Value} {r : List Int} (h : RowO D B N K w u r) (hN : N ≤ w.heap.size) : Row D B w.heap.size w u (zints r) := by
  rcases h with ⟨b, h1, _⟩ | h
  · exact h1.row D.ne
  · exact h.mono hN
theorem RowO.of {D : FD} {B N N' : Nat} {w : World} {u : Value} {b : Option Nat} {r : List Int} (h : Own D B N' w D.E u b (zints r)) (hN : N ≤ N') : RowO D B N w.heap.size w u r := .inl ⟨b, h.le hN, fun g e => (h.lt g e).2⟩
theorem RowO.up {D : FD} {B N K K' : Nat} {w : World} {u : Value} {r : List Int} (h : RowO D B N K w u r) (hK : K ≤ K') : RowO D B N K' w u r :=
  h.imp (fun ⟨b, h1, h2⟩ => ⟨b, h1, fun g e => Nat.lt_of_lt_of_le (h2 g e) hK⟩) id
structure MOwn (D : FD) (B N M0 K : Nat) (w : World) (E2 : TypeId) (v : Value) (b : Option Nat) (a : Mtx) : Prop where
  ex : ∃ vals, vals.length = a.length ∧ Own D B N w E2 v b vals ∧ ∀ (j : Nat) (u : Value) (r : List Int), vals[j]? = some u → a[j]? = some r → RowO D B M0 K w u r
  mn : M0 ≤ N
theorem MOwn.nil (D : FD) (B N M0 K : Nat) (w : World) (E2 : TypeId) (h : M0 ≤ N) : MOwn D B N M0 K w E2 (.slice none 0 0) none [] := ⟨⟨[], rfl, Own.nil _ _ _ _ _, fun j v r x => by simp at x⟩, h⟩
theorem MOwn.st {D : FD} {B N M0 K : Nat} {w w' : World} {E2 : TypeId} {v : Value} {b : Option Nat} {a : Mtx} (h : MOwn D B N M0 K w E2 v b a) (hE : E2 ≠ D.T) (hs : St D B w w') : MOwn D B N M0 K w' E2 v b a := by
  obtain ⟨vals, h1, h2, h3⟩ := h.ex
  exact ⟨⟨vals, h1, h2.st hE hs, fun j u r x y => (h3 j u r x y).st hs⟩, h.mn⟩
theorem MOwn.mb0 {D : FD} {B N M0 K : Nat} {w w' : World} {E2 : TypeId} {v : Value} {b : Option Nat} {a : Mtx} (h : MOwn D B N M0 K w E2 v b a) (hm : Mb D B none w w') : MOwn D B N M0 K w' E2 v b a := by
  obtain ⟨vals, h1, h2, h3⟩ := h.ex
  exact ⟨⟨vals, h1, h2.mb hm (fun k _ e => by cases e), fun j u r x y => (h3 j u r x y).mb hm (fun _ e => by cases e)⟩, h.mn⟩
theorem MOwn.mbo {D : FD} {B N M0 K N' : Nat} {c : Option Nat} {w w' : World} {E2 : TypeId} {v u : Value} {b : Option Nat} {a : Mtx} {xs : List Value} (h : MOwn D B N M0 K w E2 v b a) (hm : Mb D B c w w') (ho : Own D B N' w D.E u c xs) (hE : D.E ≠ E2) (hK : K ≤ N') (hN : M0 ≤ N') : MOwn D B N M0 K w' E2 v b a := by
  obtain ⟨vals, h1, h2, h3⟩ := h.ex
  exact ⟨⟨vals, h1, h2.mb hm (fun k e e2 => ho.ne_type h2 hE k e2 e), fun j x r p q => (h3 j x r p q).mb hm (fun k e => ⟨Nat.le_trans hK (ho.lt k e).1, Nat.le_trans hN (ho.lt k e).1⟩)⟩, h.mn⟩
theorem MOwn.xt {D : FD} {B N M0 K n : Nat} {w w' : World} {E2 : TypeId} {v : Value} {b : Option Nat} {a : Mtx} (h : MOwn D B N M0 K w E2 v b a) (hE : E2 ≠ D.T) (hs : Xt D B n w w') : MOwn D B N M0 K w' E2 v b a := by
  obtain ⟨vals, h1, h2, h3⟩ := h.ex
  exact ⟨⟨vals, h1, h2.xt hE hs, fun j u r x y => (h3 j u r x y).xt hs⟩, h.mn⟩
theorem MOwn.mat {D : FD} {B N M0 K : Nat} {w : World} {E2 : TypeId} {v : Value} {b : Option Nat} {a : Mtx} (h : MOwn D B N M0 K w E2 v b a) (hE : E2 ≠ D.T) (hN : M0 ≤ w.heap.size) : ∃ sa cap, v = .slice sa a.length cap ∧ Mat D B w.heap.size w sa cap a := by
  obtain ⟨vals, h1, h2, h3⟩ := h.ex
  obtain ⟨sa, cap, rfl⟩ := h2.shape
  have hr := h2.row hE
  rw [h1] at hr
  exact ⟨sa, cap, by rw [h1], vals, h1, hr, fun j v r x y => (h3 j v r x y).row hN⟩
theorem MOwn.up {D : FD} {B N M0 K K' : Nat} {w : World} {E2 : TypeId} {v : Value} {b : Option Nat} {a : Mtx} (h : MOwn D B N M0 K w E2 v b a) (hK : K ≤ K') : MOwn D B N M0 K' w E2 v b a := by
  obtain ⟨vals, h1, h2, h3⟩ := h.ex
  exact ⟨⟨vals, h1, h2, fun j u r x y => (h3 j u r x y).up hK⟩, h.mn⟩
theorem MOwn.cast {D : FD} {B N M0 K : Nat} {w : World} {E2 : TypeId} {v : Value} {b : Option Nat} {a a' : Mtx} (h : MOwn D B N M0 K w E2 v b a) (e : a = a') : MOwn D B N M0 K w E2 v b a' := e ▸ h
theorem MOwn.le {D : FD} {B N N' M0 K : Nat} {w : World} {E2 : TypeId} {v : Value} {b : Option Nat} {a : Mtx} (h : MOwn D B N M0 K w E2 v b a) (hN : N' ≤ N) (hm : M0 ≤ N') : MOwn D B N' M0 K w E2 v b a := by
  obtain ⟨vals, h1, h2, h3⟩ := h.ex
  exact ⟨⟨vals, h1, h2.le hN, h3⟩, hm⟩
theorem MOwn.lt {D : FD} {B N M0 K : Nat} {w : World} {E2 : TypeId} {v : Value} {b : Option Nat} {a : Mtx} (h : MOwn D B N M0 K w E2 v b a) : ∀ k, b = some k → N ≤ k ∧ k < w.heap.size := by
  obtain ⟨vals, h1, h2, h3⟩ := h.ex
  exact h2.lt
theorem MOwn.isrow {D : FD} {B N M0 K : Nat} {w : World} {E2 : TypeId} {v : Value} {b : Option Nat} {a : Mtx} (h : MOwn D B N M0 K w E2 v b a) : ∀ k, b = some k → ∃ c e fr, w.heap[k]? = some (.cells c e fr) := by
  obtain ⟨vals, h1, h2, h3⟩ := h.ex
  exact h2.isrow
section
variable {P : Program} {ops : Array Oper} {K' : Kont} {rest : List Oper} {n : NN} {F : Fs} {T : TypeId} {pp : String} {af : Array Edge} {v : Value} {d : Nat} {a : Act} {w : World} {x : Operand} {D : FD} {B : Nat}
theorem s_appM {t e by_ N N2 M0 K : Nat} {ats : Array TypeId} {z : Value} {b bx : Option Nat} {a0 : Mtx} {xv u : Value} {r : List Int} {s : Operand} (hF : Fr n F a) (hat : ats = #[t, t]) (ht : Sl P t e z by_) (hs : ev F s = some v) (hx : ev F x = some xv)
    (hM : MOwn D B N M0 K w e v b a0) (hl : Own D B N2 w e xv bx [u]) (hr : RowO D B M0 K w u r) (h1 : u.oneCell' = true) (hby : by_ = 24) (hsm : a0.length ≤ 1000000) (hN : N ≤ w.heap.size) (he : e ≠ D.T) (hE : D.E ≠ e) (hI : Inv D B w) (hd : Nat.blt d n.n = true)
    (k : ∀ v' b' w' a, MOwn D B N M0 K w' e v' b' (a0 ++ [r]) → Mb D B b w w' → Inv D B w' → Fr n ((d, v') :: F) a → WL P ops K' rest a w') :
    WL P ops K' (⟨some d, .call ⟨.builtin .append, #[s, x], ats⟩, T, pp, af, none⟩ :: rest) a w := by
  obtain ⟨vals, h2, h3, h4⟩ := hM.ex
  subst hby
  refine s_app (D := D) (B := B) hF hat ht hs hx h3 (hl.row he) (by simpa using h1) (by simp; omega) (by simp [maxLen]; omega) hN he hI hd ?_
  intro v' b' w' a' ho hm hI' hb' hF'
  refine k v' b' w' a' ⟨⟨vals ++ [u], by simp [h2], ho, fun j x y hx hy => ?_⟩, hM.mn⟩ hm hI' hF'
  by_cases hj : j < vals.length
  · rw [List.getElem?_append_left hj] at hx
    rw [List.getElem?_append_left (by omega)] at hy
    exact (h4 j x y hx hy).mb2 hm h3 hE hM.mn
  · have hj2 : j = vals.length := by have := (List.getElem?_eq_some_iff.1 hx).1; simp at this; omega
    subst hj2
    simp at hx
    rw [h2] at hy
    simp at hy
    subst hx; subst hy
    exact hr.mb2 hm h3 hE hM.mn
def RowsO (D : FD) (B N K : Nat) (w : World) (v : Value) (a : Mtx) : Prop := ∃ vals, vals.length = a.length ∧ (∃ M, Row D B M w v vals) ∧ ∀ (j : Nat) (u : Value) (r : List Int), vals[j]? = some u → a[j]? = some r → RowO D B N K w u r
theorem Mat.rowsO {D : FD} {B M N K : Nat} {w : World} {sa : Option Addr} {cap : Nat} {a : Mtx} (h : Mat D B M w sa cap a) (hM : M ≤ N) : RowsO D B N K w (.slice sa a.length cap) a := by
  obtain ⟨vals, h1, h2, h3⟩ := h.ex
  exact ⟨vals, h1, ⟨_, h2⟩, fun j u r x y => .inr ((h3 j u r x y).mono hM)⟩
theorem RowO.cell1 {D : FD} {B N K : Nat} {w : World} {u : Value} {r : List Int} (h : RowO D B N K w u r) : u.oneCell' = true := by
  rcases h with ⟨b, h, _⟩ | h
  · obtain ⟨a, c, rfl⟩ := h.shape; rfl
  · obtain ⟨a, c, rfl⟩ := h.sl; rfl
theorem s_appMM {t e by_ N M0 K : Nat} {ats : Array TypeId} {z : Value} {b : Option Nat} {a0 a1 : Mtx} {xv : Value} {s : Operand} (hF : Fr n F a) (hat : ats = #[t, t]) (ht : Sl P t e z by_) (hs : ev F s = some v) (hx : ev F x = some xv)
    (hM : MOwn D B N M0 K w e v b a0) (hr : RowsO D B M0 K w xv a1) (hby : by_ = 24) (hsm : a0.length + a1.length ≤ 1000000) (hN : N ≤ w.heap.size) (he : e ≠ D.T) (hE : D.E ≠ e) (hI : Inv D B w) (hd : Nat.blt d n.n = true)
    (k : ∀ v' b' w' a, MOwn D B N M0 K w' e v' b' (a0 ++ a1) → Mb D B b w w' → Inv D B w' → Fr n ((d, v') :: F) a → WL P ops K' rest a w') :
    WL P ops K' (⟨some d, .call ⟨.builtin .append, #[s, x], ats⟩, T, pp, af, none⟩ :: rest) a w := by
  obtain ⟨vals, h2, h3, h4⟩ := hM.ex
  obtain ⟨vals2, l2, ⟨M2, hrow⟩, h5⟩ := hr
  subst hby
  have hone : ∀ u ∈ vals2, u.oneCell' = true := fun u hu => by
    obtain ⟨j, hj⟩ := List.getElem?_of_mem hu
    have := (List.getElem?_eq_some_iff.1 hj).1
    exact (h5 j u _ hj (List.getElem?_eq_getElem (by omega))).cell1
  refine s_app (D := D) (B := B) hF hat ht hs hx h3 hrow hone (by omega) (by simp only [maxLen]; omega) hN he hI hd ?_
  intro v' b' w' a' ho hm hI' hb' hF'
  refine k v' b' w' a' ⟨⟨vals ++ vals2, by simp [h2, l2], ho, fun j x y hx hy => ?_⟩, hM.mn⟩ hm hI' hF'
  by_cases hj : j < vals.length
  · rw [List.getElem?_append_left hj] at hx
    rw [List.getElem?_append_left (by omega)] at hy
    exact (h4 j x y hx hy).mb2 hm h3 hE hM.mn
  · rw [List.getElem?_append_right (by omega)] at hx
    rw [List.getElem?_append_right (by omega)] at hy
    rw [h2] at hx
    exact (h5 _ x y hx hy).mb2 hm h3 hE hM.mn
theorem v_eqlSl {sa : Option Addr} {len cap : Nat} {t e s : TypeId} {y : Operand} (hb : P.underlying t = some (.slice e)) (hx : ev F x = some (.slice sa len cap)) (hy : ev F y = some (.slice none 0 0)) : Val P (.binOp .eql t x y s) T F w (.bool sa.isNone) :=
  fun ρ h d p af g => by
    simp only [execOp, h x _ hx, h y _ hy, eqGuard, binOp]
    have he : ∀ (e : Nat), (Op.equalIn (e + 1) t (.slice sa len cap) (.slice none 0 0)).run P w = .ok sa.isNone w := by
      intro e
      cases sa <;> simp [Op.equalIn, underlying, hb, program, Sem.run]
    have he' : (Op.equal t (.slice sa len cap) (.slice none 0 0)).run P w = .ok sa.isNone w := he 9999
    simp [he']
end
theorem Own.ne_mown {D : FD} {B N N' M0 K : Nat} {w : World} {E E2 : TypeId} {v v' : Value} {b b' : Option Nat} {xs : List Value} {a : Mtx} (h : Own D B N w E v b xs) (h' : MOwn D B N' M0 K w E2 v' b' a) (hE : E ≠ E2) : ∀ k, b = some k → b' ≠ some k := by
  obtain ⟨vals, h1, h2, h3⟩ := h'.ex
  exact h.ne_type h2 hE
/-! ### a variable of its own block that is stored into -/
structure Box (D : FD) (B N : Nat) (w : World) (g : Nat) (E : TypeId) (v : Value) : Prop where
  blk : Blk w g E [v]
  low : N ≤ g
  base : B ≤ g
  priv : Priv D B w g
  ty : E ≠ D.T
theorem Box.st {D : FD} {B N : Nat} {w w' : World} {g : Nat} {E : TypeId} {v : Value} (h : Box D B N w g E v) (hs : St D B w w') : Box D B N w' g E v := ⟨h.blk.st h.ty hs, h.low, h.base, hs.ext.priv g (heap_lt h.blk) h.priv, h.ty⟩
theorem Box.xt {D : FD} {B N n : Nat} {w w' : World} {g : Nat} {E : TypeId} {v : Value} (h : Box D B N w g E v) (hs : Xt D B n w w') : Box D B N w' g E v := ⟨h.blk.xt h.ty hs, h.low, h.base, hs.priv g (heap_lt h.blk) h.priv, h.ty⟩
theorem Box.mb {D : FD} {B N : Nat} {b : Option Nat} {w w' : World} {g : Nat} {E : TypeId} {v : Value} (h : Box D B N w g E v) (hm : Mb D B b w w') (hb : b ≠ some g) : Box D B N w' g E v := ⟨h.blk.mb hm hb, h.low, h.base, hm.priv h.priv, h.ty⟩
theorem Box.stz {D : FD} {B N : Nat} {Z : Nat → Prop} {w w' : World} {g : Nat} {E : TypeId} {v : Value} (h : Box D B N w g E v) (hs : StZ D B Z w w') (hz : ¬ Z g) : Box D B N w' g E v := ⟨h.blk.stz h.ty hs hz, h.low, h.base, hs.ext.priv g (heap_lt h.blk) h.priv, h.ty⟩
theorem Box.at {D : FD} {B N : Nat} {w : World} {g : Nat} {E : TypeId} {v : Value} (h : Box D B N w g E v) : w.cell? ⟨g, 0, none⟩ = some v := h.blk.at 0 rfl
theorem Box.kc {D : FD} {B N : Nat} {w : World} {g : Nat} {E : TypeId} {v : Value} (h : Box D B N w g E v) : KC D B w ⟨g, 0, none⟩ v := h.blk.kc h.ty 0 rfl
theorem Box.ne_own {D : FD} {B N N' : Nat} {w : World} {g : Nat} {E E' : TypeId} {v u : Value} {b : Option Nat} {xs : List Value} (h : Box D B N w g E v) (ho : Own D B N' w E' u b xs) (hE : E ≠ E') : b ≠ some g := by
  intro e
  obtain ⟨_, hl⟩ := ho.lt g e
  rcases ho with ⟨_, h', _⟩ | ⟨g', cap, cur, rfl, hb, h1, hB, h2, h3⟩
  · rw [h'] at e; cases e
  · rw [hb] at e; obtain rfl := Option.some.inj e
    have hk : w.heap[g']? = _ := h.blk
    rw [h2] at hk
    exact hE (Obj.cells.inj (Option.some.inj hk)).2.1.symm
theorem MOwn.mbx {D : FD} {B N M0 K g : Nat} {w w' : World} {E2 : TypeId} {v : Value} {b : Option Nat} {a : Mtx} (h : MOwn D B N M0 K w E2 v b a) (hm : Mb D B (some g) w w') (hb : b ≠ some g) (hK : K ≤ g) (hN : M0 ≤ g) : MOwn D B N M0 K w' E2 v b a := by
  obtain ⟨vals, h1, h2, h3⟩ := h.ex
  exact ⟨⟨vals, h1, h2.mb hm (fun k e e2 => hb (e.trans e2.symm)), fun j x r p q => (h3 j x r p q).mb hm (fun k e => by cases e; exact ⟨hK, hN⟩)⟩, h.mn⟩
section
variable {P : Program} {ops : Array Oper} {K : Kont} {rest : List Oper} {n : NN} {F : Fs} {T : TypeId} {pp : String} {af : Array Edge} {v : Value} {d : Nat} {a : Act} {w : World} {x y : Operand} {D : FD} {B : Nat}
def Zv (P : Program) (e : TypeId) (z : Value) : Prop := z.cells = #[z] ∧ ∃ i, P.info? e = some i ∧ i.zero = some z
theorem zv_of {e : TypeId} {z : Value} (hz : z.cells = #[z]) (h : (P.info? e).map (fun i => i.zero) = some (some z)) : Zv P e z := by
  cases hi : P.info? e with
  | none => rw [hi] at h; cases h
  | some i => rw [hi] at h; exact ⟨hz, i, hi, by simpa using h⟩
theorem s_boxN {e : TypeId} (hF : Fr n F a) (hx : ev F x = some v) (hv : v.cells = #[v]) (he : e ≠ D.T) (hI : Inv D B w) (hd : Nat.blt d n.n = true)
    (k : ∀ w' a, Mb D B none w w' → Inv D B w' → Box D B w.heap.size w' w.heap.size e v → w'.heap.size = w.heap.size + 1 → Fr n ((d, .pointer (some ⟨w.heap.size, 0, none⟩)) :: F) a → WL P ops K rest a w') :
    WL P ops K (⟨some d, .box e x, T, pp, af, none⟩ :: rest) a w :=
  s_box hF hx he hI hd fun w' a hm hb hsz hF => k w' a hm (hm.inv hI) ⟨by rw [hv] at hb; exact hb, Nat.le_refl _, hI.1, hm.priv (hI.priv_new (Nat.le_refl _)), he⟩ hsz hF
theorem s_alloc {e : TypeId} {z : Value} (hF : Fr n F a) (hz : Zv P e z) (he : e ≠ D.T) (hI : Inv D B w) (hd : Nat.blt d n.n = true)
    (k : ∀ w' a, Mb D B none w w' → Inv D B w' → Box D B w.heap.size w' w.heap.size e z → w'.heap.size = w.heap.size + 1 → Fr n ((d, .pointer (some ⟨w.heap.size, 0, none⟩)) :: F) a → WL P ops K rest a w') :
    WL P ops K (⟨some d, .alloc e, T, pp, af, none⟩ :: rest) a w := by
  obtain ⟨h1, i, h2, h3⟩ := hz
  have hm := Mb.alloc D B w #[z] e (0, 0) he
  refine s_run (w' := w.alloc (.cells #[z] e)) hF (fun ρ h => ?_) hd fun a hF => k _ a hm (hm.inv hI) ⟨alloc_new w _, Nat.le_refl _, hI.1, hm.priv (hI.priv_new (Nat.le_refl _)), he⟩ (by simp) hF
  simp [execOp, Instr.alloc, zeroValue, typeInfo, h2, h3, h1, newVar, newRow, newObj, Sem.run]
theorem s_stb {t N g E : Nat} {u : Value} (hF : Fr n F a) (ht : One P t) (hx : ev F x = some (.pointer (some ⟨g, 0, none⟩))) (hy : ev F y = some u) (hu : u.oneCell' = true) (hb : Box D B N w g E v) (hI : Inv D B w)
    (k : ∀ w', Mb D B (some g) w w' → Inv D B w' → Box D B N w' g E u → WL P ops K rest a w') : WL P ops K (⟨none, .store t x y, T, pp, af, none⟩ :: rest) a w := by
  have hO : Own D B N w E (.slice (some ⟨g, 0, none⟩) 1 1) (some g) [v] := .inr ⟨g, 1, #[v], rfl, rfl, hb.low, hb.base, hb.blk, Nat.le_refl _, by simp [maxLen], rfl, rfl, hb.priv⟩
  refine s_set (D := D) (B := B) hF ht hx (by simp) hy hu hO hb.ty hI ?_
  intro w' hm hI' ho
  refine k w' hm hI' ?_
  rcases ho with ⟨_, h, _⟩ | ⟨g', cap, cur, e1, e2, h1, hB, h2, h3, h4, h5, h6, h7⟩
  · cases h
  · obtain rfl := Option.some.inj e2
    have hc : cap = 1 := by injection e1 with _ _ e4; exact e4.symm
    subst hc
    refine ⟨?_, h1, hB, h7, hb.ty⟩
    unfold Blk
    rw [h2]
    have : cur.toList = [u] := by
      have hl : cur.toList.length = 1 := by simpa using h5
      simp at h6
      rw [show cur.toList.take 1 = cur.toList from List.take_of_length_le (by omega)] at h6
      exact h6
    rw [← this]
end
theorem Fo.cells1 {D : FD} {B : Nat} {w : World} {v : Value} {o : Fq} (h : Fo D B w v o) : v.cells = #[v] := by
  cases o with
  | none => obtain rfl : v = .pointer none := h; rfl
  | some q => obtain ⟨_, k, rfl, _⟩ := h; rfl
/-! ### what the functions of matrices tell -/
def mayM (o : Fq) : Mtx → Bool
  | [] => false
  | r0 :: rs => decide ((r0 :: rs).length ≤ 20) && decide (1 ≤ r0.length ∧ r0.length ≤ 20) && (r0 :: rs).all fun r => decide (r.length = r0.length) && r.all (inF o)
def idM (n : Nat) : Mtx := (List.range n).map fun i => (List.range n).map fun j => if i = j then 1 else 0
def identM (n : Int) : Mtx := if 1 ≤ n ∧ n ≤ 20 then idM n.toNat else []
def rowM (a : Mtx) (i : Int) : List Int := a.getD i.toNat []
def pickB (o : Fq) (a : Mtx) (rows : List Int) : Bool := mayM o a && decide (1 ≤ rows.length ∧ rows.length ≤ 20) && rows.all fun i => decide (0 ≤ i ∧ i < (a.length : Int))
def pickM (o : Fq) (a : Mtx) (rows : List Int) : Option Mtx := if pickB o a rows = true then some (rows.map (rowM a)) else none
def wid (a : Mtx) : Nat := (a.getD 0 []).length
def joinB (o : Fq) (a b : Mtx) : Bool := mayM o a && mayM o b && decide (wid a = wid b) && decide (a.length + b.length ≤ 20)
def joinM (o : Fq) (a b : Mtx) : Option Mtx := if joinB o a b = true then some (a ++ b) else none
def dotN (o : Fq) (r c : List Int) : Nat := (List.zipWith (gmul o) r c).foldl (fun s z => s ^^^ z.toNat) 0
def colAt (b : Mtx) (j : Nat) : List Int := b.map fun r => r.getD j 0
def mulB (o : Fq) (a b : Mtx) : Bool := mayM o a && mayM o b && decide (wid a = b.length)
def mulRow (o : Fq) (b : Mtx) (r : List Int) : List Int := (List.range (wid b)).map fun j => (dotN o r (colAt b j) : Int)
def mulM (o : Fq) (a b : Mtx) : Option Mtx := if mulB o a b = true then some (a.map (mulRow o b)) else none
def applyM (o : Fq) (a : Mtx) (v : List Int) : Option (List Int) := (mulM o a (v.map fun x => [x])).map fun m => m.map fun r => r.getD 0 0
theorem mayM_pos {o : Fq} {a : Mtx} (h : mayM o a = true) : 1 ≤ a.length ∧ a.length ≤ 20 ∧ 1 ≤ wid a ∧ wid a ≤ 20 ∧ ∀ r ∈ a, r.length = wid a ∧ ∀ x ∈ r, inF o x = true := by
  cases a with
  | nil => cases h
  | cons r0 rs =>
    simp only [mayM, Bool.and_eq_true, decide_eq_true_eq, List.all_eq_true] at h
    obtain ⟨⟨h1, h2⟩, h3⟩ := h
    exact ⟨by simp, h1, h2.1, h2.2, fun r hr => ⟨(h3 r hr).1, (h3 r hr).2⟩⟩
theorem mayM_of {o : Fq} {a : Mtx} (h1 : 1 ≤ a.length) (h2 : a.length ≤ 20) (h3 : 1 ≤ wid a) (h4 : wid a ≤ 20) (h5 : ∀ r ∈ a, r.length = wid a ∧ ∀ x ∈ r, inF o x = true) : mayM o a = true := by
  cases a with
  | nil => simp at h1
  | cons r0 rs =>
    simp only [mayM, Bool.and_eq_true, decide_eq_true_eq, List.all_eq_true]
    exact ⟨⟨h2, h3, h4⟩, fun r hr => ⟨(h5 r hr).1, (h5 r hr).2⟩⟩
theorem mayM_iff {o : Fq} {a : Mtx} : mayM o a = true ↔ 1 ≤ a.length ∧ a.length ≤ 20 ∧ 1 ≤ wid a ∧ wid a ≤ 20 ∧ ∀ r ∈ a, r.length = wid a ∧ ∀ x ∈ r, inF o x = true :=
  ⟨mayM_pos, fun ⟨h1, h2, h3, h4, h5⟩ => mayM_of h1 h2 h3 h4 h5⟩
theorem wid_at {a : Mtx} {r : List Int} (h : a[0]? = some r) : wid a = r.length := by unfold wid; rw [List.getD_eq_getElem?_getD, h]; rfl
theorem mayM_no {o : Fq} {a : Mtx} (h : ¬ (1 ≤ a.length ∧ a.length ≤ 20 ∧ 1 ≤ wid a ∧ wid a ≤ 20 ∧ ∀ r ∈ a, r.length = wid a ∧ ∀ x ∈ r, inF o x = true)) : mayM o a = false := by
  cases hm : mayM o a with
  | false => rfl
  | true => exact absurd (mayM_pos hm) h
theorem fold_xor_lt {k : Nat} : ∀ (l : List Int) (s : Nat), s < 2 ^ k → (∀ z ∈ l, z.toNat < 2 ^ k) → l.foldl (fun s z => s ^^^ z.toNat) s < 2 ^ k
  | [], s, hs, _ => hs
  | z :: l, s, hs, h => fold_xor_lt l _ (Px.xor_lt hs (h z (by simp))) (fun y hy => h y (by simp [hy]))
theorem gmul_lt' (o : Fq) (hs : fsz o ≤ 65536) (a b : Int) (hp : ∀ q, o = some q → Prm q.1 q.2) : (gmul o a b).toNat < 65536 := by
  unfold gmul
  split
  · rename_i h
    cases o with
    | none => simp [fmul]
    | some q =>
      have := (hp q rfl).mulMod_lt a.toNat b.toNat
      have h2 : fsz (some q) = 2 ^ q.1 := rfl
      rw [h2] at hs
      show (mulMod a.toNat b.toNat q.2) < 65536
      omega
  · decide
/-! ### finding -/
def idxZ {α : Type} (p : α → Bool) (xs : List α) : Int := match xs.findIdx? p with | some i => (i : Int) | none => -1
theorem idxZ_at {α : Type} {p : α → Bool} {xs : List α} {i : Nat} {x : α} (h : ∀ y ∈ xs.take i, p y = false) (hi : xs[i]? = some x) (hx : p x = true) : idxZ p xs = (i : Int) := by
  have : xs.findIdx? p = some i := by
    rw [List.findIdx?_eq_some_iff_getElem]
    obtain ⟨hl, he⟩ := List.getElem?_eq_some_iff.1 hi
    refine ⟨hl, by rw [he]; exact hx, fun j hj => ?_⟩
    have hm : xs[j]'(by omega) ∈ xs.take i := by
      rw [List.mem_take_iff_getElem]
      exact ⟨j, by omega, rfl⟩
    simpa using h _ hm
  unfold idxZ; rw [this]
theorem idxZ_no {α : Type} {p : α → Bool} {xs : List α} (h : ∀ y ∈ xs, p y = false) : idxZ p xs = -1 := by
  have : xs.findIdx? p = none := by rw [List.findIdx?_eq_none_iff]; exact h
  unfold idxZ; rw [this]
theorem idxZ_any {α : Type} (p : α → Bool) (xs : List α) : decide (0 ≤ idxZ p xs) = xs.any p := by
  unfold idxZ
  cases h : xs.findIdx? p with
  | none =>
    rw [List.findIdx?_eq_none_iff] at h
    rw [List.any_eq_false.2 (fun x hx => by simpa using h x hx)]; rfl
  | some i =>
    rw [List.findIdx?_eq_some_iff_getElem] at h
    obtain ⟨hl, hp, _⟩ := h
    rw [List.any_eq_true.2 ⟨_, List.getElem_mem hl, hp⟩]
    simp
theorem take_snoc_no {α : Type} {p : α → Bool} {xs : List α} {i : Nat} {x : α} (h : ∀ y ∈ xs.take i, p y = false) (hi : xs[i]? = some x) (hx : p x = false) : ∀ y ∈ xs.take (i + 1), p y = false := by
  intro y hy
  rw [List.take_add_one, hi] at hy
  simp at hy
  rcases hy with hy | rfl
  · exact h y hy
  · exact hx
theorem mayM_eq {o : Fq} {a : Mtx} {r0 : List Int} (h0 : a[0]? = some r0) (h1 : a.length ≤ 20) (h2 : 1 ≤ r0.length ∧ r0.length ≤ 20) : (!a.any fun r => decide (r.length ≠ r0.length) || r.any fun x => !inF o x) = mayM o a := by
  rw [Bool.eq_iff_iff, mayM_iff]
  have hw := wid_at h0
  have hl := (List.getElem?_eq_some_iff.1 h0).1
  simp only [Bool.not_eq_true', List.any_eq_false, Bool.or_eq_true, decide_eq_true_eq, List.any_eq_true, not_or, Bool.not_eq_true, hw]
  constructor
  · intro h
    refine ⟨by omega, h1, h2.1, h2.2, fun r hr => ⟨?_, fun x hx => ?_⟩⟩
    · have := (h r hr).1; omega
    · cases hi : inF o x with
      | true => rfl
      | false => exact absurd ⟨x, hx, by simp [hi]⟩ (h r hr).2
  · rintro ⟨_, _, _, _, h⟩ r hr
    refine ⟨by have := (h r hr).1; omega, fun ⟨x, hx, hi⟩ => ?_⟩
    have := (h r hr).2 x hx
    rw [this] at hi; cases hi
def unitR (n i : Nat) : List Int := (List.range n).map fun j => if i = j then 1 else 0
theorem unitR_set (n i : Nat) (h : i < n) : (List.replicate n (0 : Int)).set i 1 = unitR n i := by
  apply List.ext_getElem
  · simp [unitR]
  · intro j h1 h2
    simp [unitR, List.getElem_set]
theorem unitR_length (n i : Nat) : (unitR n i).length = n := by simp [unitR]
theorem idM_eq (n : Nat) : idM n = (List.range n).map (unitR n) := rfl
theorem idM_snoc (n i : Nat) : (List.range (i + 1)).map (unitR n) = (List.range i).map (unitR n) ++ [unitR n i] := by rw [List.range_succ, List.map_append]; rfl
def dotP (o : Fq) (r c : List Int) (i : Nat) : Nat := dotN o (r.take i) (c.take i)
theorem dotP_step {o : Fq} {r c : List Int} {i : Nat} {x y : Int} (hx : r[i]? = some x) (hy : c[i]? = some y) : dotP o r c (i + 1) = dotP o r c i ^^^ (gmul o x y).toNat := by
  have h1 := (List.getElem?_eq_some_iff.1 hx).1
  have h2 := (List.getElem?_eq_some_iff.1 hy).1
  unfold dotP dotN
  rw [List.take_add_one, List.take_add_one, hx, hy, List.zipWith_append (by simp; omega), List.foldl_append]
  rfl
theorem dotP_all (o : Fq) {r c : List Int} (h : r.length = c.length) : dotP o r c r.length = dotN o r c := by
  unfold dotP; rw [List.take_length, h, List.take_length]
theorem gmul_nn {D : FD} {B : Nat} {w : World} {v : Value} {o : Fq} (h : Fo D B w v o) (a b : Int) : ∃ z : Nat, gmul o a b = (z : Int) ∧ z < 65536 := by
  have := gmul_bd h a b
  exact ⟨(gmul o a b).toNat, by omega, by omega⟩
theorem gmul_toNat_lt {D : FD} {B : Nat} {w : World} {v : Value} {o : Fq} (h : Fo D B w v o) (a b : Int) : (gmul o a b).toNat < 2 ^ 16 := by have := gmul_bd h a b; omega
theorem dotN_lt {D : FD} {B : Nat} {w : World} {v : Value} {o : Fq} (h : Fo D B w v o) (r c : List Int) : dotN o r c < 2 ^ 16 := by
  refine fold_xor_lt _ _ (by decide) (fun z hz => ?_)
  obtain ⟨i, hi⟩ := List.getElem?_of_mem hz
  rw [List.getElem?_zipWith] at hi
  cases h1 : r[i]? with
  | none => rw [h1] at hi; cases hi
  | some x =>
    cases h2 : c[i]? with
    | none => rw [h1, h2] at hi; cases hi
    | some y => rw [h1, h2] at hi; obtain rfl := Option.some.inj hi; exact gmul_toNat_lt h x y
theorem Row.nilx {D : FD} {B M len cap : Nat} {w : World} {xs : List Value} (h : Row D B M w (.slice none len cap) xs) : xs = [] := by
  rcases h with ⟨_, _, _, h⟩ | ⟨g, o, cap', h1, _⟩
  · exact h
  · cases h1
theorem ofz {l : List Int} (h : zints l = []) : l = [] := List.map_eq_nil_iff.1 h
theorem take_snoc {α : Type} {l : List α} {i : Nat} {x : α} (h : l[i]? = some x) : l.take (i + 1) = l.take i ++ [x] := by rw [List.take_add_one, h]; rfl
/-! ### columns -/
theorem KC.stz {D : FD} {B : Nat} {Z : Nat → Prop} {w w' : World} {a : Addr} {v : Value} (h : KC D B w a v) (hs : StZ D B Z w w') (hz : ¬ Z a.block) : KC D B w' a v := by
  have hk := hs.ext.keep a.block h.2.1 hz h.2.2
  exact ⟨(cell_of_heap hk).trans h.1, Nat.lt_of_lt_of_le h.2.1 hs.ext.size, h.2.2.imp id (notT_of hk)⟩
theorem Mk.xt {D : FD} {B n m : Nat} {ds : List Nat} {w w' : World} (h : Mk n ds w) (hs : Xt D B m w w') (hd : ∀ d ∈ ds, d < m) : Mk n ds w' :=
  ⟨h.1, fun k hk => ⟨(h.2 k hk).1, (hs.keep k (heap_lt (h.2 k hk).2) (.inl (hd k hk)) (.inr (notT_nc (h.2 k hk).2 rfl))).trans (h.2 k hk).2⟩⟩
theorem Fo.xt {D : FD} {B n : Nat} {w w' : World} {v : Value} {o : Fq} (h : Fo D B w v o) (hs : Xt D B n w w') : Fo D B w' v o := by
  cases o with
  | none => exact h
  | some q => obtain ⟨h1, k, h2, h3⟩ := h; exact ⟨h1, k, h2, hs.fld k _ _ h3⟩
theorem Fo.stz {D : FD} {B : Nat} {Z : Nat → Prop} {w w' : World} {v : Value} {o : Fq} (h : Fo D B w v o) (hs : StZ D B Z w w') : Fo D B w' v o := by
  cases o with
  | none => exact h
  | some q => obtain ⟨h1, k, h2, h3⟩ := h; exact ⟨h1, k, h2, hs.ext.fld k _ _ h3⟩
def encR (D : FD) (B : Nat) (x : List Int) (A : World) (v : Value) : Prop := ∃ b, Own D B 0 A D.E v b (zints x)
theorem encR.xt {D : FD} {B n : Nat} {x : List Int} {v : Value} {A C : World} (h : encR D B x A v) (hs : Xt D B n A C) : encR D B x C v := let ⟨b, h⟩ := h; ⟨b, h.xt D.ne hs⟩
def cfill (mt : Mtx) (j i : Nat) : List Int := (colAt mt j).take i ++ List.replicate (mt.length - i) 0
theorem colAt_length (mt : Mtx) (j : Nat) : (colAt mt j).length = mt.length := by simp [colAt]
theorem cfill_len {mt : Mtx} {j i : Nat} (h : i ≤ mt.length) : (cfill mt j i).length = mt.length := by simp [cfill, colAt_length]; omega
theorem cfill_zero (mt : Mtx) (j : Nat) : cfill mt j 0 = List.replicate mt.length 0 := by simp [cfill]
theorem cfill_all (mt : Mtx) (j : Nat) : cfill mt j mt.length = colAt mt j := by unfold cfill; rw [List.take_of_length_le (by rw [colAt_length]; omega)]; simp
theorem colAt_at {mt : Mtx} {j i : Nat} {r : List Int} {x : Int} (hr : mt[i]? = some r) (hx : r[j]? = some x) : (colAt mt j)[i]? = some x := by
  unfold colAt; rw [List.getElem?_map, hr]; simp [List.getD_eq_getElem?_getD, hx]
theorem cfill_step {mt : Mtx} {j i : Nat} {r : List Int} {x : Int} (hr : mt[i]? = some r) (hx : r[j]? = some x) : (cfill mt j i).set i x = cfill mt j (i + 1) := by
  have hl := (List.getElem?_eq_some_iff.1 hr).1
  have hc := colAt_at hr hx
  unfold cfill
  rw [List.set_append_right _ _ (by simp; omega), take_snoc hc, List.append_assoc]
  congr 1
  have e : i - ((colAt mt j).take i).length = 0 := by simp [colAt_length]; omega
  rw [e, show mt.length - i = (mt.length - (i + 1)) + 1 by omega, List.replicate_succ, List.set_cons_zero]
  rfl
theorem cols_at {mt : Mtx} {j : Nat} (h : j < wid mt) : ((List.range (wid mt)).map (colAt mt))[j]? = some (colAt mt j) := by simp [h]
theorem cols_get {mt : Mtx} {j : Nat} {x : List Int} (h : ((List.range (wid mt)).map (colAt mt))[j]? = some x) : j < wid mt ∧ x = colAt mt j := by
  have hl := (List.getElem?_eq_some_iff.1 h).1
  simp at hl
  rw [cols_at hl] at h
  exact ⟨hl, (Option.some.inj h).symm⟩
theorem mulRow_snoc {o : Fq} {b : Mtx} {r : List Int} {k : Nat} (h : k < wid b) : (mulRow o b r).take (k + 1) = (mulRow o b r).take k ++ [(dotN o r (colAt b k) : Int)] := by
  refine take_snoc ?_
  unfold mulRow
  simp [h]
theorem mulRow_length (o : Fq) (b : Mtx) (r : List Int) : (mulRow o b r).length = wid b := by simp [mulRow]
theorem mulM_t {o : Fq} {a b : Mtx} (h1 : mayM o a = true) (h2 : mayM o b = true) (h3 : wid a = b.length) : mulM o a b = some (a.map (mulRow o b)) := by
  unfold mulM mulB; rw [h1, h2, decide_eq_true h3]; rfl
theorem mulM_f {o : Fq} {a b : Mtx} (h : mayM o a = false ∨ mayM o b = false ∨ wid a ≠ b.length) : mulM o a b = none := by
  unfold mulM mulB
  rcases h with h | h | h
  · rw [h]; rfl
  · rw [h]; simp
  · rw [decide_eq_false h]; simp
theorem Mat.at1 {D : FD} {B M : Nat} {w : World} {sa : Option Addr} {cap : Nat} {a : Mtx} (h : Mat D B M w sa cap a) (h1 : 1 ≤ a.length) : ∃ g o, sa = some ⟨g, o, none⟩ := by
  obtain ⟨g, o, _, _, h2, _⟩ := h.row (List.getElem?_eq_getElem (show 0 < a.length by omega))
  exact ⟨g, o, h2⟩
theorem Mat.row2 {D : FD} {B M g o : Nat} {w : World} {cap : Nat} {a : Mtx} (h : Mat D B M w (some ⟨g, o, none⟩) cap a) {i : Nat} {r : List Int} (hi : a[i]? = some r) :
    ∃ pr cr, KC D B w ⟨g, o + i, none⟩ (.slice pr r.length cr) ∧ Row D B M w (.slice pr r.length cr) (zints r) ∧ g < M := by
  obtain ⟨g', o', pr, cr, h1, h2, h3, h4⟩ := h.row hi
  obtain ⟨rfl, rfl⟩ : g = g' ∧ o = o' := by injection h1 with h1; injection h1 with h1 h5; exact ⟨h1, h5⟩
  exact ⟨pr, cr, h2, h3, h4⟩
theorem take_snoc_all {α : Type} {p : α → Prop} {xs : List α} {i : Nat} {x : α} (h : ∀ y ∈ xs.take i, p y) (hi : xs[i]? = some x) (hx : p x) : ∀ y ∈ xs.take (i + 1), p y := by
  intro y hy
  rw [take_snoc hi] at hy
  rcases List.mem_append.1 hy with hy | hy
  · exact h y hy
  · obtain rfl : y = x := by simpa using hy
    exact hx
theorem take_snoc_eq {α : Type} {xs ys : List α} {i : Nat} {x : α} (h : xs.take i = ys.take i) (hx : xs[i]? = some x) (hy : ys[i]? = some x) : xs.take (i + 1) = ys.take (i + 1) := by rw [take_snoc hx, take_snoc hy, h]
theorem gmul_bdP {wb p : Nat} (hp : Prm wb p) (x y : Int) : 0 ≤ gmul (some (wb, p)) x y ∧ gmul (some (wb, p)) x y < 65536 := by
  have h := gmul_lt' (some (wb, p)) (by have h1 := hp.size; have h2 := hp.w; show 2 ^ wb ≤ 65536; rcases hp.w with rfl | rfl <;> decide) x y (fun q hq => by cases hq; exact hp)
  have h0 : 0 ≤ gmul (some (wb, p)) x y := by unfold gmul; split <;> omega
  omega
theorem gmul_nnP {wb p : Nat} (hp : Prm wb p) (x y : Int) : ∃ z : Nat, gmul (some (wb, p)) x y = (z : Int) ∧ z < 65536 := by
  have := gmul_bdP hp x y
  exact ⟨(gmul (some (wb, p)) x y).toNat, by omega, by omega⟩
theorem dotN_ltP {wb p : Nat} (hp : Prm wb p) (r c : List Int) : dotN (some (wb, p)) r c < 2 ^ 16 := by
  refine fold_xor_lt _ _ (by decide) (fun z hz => ?_)
  obtain ⟨i, hi⟩ := List.getElem?_of_mem hz
  rw [List.getElem?_zipWith] at hi
  cases h1 : r[i]? with
  | none => rw [h1] at hi; cases hi
  | some x =>
    cases h2 : c[i]? with
    | none => rw [h1, h2] at hi; cases hi
    | some y => rw [h1, h2] at hi; obtain rfl := Option.some.inj hi; have := gmul_bdP hp x y; omega
theorem mulRow_snoc' {o : Fq} {b : Mtx} {r : List Int} {k : Nat} (h : k < wid b) (hr : r.length = (colAt b k).length) : (mulRow o b r).take (k + 1) = (mulRow o b r).take k ++ [(dotP o r (colAt b k) r.length : Int)] := by rw [mulRow_snoc h, dotP_all o hr]
theorem unitR_snoc (n i j : Nat) (h : j < n) : (unitR n i).take (j + 1) = (unitR n i).take j ++ [if i = j then 1 else 0] := by
  refine take_snoc ?_
  unfold unitR
  simp [h]
theorem ident_done {n : Int} {i : Nat} (h : i = n.toNat ∧ n ≤ 20 ∨ i = 0 ∧ 20 < n) : (List.range i).map (unitR n.toNat) = identM n := by
  unfold identM
  split
  · rw [show i = n.toNat by omega, idM_eq]
  · rw [show i = 0 by omega]; rfl
def colM (l : List Int) : Mtx := l.map fun x => [x]
theorem getD_at {l : List Int} {i : Nat} {x : Int} (h : l[i]? = some x) : l.getD i 0 = x := by rw [List.getD_eq_getElem?_getD, h]; rfl
def fewM (a : Mtx) : Bool := decide (a.length ≤ 10) && a.all fun r => decide (r.length ≤ 10)
theorem map_snoc {α β : Type} {f : α → β} {l : List α} {i : Nat} {x : α} (h : l[i]? = some x) : (l.take (i + 1)).map f = (l.take i).map f ++ [f x] := by rw [take_snoc h, List.map_append]; rfl
theorem Rd.W_dS {P : Program} {r : Option Nat} {N : Kont} {X : List (Nat × Kont)} {R : Kont} {a : Act} {w : World} {ops : Array Oper} (S : World → Prop) {id m : Nat} (hsz : ops.size = m) (hm : P.follows .mixedOrders = true) (hd : noDefer ops.toList = true)
    (h : ∀ K : Kont, (∀ a w, N a w → K a w) → WS P S ops K m (Array.replicate m false) a { w with drawn := w.drawn + 1 }) : WI P r (.region id ops true) N X R a w := by
  subst hsz
  refine wpIn_mono (wpIn_region_draw fun t => ?_) Rd.qof_reg
  simp only [Region.schedule, hm, Bool.true_or, if_true]
  exact opsIn_of qof_no hd _ _ _ (wpAny_sound ops.size t _ a _ (wpAny_of_held _ _ _ _ (h N (fun _ _ h => h))))
end Go.Gam
