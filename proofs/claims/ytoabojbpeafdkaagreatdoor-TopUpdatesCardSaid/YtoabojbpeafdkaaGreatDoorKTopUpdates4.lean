/- Texts of the claim TopUpdates (part 4), put together in the order of their imports. -/
import Derived.Test.YtoabojbpeafdkaaGreatDoorKTopUpdates2
import Derived.Test.YtoabojbpeafdkaaGreatDoorKTopUpdates3
set_option linter.all false
set_option maxRecDepth 100000
set_option maxHeartbeats 1000000
/- The walks of package gf: products, powers, inverses. -/
namespace Go.Proofs.YtoabojbpeafdkaaGreatDoor
open Go Go.Gam
namespace FxFGfb
theorem en141 : Ent Tryz.prog 141 := ent Tryz.func141 (by kernel_rfl) (by kernel_rfl)
theorem en213 : Ent Tryz.prog 213 := ent Tryz.func213 (by kernel_rfl) (by kernel_rfl)
theorem en216 : Ent Tryz.prog 216 := ent Tryz.func216 (by kernel_rfl) (by kernel_rfl)
theorem en217 : Ent Tryz.prog 217 := ent Tryz.func217 (by kernel_rfl) (by kernel_rfl)
theorem en218 : Ent Tryz.prog 218 := ent Tryz.func218 (by kernel_rfl) (by kernel_rfl)
theorem en219 : Ent Tryz.prog 219 := ent Tryz.func219 (by kernel_rfl) (by kernel_rfl)
theorem en220 : Ent Tryz.prog 220 := ent Tryz.func220 (by kernel_rfl) (by kernel_rfl)
theorem en279 : Ent Tryz.prog 279 := ent Tryz.func279 (by kernel_rfl) (by kernel_rfl)
theorem fa286_0 : FieldFact Tryz.prog 286 0 0 := ff_of (sz := 2) Tryz.underlying286 (by kernel_rfl)
theorem fa286_1 : FieldFact Tryz.prog 286 1 3 := ff_of (sz := 0) Tryz.underlying286 (by kernel_rfl)
theorem fa286_2 : FieldFact Tryz.prog 286 2 4 := ff_of (sz := 0) Tryz.underlying286 (by kernel_rfl)
theorem fa288_0 : FieldFact Tryz.prog 288 0 0 := ff_of (sz := 0) Tryz.underlying288 (by kernel_rfl)
theorem fa288_1 : FieldFact Tryz.prog 288 1 1 := ff_of (sz := 0) Tryz.underlying288 (by kernel_rfl)
theorem fa288_2 : FieldFact Tryz.prog 288 2 2 := ff_of (sz := 4) Tryz.underlying288 (by kernel_rfl)
theorem hmix : Tryz.prog.follows .mixedOrders = true := by kernel_rfl
theorem sc138 : Scalar Tryz.prog 138 := ⟨_, Tryz.underlying138, by simp, by simp⟩
theorem sc3 : Scalar Tryz.prog 3 := ⟨_, Tryz.underlying3, by simp, by simp⟩
theorem sc49 : Scalar Tryz.prog 49 := ⟨_, Tryz.underlying49, by simp, by simp⟩
theorem sc93 : Scalar Tryz.prog 93 := ⟨_, Tryz.underlying93, by simp, by simp⟩
theorem sl49 : Sl Tryz.prog 49 3 (.int .i64 0) 8 := sl_of Tryz.underlying49 rfl (by kernel_rfl)
end FxFGfb
open FxFGfb
theorem Do_made_ok (B wb p k ge gl pb : Nat) (w : World) (hm : Made FDx B w k wb p ge gl) :
  Ret Tryz.prog 279 [.pointer (some ⟨k, 2, none⟩), .func (.func 280) #[] #[.pointer (some ⟨pb, 0, none⟩)]] w fun v w' => v = .tuple #[] ∧ w' = w :=
 (do_done k 2 _ w hm.c2).mono fun e w' ⟨h1, h2⟩ => ⟨_, h1, rfl, h2⟩
theorem Do_new_ok (B wb p k pb : Nat) (w : World) (hI : Inv FDx B w) (hB : B ≤ k) (hk : w.heap[k]? = some (.cells (fcells wb p 0 (.slice none 0 0) (.slice none 0 0)) FDx.T (0, 0))) (hp : Prm wb p)
  (hc : w.cell? ⟨pb, 0, none⟩ = some (.pointer (some ⟨k, 0, none⟩))) (hkb : k ≠ pb) :
  Ret Tryz.prog 279 [.pointer (some ⟨k, 2, none⟩), .func (.func 280) #[] #[.pointer (some ⟨pb, 0, none⟩)]] w fun v w' => v = .tuple #[] ∧ St FDx B w w' ∧ ∃ ge gl, Made FDx B w' k wb p ge gl := by
 have hu := setCell_heap (i := 3) (.int .i32 1) hk
 have hc' : (w.setCell ⟨k, 3, none⟩ (.int .i32 1)).cell? ⟨pb, 0, none⟩ = some (.pointer (some ⟨k, 0, none⟩)) := (cell_of_heap (a := ⟨pb, 0, none⟩) (hu.keep pb (Ne.symm hkb))).trans hc
 refine (do_first k 2 ⟨pb, 0, none⟩ w (fun w2 => ∃ g1 g2, Tst FDx (w.setCell ⟨k, 3, none⟩ (.int .i32 1)) w2 k #[.int .i64 (wb : Int), .int .u32 (p : Int), .int .u32 0, .int .i32 1, .int .u32 0, .slice (some ⟨g1, 0, none⟩) (2 ^ wb) (2 ^ wb), .slice (some ⟨g2, 0, none⟩) (2 ^ wb) (2 ^ wb)] g1 g2 (Px.expL wb p (2 ^ wb - 1)) (Px.logL wb p (2 ^ wb - 1))) ?_ ?_ ?_ ?_ ?_).mono ?_
 · simp [World.cell?, hk, fcells]
 · simp [World.cell?, hk, fcells]
 · simp [World.frozen?, hk]
 · exact Calls.mono (ready1_ok wb p k pb (.int .u32 0) (.int .i32 1) (.int .u32 0) _ hp hu.new hc' hkb) fun e w' ⟨v, h1, h2, h3⟩ => ⟨by rw [h1, h2], h3⟩
 · rintro w2 ⟨g1, g2, hT⟩
   exact ⟨hT.c 2 rfl, hT.c 3 rfl, by simp [World.frozen?, hT.blk], by simp [World.frozen?, hT.blk]⟩
 rintro e w' ⟨rfl, w2, ⟨g1, g2, hT⟩, rfl⟩
 have h := hT.done hI hB hk
 exact ⟨_, rfl, rfl, h.1, g1, g2, h.2⟩
theorem ready_made (B wb p k ge gl : Nat) (w : World) (hI : Inv FDx B w) (hmd : Made FDx B w k wb p ge gl) : Ret Tryz.prog 219 [.pointer (some ⟨k, 0, none⟩)] w fun v w' => v = .pointer (some ⟨k, 2, none⟩) ∧ St FDx B w w' ∧ ∃ ge gl, Made FDx B w' k wb p ge gl := by
 refine enter 12 [(0, .pointer (some ⟨k, 0, none⟩))] 2 Tryz.func219 rfl rfl rfl rfl rfl ?_; intro a hF
 have hS := St.refl hI
 refine W_sr rfl fun K hK => ?_
 refine s_box (D := FDx) (B := B) hF rfl (by decide) hS.inv rfl ?_; clear hF a; intro w' a hm hbox hsz hF
 replace hmd := hm.made hmd
 replace hS := hS.mb0 hm
 clear hm
 refine svw hK hF (v_assign rfl) rfl ?_; clear hF a hK K; intro a hF
 replace hF := hF.sub _ (c_ 2 rfl (c_ 1 rfl n_))
 refine W_sr rfl fun K hK => ?_
 refine sv5 hF (v_load sc138 rfl (hbox.at 0 rfl)) (v_nil rfl) (v_fieldAddr fa288_2 rfl) (v_fieldAddr fa286_0 rfl) (v_mkf rfl) rfl rfl rfl rfl rfl ?_; clear hF a; intro a hF
 refine sc hF rfl rfl rfl en279 rfl (Do_made_ok B wb p k ge gl _ _ hmd) ?_; clear hF a; intro v w' a hv hF
 obtain ⟨rfl, rfl⟩ := hv
 have hS' := St.refl hS.inv
 replace hmd := hmd.st hS'
 replace hbox := hbox.st (by decide) hS'
 replace hS := hS.trans hS'
 clear hS'
 refine wn hK ?_
 clear hK K
 replace hF := hF.sub _ (c_ 2 rfl (c_ 1 rfl n_))
 refine W_sr rfl fun K hK => ?_
 refine sv4w hK hF (v_load sc138 rfl (hbox.at 0 rfl)) (v_nil rfl) (v_fieldAddr fa288_2 rfl) (v_assign rfl) rfl rfl rfl rfl ?_; clear hF a hK K; intro a hF
 replace hF := hF.sub _ (c_ 2 rfl n_)
 refine W_ret ?_
 refine ⟨_, _, hF, rfl, ?_⟩
 exact ⟨rfl, hS, _, _, hmd⟩
theorem ready_new (B wb p k : Nat) (w : World) (hI : Inv FDx B w) (hB : B ≤ k) (hk : w.heap[k]? = some (.cells (fcells wb p 0 (.slice none 0 0) (.slice none 0 0)) FDx.T (0, 0))) (hp : Prm wb p) : Ret Tryz.prog 219 [.pointer (some ⟨k, 0, none⟩)] w fun v w' => v = .pointer (some ⟨k, 2, none⟩) ∧ St FDx B w w' ∧ ∃ ge gl, Made FDx B w' k wb p ge gl := by
 refine enter 12 [(0, .pointer (some ⟨k, 0, none⟩))] 2 Tryz.func219 rfl rfl rfl rfl rfl ?_; intro a hF
 have hS := St.refl hI
 have hlt := heap_lt hk
 refine W_sr rfl fun K hK => ?_
 refine s_box (D := FDx) (B := B) hF rfl (by decide) hS.inv rfl ?_; clear hF a; intro w' a hm hbox hsz hF
 replace hk := (hm.keep _ (heap_lt hk) (by simp)).trans hk
 replace hS := hS.mb0 hm
 clear hm
 have hkb : k ≠ w.heap.size := by omega
 generalize w.heap.size = pb at *
 refine svw hK hF (v_assign rfl) rfl ?_; clear hF a hK K; intro a hF
 replace hF := hF.sub _ (c_ 2 rfl (c_ 1 rfl n_))
 refine W_sr rfl fun K hK => ?_
 refine sv5 hF (v_load sc138 rfl (hbox.at 0 rfl)) (v_nil rfl) (v_fieldAddr fa288_2 rfl) (v_fieldAddr fa286_0 rfl) (v_mkf rfl) rfl rfl rfl rfl rfl ?_; clear hF a; intro a hF
 refine sc hF rfl rfl rfl en279 rfl (Do_new_ok B wb p k pb _ hS.inv hB hk hp (hbox.at 0 rfl) hkb) ?_; clear hF a; intro v w' a hv hF
 clear hk
 obtain ⟨rfl, hS', hmd⟩ := hv
 replace hbox := hbox.st (by decide) hS'
 replace hS := hS.trans hS'
 clear hS'
 refine wn hK ?_
 clear hK K
 replace hF := hF.sub _ (c_ 2 rfl (c_ 1 rfl n_))
 refine W_sr rfl fun K hK => ?_
 refine sv4w hK hF (v_load sc138 rfl (hbox.at 0 rfl)) (v_nil rfl) (v_fieldAddr fa288_2 rfl) (v_assign rfl) rfl rfl rfl rfl ?_; clear hF a hK K; intro a hF
 replace hF := hF.sub _ (c_ 2 rfl n_)
 refine W_ret ?_
 refine ⟨_, _, hF, rfl, ?_⟩
 exact ⟨rfl, hS, hmd⟩
theorem ready_ok (B wb p k : Nat) (w : World) (hI : Inv FDx B w) (hf : FOK FDx B w k wb p) (hp : Prm wb p) : Ret Tryz.prog 219 [.pointer (some ⟨k, 0, none⟩)] w fun v w' => v = .pointer (some ⟨k, 2, none⟩) ∧ St FDx B w w' ∧ ∃ ge gl, Made FDx B w' k wb p ge gl := by
 rcases hf.cases with ⟨hB, hk⟩ | ⟨ge, gl, hmd⟩
 · exact ready_new B wb p k w hI hB hk hp
 exact ready_made B wb p k ge gl w hI hmd
theorem Exp_some (B wb p k : Nat) (n : Int) (w : World) (hI : Inv FDx B w) (hf : FOK FDx B w k wb p) (hp : Prm wb p) (hn : -9223372036854775808 ≤ n ∧ n < 9223372036854775808) : Ret Tryz.prog 220 [.pointer (some ⟨k, 0, none⟩), .int .i64 n] w fun v w' => v = .int .i64 ((Px.pw p (n % ((2 ^ wb - 1 : Nat) : Int)).toNat : Int)) ∧ St FDx B w w' := by
 refine enter 25 [(0, .pointer (some ⟨k, 0, none⟩)), (1, .int .i64 n)] 4 Tryz.func220 rfl rfl rfl rfl rfl ?_; intro a hF
 have hS := St.refl hI
 have hsz := hp.size
 have horder := hp.order
 have htm := tmod_bd n (m := 2 ^ wb - 1) (by omega)
 have hidx := exp_index n (m := 2 ^ wb - 1) (by omega)
 have hi1 := Int.emod_nonneg n (show ((2 ^ wb - 1 : Nat) : Int) ≠ 0 by omega)
 have hi2 := Int.emod_lt_of_pos n (show (0 : Int) < ((2 ^ wb - 1 : Nat) : Int) by omega)
 obtain ⟨i, hi⟩ : ∃ i : Nat, n % ((2 ^ wb - 1 : Nat) : Int) = (i : Int) := ⟨(n % ((2 ^ wb - 1 : Nat) : Int)).toNat, by omega⟩
 rw [hi] at hidx
 refine W_sr rfl fun K hK => ?_
 refine svw hK hF (v_assign rfl) rfl ?_; clear hF a hK K; intro a hF
 refine W_seq ?_
 refine W_sr rfl fun K hK => ?_
 refine sv2w hK hF (v_move rfl) ((v_eqlNil (by exact Tryz.underlying138) rfl rfl).as (congrArg Value.bool (rfl))) rfl rfl ?_; clear hF a hK K; intro a hF
 replace hF := hF.sub _ (c_ 7 rfl (c_ 4 rfl (c_ 0 rfl (c_ 1 rfl n_))))
 refine W_ifF hF rfl ?_
 refine W_skip ?_
 refine W_sr rfl fun K hK => ?_
 refine sv hF (v_move rfl) rfl ?_; clear hF a; intro a hF
 refine sc hF rfl rfl rfl en216 rfl (Size_some k wb _ hf.w0 (by have := hp.w; omega)) ?_; clear hF a; intro v w' a hv hF
 obtain ⟨rfl, rfl⟩ := hv
 have hS' := St.refl hS.inv
 replace hf := hf.st hS'
 replace hS := hS.trans hS'
 clear hS'
 refine sv2w hK hF (v_subN (m := 2 ^ wb) (n := 1) rfl rfl (by omega) (by omega)) (v_assign rfl) rfl rfl ?_; clear hF a hK K; intro a hF
 replace hF := hF.sub _ (c_ 5 rfl (c_ 4 rfl (c_ 0 rfl (c_ 1 rfl n_))))
 refine W_sd (m := 15) rfl hmix hS.inv (fun K hK w1 hS' hh => ?_)
 replace hf := hf.st hS'
 replace hS := hS.trans hS'
 clear hS'
 clear hh
 refine a_v (i := 0) rfl (by kernel_rfl) hF (fun w2 hx => v_move rfl) rfl ?_; clear hF a; intro a hF
 refine a_v (i := 5) rfl (by kernel_rfl) hF (fun w2 hx => v_move rfl) rfl ?_; clear hF a; intro a hF
 refine a_v (i := 6) rfl (by kernel_rfl) hF (fun w2 hx => v_move rfl) rfl ?_; clear hF a; intro a hF
 refine a_v (i := 7) rfl (by kernel_rfl) hF (fun w2 hx => v_rem rfl rfl (by omega)) rfl ?_; clear hF a; intro a hF
 refine a_v (i := 8) rfl (by kernel_rfl) hF (fun w2 hx => v_move rfl) rfl ?_; clear hF a; intro a hF
 refine a_v (i := 9) rfl (by kernel_rfl) hF (fun w2 hx => v_addI rfl rfl (by omega)) rfl ?_; clear hF a; intro a hF
 refine a_v (i := 10) rfl (by kernel_rfl) hF (fun w2 hx => v_move rfl) rfl ?_; clear hF a; intro a hF
 refine a_v (i := 11) rfl (by kernel_rfl) hF (fun w2 hx => (v_remI rfl rfl (by omega) (by omega)).as (congrArg _ hidx)) rfl ?_; clear hF a; intro a hF
 refine a_e (i := 1) rfl (by kernel_rfl) ?_
 refine sc hF rfl rfl rfl en219 rfl (ready_ok B wb p k _ hS.inv hf hp) ?_; clear hF a; intro v w' a hv hF
 obtain ⟨rfl, hS', ge, gl, hmd⟩ := hv
 refine WL_nil ⟨hS'.ext, ?_⟩
 replace hS := hS.trans hS'
 clear hS'
 refine a_v (i := 2) rfl (by kernel_rfl) hF (fun w2 hx => v_nil rfl) rfl ?_; clear hF a; intro a hF
 refine a_v (i := 3) rfl (by kernel_rfl) hF (fun w2 hx => v_fieldAddr fa286_1 rfl) rfl ?_; clear hF a; intro a hF
 refine a_v (i := 4) rfl (by kernel_rfl) hF (fun w2 hx => v_load sc49 rfl (hx.made _ _ _ _ _ hmd).c5) rfl ?_; clear hF a; intro a hF
 refine a_v (i := 12) rfl (by kernel_rfl) hF (fun w2 hx => v_ixS sl49 rfl rfl (by omega) (by omega)) rfl ?_; clear hF a; intro a hF
 refine a_v (i := 13) rfl (by kernel_rfl) hF (fun w2 hx => v_load sc3 rfl (by rw [toNat_c, Nat.zero_add]; exact (hx.made _ _ _ _ _ hmd).exp (by omega))) rfl ?_; clear hF a; intro a hF
 refine a_v (i := 14) rfl (by kernel_rfl) hF (fun w2 hx => v_assign rfl) rfl ?_; clear hF a; intro a hF
 refine a_done (by kernel_rfl) (hK _ _ ?_)
 clear hK K
 replace hF := hF.sub _ (c_ 4 rfl n_)
 refine W_ret ?_
 refine ⟨_, _, hF, rfl, ?_⟩
 exact ⟨by rw [hi]; rfl, hS⟩
theorem Mul_gf (B : Nat) (o : Fq) (fv : Value) (ia ib : Int) (w : World) (hI : Inv FDx B w) (hf : Fo FDx B w fv o) : Ret Tryz.prog 141 [fv, .int .i64 ia, .int .i64 ib] w fun v w' => v = .int .i64 (gmul o ia ib) ∧ St FDx B w w' := by
 refine enter 58 [(0, fv), (1, .int .i64 ia), (2, .int .i64 ib)] 6 Tryz.func141 rfl rfl rfl rfl rfl ?_; intro a hF
 have hS := St.refl hI
 refine W_sr rfl fun K hK => ?_
 refine svw hK hF (v_assign rfl) rfl ?_; clear hF a hK K; intro a hF
 refine W_seq ?_
 refine W_block ?_
 refine W_sr rfl fun K hK => ?_
 refine sv3 hF (v_move rfl) (v_move rfl) (v_move rfl) rfl rfl rfl ?_; clear hF a; intro a hF
 refine s_bs (D := FDx) (B := B) hF sl49 rfl rfl (by decide) (by simp [Value.cells]) (by decide) hS.inv rfl ?_; clear hF a; intro w' a hm hI' hb hF
 replace hf := hf.mb hm
 replace hS := hS.mb0 hm
 clear hm hI'
 refine sc hF rfl rfl rfl en217 rfl (in_ok B o fv (some ⟨_, 0, none⟩) 2 [ia, ib] _ hS.inv hf (by simp) (own_in (D := FDx) (B := B) (zs := [ia, ib]) hb (by decide))) ?_; clear hF a; intro v w' a hv hF
 clear hb
 obtain ⟨rfl, rfl⟩ := hv
 have hS' := St.refl hS.inv
 replace hf := hf.st hS'
 replace hS := hS.trans hS'
 clear hS'
 refine sb hF (v_not rfl) rfl ?_ ?_
 ·
  clear hF a; intro hc1 a hF
  try simp only [dcl] at hc1
  refine sv hF (v_move rfl) rfl ?_; clear hF a; intro a hF
  refine svn2 hF rfl rfl rfl rfl rfl rfl ?_; clear hF a; intro a hF
  refine sv2 hF (v_pickT rfl rfl) (v_move rfl) rfl rfl ?_; clear hF a; intro a hF
  refine svn2 hF rfl rfl rfl rfl rfl rfl ?_; clear hF a; intro a hF
  refine sv2w hK hF (v_pickT rfl rfl) (v_assign rfl) rfl rfl ?_; clear hF a hK K; intro a hF
  replace hF := hF.sub _ (c_ 8 rfl (c_ 6 rfl (c_ 0 rfl (c_ 1 rfl (c_ 2 rfl n_)))))
  refine W_ifT hF rfl ?_
  refine W_sr rfl fun K hK => ?_
  refine svw hK hF (v_assign rfl) rfl ?_; clear hF a hK K; intro a hF
  replace hF := hF.sub _ (c_ 6 rfl (c_ 0 rfl (c_ 1 rfl (c_ 2 rfl n_))))
  refine W_ret ?_
  refine ⟨_, _, hF, rfl, ?_⟩
  first
   | exact ⟨by rw [gmul_out hc1], hS⟩
   | (subst_vars; exact ⟨by rw [gmul_zl], hS⟩)
   | (subst_vars; exact ⟨by rw [gmul_zr], hS⟩)
   | exact ⟨by rw [gmul_in hx hy, hp.pw_sum ei ej], hS⟩
   | exact ⟨by rw [gmul_in hx hy], hS⟩
 clear hF a; intro hc1 a hF
 try simp only [dcl] at hc1
 refine sv hF (v_move rfl) rfl ?_; clear hF a; intro a hF
 refine svg hF rfl ?_
 refine sv hF (v_move rfl) rfl ?_; clear hF a; intro a hF
 refine svg hF rfl ?_
 refine sb hF (v_eql rfl rfl) rfl ?_ ?_
 ·
  clear hF a; intro hc2 a hF
  try simp only [dcl] at hc2
  refine sv2 hF (v_pickF rfl rfl) (v_move rfl) rfl rfl ?_; clear hF a; intro a hF
  refine svn2 hF rfl rfl rfl rfl rfl rfl ?_; clear hF a; intro a hF
  refine sv2w hK hF (v_pickT rfl rfl) (v_assign rfl) rfl rfl ?_; clear hF a hK K; intro a hF
  replace hF := hF.sub _ (c_ 8 rfl (c_ 6 rfl (c_ 0 rfl (c_ 1 rfl (c_ 2 rfl n_)))))
  refine W_ifT hF rfl ?_
  refine W_sr rfl fun K hK => ?_
  refine svw hK hF (v_assign rfl) rfl ?_; clear hF a hK K; intro a hF
  replace hF := hF.sub _ (c_ 6 rfl (c_ 0 rfl (c_ 1 rfl (c_ 2 rfl n_))))
  refine W_ret ?_
  refine ⟨_, _, hF, rfl, ?_⟩
  first
   | exact ⟨by rw [gmul_out hc1], hS⟩
   | (subst_vars; exact ⟨by rw [gmul_zl], hS⟩)
   | (subst_vars; exact ⟨by rw [gmul_zr], hS⟩)
   | exact ⟨by rw [gmul_in hx hy, hp.pw_sum ei ej], hS⟩
   | exact ⟨by rw [gmul_in hx hy], hS⟩
 clear hF a; intro hc2 a hF
 try simp only [dcl] at hc2
 refine sv2 hF (v_pickF rfl rfl) (v_move rfl) rfl rfl ?_; clear hF a; intro a hF
 refine svg hF rfl ?_
 refine sv hF (v_move rfl) rfl ?_; clear hF a; intro a hF
 refine svg hF rfl ?_
 refine sv3w hK hF (v_eql rfl rfl) (v_pickF rfl rfl) (v_assign rfl) rfl rfl rfl ?_; clear hF a hK K; intro a hF
 replace hF := hF.sub _ (c_ 8 rfl (c_ 6 rfl (c_ 0 rfl (c_ 1 rfl (c_ 2 rfl n_)))))
 refine W_if hF rfl (fun hc3 => ?_) (fun hc3 => ?_)
 ·
  skip
  try simp only [dcl] at hc3
  refine W_sr rfl fun K hK => ?_
  refine svw hK hF (v_assign rfl) rfl ?_; clear hF a hK K; intro a hF
  replace hF := hF.sub _ (c_ 6 rfl (c_ 0 rfl (c_ 1 rfl (c_ 2 rfl n_))))
  refine W_ret ?_
  refine ⟨_, _, hF, rfl, ?_⟩
  first
   | exact ⟨by rw [gmul_out hc1], hS⟩
   | (subst_vars; exact ⟨by rw [gmul_zl], hS⟩)
   | (subst_vars; exact ⟨by rw [gmul_zr], hS⟩)
   | exact ⟨by rw [gmul_in hx hy, hp.pw_sum ei ej], hS⟩
   | exact ⟨by rw [gmul_in hx hy], hS⟩
 skip
 try simp only [dcl] at hc3
 rw [all2, Bool.and_eq_true] at hc1
 obtain ⟨hin, hinb⟩ := hc1
 obtain ⟨wb, p, k, rfl, rfl, hp, hfk⟩ := fo_some hf (a := ia) hin
 obtain ⟨x, rfl, hx⟩ := inF_nat hin
 obtain ⟨y, rfl, hy⟩ := inF_nat hinb
 have hsz := hp.size
 have hml := hp.mulMod_lt x y
 have hplt := hp.lt
 refine W_sr rfl fun K hK => ?_
 refine sv6w hK hF (v_move rfl) (v_nil rfl) (v_fieldAddr fa288_0 rfl) (v_load sc3 rfl hfk.w0) (v_eql rfl rfl) (v_assign rfl) rfl rfl rfl rfl rfl rfl ?_; clear hF a hK K; intro a hF
 replace hF := hF.sub _ (c_ 23 rfl (c_ 6 rfl (c_ 0 rfl (c_ 1 rfl (c_ 2 rfl n_)))))
 refine W_if hF rfl (fun hc4 => ?_) (fun hc4 => ?_)
 ·
  skip
  try simp only [dcl] at hc4
  refine W_sr rfl fun K hK => ?_
  refine sv6 hF (v_move rfl) (v_cv Tryz.underlying3 Tryz.underlying93 rfl (wrap_u32 _ (by omega))) (v_move rfl) (v_cv Tryz.underlying3 Tryz.underlying93 rfl (wrap_u32 _ (by omega))) (v_move rfl) (v_nil rfl) rfl rfl rfl rfl rfl rfl ?_; clear hF a; intro a hF
  refine sv2 hF (v_fieldAddr fa288_1 rfl) (v_load sc93 rfl hfk.p0) rfl rfl ?_; clear hF a; intro a hF
  refine sc hF rfl rfl rfl en218 rfl (MulMod_ok B x y p _ hS.inv (by omega) (by omega) (by omega)) ?_; clear hF a; intro v w' a hv hF
  obtain ⟨rfl, hS'⟩ := hv
  replace hS := hS.trans hS'
  clear hS'
  refine sv2w hK hF (v_cv Tryz.underlying93 Tryz.underlying3 rfl (wrap_i64 _ (by omega))) (v_assign rfl) rfl rfl ?_; clear hF a hK K; intro a hF
  replace hF := hF.sub _ (c_ 6 rfl (c_ 0 rfl (c_ 1 rfl (c_ 2 rfl n_))))
  refine W_ret ?_
  refine ⟨_, _, hF, rfl, ?_⟩
  first
   | exact ⟨by rw [gmul_out hc1], hS⟩
   | (subst_vars; exact ⟨by rw [gmul_zl], hS⟩)
   | (subst_vars; exact ⟨by rw [gmul_zr], hS⟩)
   | exact ⟨by rw [gmul_in hx hy, hp.pw_sum ei ej], hS⟩
   | exact ⟨by rw [gmul_in hx hy], hS⟩
 skip
 try simp only [dcl] at hc4
 refine W_skip ?_
 refine W_sr rfl fun K hK => ?_
 refine sv hF (v_move rfl) rfl ?_; clear hF a; intro a hF
 refine sc hF rfl rfl rfl en219 rfl (ready_ok B wb p k _ hS.inv hfk hp) ?_; clear hF a; intro v w' a hv hF
 obtain ⟨rfl, hS', ge, gl, hmd⟩ := hv
 replace hS := hS.trans hS'
 clear hS'
 refine svw hK hF (v_assign rfl) rfl ?_; clear hF a hK K; intro a hF
 replace hF := hF.sub _ (c_ 7 rfl (c_ 40 rfl (c_ 39 rfl (c_ 6 rfl (c_ 0 rfl (c_ 1 rfl (c_ 2 rfl n_)))))))
 obtain ⟨i, hi, ei, li⟩ := hp.log_of hx (by omega)
 obtain ⟨j, hj, ej, lj⟩ := hp.log_of hy (by omega)
 refine W_sd (m := 18) rfl hmix hS.inv (fun K hK w1 hS' hh => ?_)
 replace hmd := hmd.st hS'
 replace hS := hS.trans hS'
 clear hS'
 clear hh
 refine a_v (i := 0) rfl (by kernel_rfl) hF (fun w2 hx => v_move rfl) rfl ?_; clear hF a; intro a hF
 refine a_v (i := 1) rfl (by kernel_rfl) hF (fun w2 hx => v_move rfl) rfl ?_; clear hF a; intro a hF
 refine a_v (i := 2) rfl (by kernel_rfl) hF (fun w2 hx => v_nil rfl) rfl ?_; clear hF a; intro a hF
 refine a_v (i := 3) rfl (by kernel_rfl) hF (fun w2 hx => v_fieldAddr fa286_2 rfl) rfl ?_; clear hF a; intro a hF
 refine a_v (i := 4) rfl (by kernel_rfl) hF (fun w2 hx => v_load sc49 rfl (hx.made _ _ _ _ _ hmd).c6) rfl ?_; clear hF a; intro a hF
 refine a_v (i := 5) rfl (by kernel_rfl) hF (fun w2 hx => v_move rfl) rfl ?_; clear hF a; intro a hF
 refine a_v (i := 6) rfl (by kernel_rfl) hF (fun w2 hx => v_ixS sl49 rfl rfl (by omega) (by omega)) rfl ?_; clear hF a; intro a hF
 refine a_v (i := 7) rfl (by kernel_rfl) hF (fun w2 hx => v_load sc3 rfl (by rw [toNat_c, Nat.zero_add]; exact (hx.made _ _ _ _ _ hmd).log li)) rfl ?_; clear hF a; intro a hF
 refine a_v (i := 8) rfl (by kernel_rfl) hF (fun w2 hx => v_move rfl) rfl ?_; clear hF a; intro a hF
 refine a_v (i := 9) rfl (by kernel_rfl) hF (fun w2 hx => v_nil rfl) rfl ?_; clear hF a; intro a hF
 refine a_v (i := 10) rfl (by kernel_rfl) hF (fun w2 hx => v_fieldAddr fa286_2 rfl) rfl ?_; clear hF a; intro a hF
 refine a_v (i := 11) rfl (by kernel_rfl) hF (fun w2 hx => v_load sc49 rfl (hx.made _ _ _ _ _ hmd).c6) rfl ?_; clear hF a; intro a hF
 refine a_v (i := 12) rfl (by kernel_rfl) hF (fun w2 hx => v_move rfl) rfl ?_; clear hF a; intro a hF
 refine a_v (i := 13) rfl (by kernel_rfl) hF (fun w2 hx => v_ixS sl49 rfl rfl (by omega) (by omega)) rfl ?_; clear hF a; intro a hF
 refine a_v (i := 14) rfl (by kernel_rfl) hF (fun w2 hx => v_load sc3 rfl (by rw [toNat_c, Nat.zero_add]; exact (hx.made _ _ _ _ _ hmd).log lj)) rfl ?_; clear hF a; intro a hF
 refine a_v (i := 15) rfl (by kernel_rfl) hF (fun w2 hx => v_addI rfl rfl (by omega)) rfl ?_; clear hF a; intro a hF
 refine a_e (i := 16) rfl (by kernel_rfl) ?_
 refine sc hF rfl rfl rfl en220 rfl (Exp_some B wb p k ((i : Int) + (j : Int)) _ hS.inv hmd.fok hp (by omega)) ?_; clear hF a; intro v w' a hv hF
 obtain ⟨rfl, hS'⟩ := hv
 refine WL_nil ⟨hS'.ext, ?_⟩
 replace hmd := hmd.st hS'
 replace hS := hS.trans hS'
 clear hS'
 refine a_v (i := 17) rfl (by kernel_rfl) hF (fun w2 hx => v_assign rfl) rfl ?_; clear hF a; intro a hF
 refine a_done (by kernel_rfl) (hK _ _ ?_)
 clear hK K
 refine W_ret ?_
 refine ⟨_, _, hF, rfl, ?_⟩
 first
  | exact ⟨by rw [gmul_out hc1], hS⟩
  | (subst_vars; exact ⟨by rw [gmul_zl], hS⟩)
  | (subst_vars; exact ⟨by rw [gmul_zr], hS⟩)
  | exact ⟨by rw [gmul_in hx hy, hp.pw_sum ei ej], hS⟩
  | exact ⟨by rw [gmul_in hx hy], hS⟩
theorem powB_prm {wb p X n : Nat} (hp : Prm wb p) : powB X p 1 n = Px.pow X p n := by rw [← hp.mod1, powB_one]
theorem Pow_gf (B : Nat) (o : Fq) (fv : Value) (ia n : Int) (w : World) (hI : Inv FDx B w) (hf : Fo FDx B w fv o) (hn : -9223372036854775808 ≤ n ∧ n < 9223372036854775808) : Ret Tryz.prog 213 [fv, .int .i64 ia, .int .i64 n] w fun v w' => v = .int .i64 (gpow o ia n) ∧ St FDx B w w' := by
 refine enter 33 [(0, fv), (1, .int .i64 ia), (2, .int .i64 n)] 6 Tryz.func213 rfl rfl rfl rfl rfl ?_; intro a hF
 have hS := St.refl hI
 refine W_sr rfl fun K hK => ?_
 refine svw hK hF (v_assign rfl) rfl ?_; clear hF a hK K; intro a hF
 refine W_seq ?_
 refine W_sr rfl fun K hK => ?_
 refine sv2 hF (v_move rfl) (v_move rfl) rfl rfl ?_; clear hF a; intro a hF
 refine s_bs (D := FDx) (B := B) hF sl49 rfl rfl (by decide) (by simp [Value.cells]) (by decide) hS.inv rfl ?_; clear hF a; intro w' a hm hI' hb hF
 replace hf := hf.mb hm
 replace hS := hS.mb0 hm
 clear hm hI'
 refine sc hF rfl rfl rfl en217 rfl (in_ok B o fv (some ⟨_, 0, none⟩) 1 [ia] _ hS.inv hf (by simp) (own_in (D := FDx) (B := B) (zs := [ia]) hb (by decide))) ?_; clear hF a; intro v w' a hv hF
 clear hb
 obtain ⟨rfl, rfl⟩ := hv
 have hS' := St.refl hS.inv
 replace hf := hf.st hS'
 replace hS := hS.trans hS'
 clear hS'
 refine sb hF (v_not rfl) rfl ?_ ?_
 ·
  clear hF a; intro hc1 a hF
  try simp only [dcl] at hc1
  refine sv hF (v_move rfl) rfl ?_; clear hF a; intro a hF
  refine svn2 hF rfl rfl rfl rfl rfl rfl ?_; clear hF a; intro a hF
  refine svw hK hF (v_pickT rfl rfl) rfl ?_; clear hF a hK K; intro a hF
  replace hF := hF.sub _ (c_ 16 rfl (c_ 6 rfl (c_ 0 rfl (c_ 1 rfl (c_ 2 rfl n_)))))
  refine W_ifT hF rfl ?_
  refine W_sr rfl fun K hK => ?_
  refine svw hK hF (v_assign rfl) rfl ?_; clear hF a hK K; intro a hF
  replace hF := hF.sub _ (c_ 6 rfl (c_ 0 rfl (c_ 1 rfl (c_ 2 rfl n_))))
  refine W_ret ?_
  refine ⟨_, _, hF, rfl, ?_⟩
  rw [all1] at hc1
  exact ⟨by rw [gpow_out (.inl hc1)], hS⟩
 clear hF a; intro hc1 a hF
 try simp only [dcl] at hc1
 refine sv hF (v_move rfl) rfl ?_; clear hF a; intro a hF
 refine svg hF rfl ?_
 refine sv hF (v_move rfl) rfl ?_; clear hF a; intro a hF
 refine svg hF rfl ?_
 refine sv2w hK hF (v_lss rfl rfl) (v_pickF rfl rfl) rfl rfl ?_; clear hF a hK K; intro a hF
 replace hF := hF.sub _ (c_ 16 rfl (c_ 6 rfl (c_ 0 rfl (c_ 1 rfl (c_ 2 rfl n_)))))
 refine W_if hF rfl (fun hc2 => ?_) (fun hc2 => ?_)
 ·
  skip
  try simp only [dcl] at hc2
  refine W_sr rfl fun K hK => ?_
  refine svw hK hF (v_assign rfl) rfl ?_; clear hF a hK K; intro a hF
  replace hF := hF.sub _ (c_ 6 rfl (c_ 0 rfl (c_ 1 rfl (c_ 2 rfl n_))))
  refine W_ret ?_
  refine ⟨_, _, hF, rfl, ?_⟩
  exact ⟨by rw [gpow_out (.inr (by omega))], hS⟩
 skip
 try simp only [dcl] at hc2
 refine W_skip ?_
 rw [all1] at hc1
 have hin := hc1
 obtain ⟨wb, p, k, rfl, rfl, hp, hfk⟩ := fo_some hf (a := ia) hin
 obtain ⟨x0, rfl, hx0⟩ := inF_nat hin
 obtain ⟨n0, rfl⟩ : ∃ n0 : Nat, n = (n0 : Int) := ⟨n.toNat, by omega⟩
 have hsz := hp.size
 refine W_sr rfl fun K hK => ?_
 refine svw hK hF (v_assign rfl) rfl ?_; clear hF a hK K; intro a hF
 replace hF := hF.sub _ (c_ 7 rfl (c_ 6 rfl (c_ 0 rfl (c_ 1 rfl (c_ 2 rfl n_)))))
 refine W_seq ?_
 refine W_block ?_
 refine W_loop (fun m a w1 => ∃ x q : Nat, Fr 33 [(0, .pointer (some ⟨k, 0, none⟩)), (1, .int .i64 (x : Int)), (2, .int .i64 (m : Int)), (7, .int .i64 (q : Int))] a ∧ St FDx B w w1 ∧ Fo FDx B w1 (.pointer (some ⟨k, 0, none⟩)) (some (wb, p)) ∧ powB x p q m = powB x0 p 1 n0 ∧ x < 2 ^ wb ∧ q < 2 ^ wb ∧ m < 9223372036854775808) (n0) ?_ ?_
 · skip
   exact ⟨_, 1, hF.sub _ (c_ 0 rfl (c_ 1 rfl (c_ 2 rfl (c_ 7 rfl n_)))), hS, hf, rfl, hx0, by omega, by omega⟩
 skip
 clear hF
 clear hS hf hfk
 rintro m a w1 ⟨x, q, hF, hS, hf, hg, hx, hq, hm⟩
 refine W_seq ?_
 refine W_sr rfl fun K hK => ?_
 refine sv2w hK hF (v_move rfl) (v_gtr rfl rfl) rfl rfl ?_; clear hF a hK K; intro a hF
 replace hF := hF.sub _ (c_ 18 rfl (c_ 0 rfl (c_ 1 rfl (c_ 2 rfl (c_ 7 rfl n_)))))
 refine W_if hF rfl (fun hc3 => ?_) (fun hc3 => ?_)
 ·
  skip
  try simp only [dcl] at hc3
  refine W_skip ?_
  refine W_seq ?_
  refine W_block ?_
  refine W_seq ?_
  refine W_sr rfl fun K hK => ?_
  refine sv3w hK hF (v_move rfl) (v_andN (n := 1) rfl rfl (fits_i64 hm) (fits_i64 (by decide))) (v_eql rfl rfl) rfl rfl rfl ?_; clear hF a hK K; intro a hF
  replace hF := hF.sub _ (c_ 23 rfl (c_ 0 rfl (c_ 1 rfl (c_ 2 rfl (c_ 7 rfl n_)))))
  refine W_if hF rfl (fun hc4 => ?_) (fun hc4 => ?_)
  ·
   skip
   try simp only [dcl] at hc4
   rw [Nat.and_one_is_mod] at hc4
   rw [powB_odd x p q (by omega)] at hg
   have hml := hp.mulMod_lt q x
   refine W_reg rfl fun K hK => ?_
   refine sv3 hF (v_move rfl) (v_move rfl) (v_move rfl) rfl rfl rfl ?_; clear hF a; intro a hF
   refine sc hF rfl rfl rfl en141 rfl (Mul_gf B (some (wb, p)) _ q x _ hS.inv hf) ?_; clear hF a; intro v w' a hv hF
   obtain ⟨rfl, hS'⟩ := hv
   replace hf := hf.st hS'
   replace hS := hS.trans hS'
   clear hS'
   rw [gmul_in hq hx] at hF
   refine svw hK hF (v_assign rfl) rfl ?_; clear hF a hK K; intro a hF
   replace hF := hF.sub _ (c_ 7 rfl (c_ 0 rfl (c_ 1 rfl (c_ 2 rfl n_))))
   refine W_reg rfl fun K hK => ?_
   refine sv3 hF (v_move rfl) (v_move rfl) (v_move rfl) rfl rfl rfl ?_; clear hF a; intro a hF
   refine sc hF rfl rfl rfl en141 rfl (Mul_gf B (some (wb, p)) _ x x _ hS.inv hf) ?_; clear hF a; intro v w' a hv hF
   obtain ⟨rfl, hS'⟩ := hv
   replace hf := hf.st hS'
   replace hS := hS.trans hS'
   clear hS'
   rw [gmul_in hx hx] at hF
   refine svw hK hF (v_assign rfl) rfl ?_; clear hF a hK K; intro a hF
   replace hF := hF.sub _ (c_ 1 rfl (c_ 7 rfl (c_ 0 rfl (c_ 2 rfl n_))))
   refine W_reg rfl fun K hK => ?_
   refine sv3w hK hF (v_move rfl) (v_shrN (m := m) rfl rfl (by decide)) (v_assign rfl) rfl rfl rfl ?_; clear hF a hK K; intro a hF
   exact ⟨m / 2, by omega, _, _, hF.sub _ (c_ 0 rfl (c_ 1 rfl (c_ 2 rfl (c_ 7 rfl n_)))), hS, hf, hg, hp.mulMod_lt _ _, by first | exact hml | exact hq, by omega⟩
  skip
  try simp only [dcl] at hc4
  rw [Nat.and_one_is_mod] at hc4
  rw [powB_even x p q (by omega) (by omega)] at hg
  refine W_skip ?_
  refine W_reg rfl fun K hK => ?_
  refine sv3 hF (v_move rfl) (v_move rfl) (v_move rfl) rfl rfl rfl ?_; clear hF a; intro a hF
  refine sc hF rfl rfl rfl en141 rfl (Mul_gf B (some (wb, p)) _ x x _ hS.inv hf) ?_; clear hF a; intro v w' a hv hF
  obtain ⟨rfl, hS'⟩ := hv
  replace hf := hf.st hS'
  replace hS := hS.trans hS'
  clear hS'
  rw [gmul_in hx hx] at hF
  refine svw hK hF (v_assign rfl) rfl ?_; clear hF a hK K; intro a hF
  replace hF := hF.sub _ (c_ 1 rfl (c_ 0 rfl (c_ 2 rfl (c_ 7 rfl n_))))
  refine W_reg rfl fun K hK => ?_
  refine sv3w hK hF (v_move rfl) (v_shrN (m := m) rfl rfl (by decide)) (v_assign rfl) rfl rfl rfl ?_; clear hF a hK K; intro a hF
  exact ⟨m / 2, by omega, _, _, hF.sub _ (c_ 0 rfl (c_ 1 rfl (c_ 2 rfl (c_ 7 rfl n_)))), hS, hf, hg, hp.mulMod_lt _ _, by first | exact hml | exact hq, by omega⟩
 skip
 try simp only [dcl] at hc3
 obtain rfl : m = 0 := by omega
 rw [powB_zero] at hg
 refine W_exit rfl ?_
 refine W_sr rfl fun K hK => ?_
 refine sv2w hK hF (v_move rfl) (v_assign rfl) rfl rfl ?_; clear hF a hK K; intro a hF
 replace hF := hF.sub _ (c_ 6 rfl (c_ 32 rfl (c_ 0 rfl (c_ 1 rfl (c_ 2 rfl (c_ 7 rfl n_))))))
 refine W_ret ?_
 refine ⟨_, _, hF, rfl, ?_⟩
 exact ⟨by rw [gpow_in hx0, hg, powB_prm hp], hS⟩
theorem Inv_gf (B : Nat) (o : Fq) (fv : Value) (ia : Int) (w : World) (hI : Inv FDx B w) (hf : Fo FDx B w fv o) : Ret Tryz.prog 205 [fv, .int .i64 ia] w fun v w' => v = .tuple #[.int .i64 (ginv o ia), .bool (ginvb o ia)] ∧ St FDx B w w' := by
 refine enter2 21 [(0, fv), (1, .int .i64 ia)] 4 5 Tryz.func205 rfl rfl rfl rfl rfl ?_; intro a hF
 have hS := St.refl hI
 refine W_sr rfl fun K hK => ?_
 refine sv2w hK hF (v_assign rfl) (v_assign rfl) rfl rfl ?_; clear hF a hK K; intro a hF
 refine W_seq ?_
 refine W_sr rfl fun K hK => ?_
 refine sv2 hF (v_move rfl) (v_move rfl) rfl rfl ?_; clear hF a; intro a hF
 refine s_bs (D := FDx) (B := B) hF sl49 rfl rfl (by decide) (by simp [Value.cells]) (by decide) hS.inv rfl ?_; clear hF a; intro w' a hm hI' hb hF
 replace hf := hf.mb hm
 replace hS := hS.mb0 hm
 clear hm hI'
 refine sc hF rfl rfl rfl en217 rfl (in_ok B o fv (some ⟨_, 0, none⟩) 1 [ia] _ hS.inv hf (by simp) (own_in (D := FDx) (B := B) (zs := [ia]) hb (by decide))) ?_; clear hF a; intro v w' a hv hF
 clear hb
 obtain ⟨rfl, rfl⟩ := hv
 have hS' := St.refl hS.inv
 replace hf := hf.st hS'
 replace hS := hS.trans hS'
 clear hS'
 refine sb hF (v_not rfl) rfl ?_ ?_
 ·
  clear hF a; intro hc1 a hF
  try simp only [dcl] at hc1
  refine sv hF (v_move rfl) rfl ?_; clear hF a; intro a hF
  refine svn2 hF rfl rfl rfl rfl rfl rfl ?_; clear hF a; intro a hF
  refine svw hK hF (v_pickT rfl rfl) rfl ?_; clear hF a hK K; intro a hF
  replace hF := hF.sub _ (c_ 14 rfl (c_ 5 rfl (c_ 4 rfl (c_ 0 rfl (c_ 1 rfl n_)))))
  refine W_ifT hF rfl ?_
  refine W_sr rfl fun K hK => ?_
  refine sv2w hK hF (v_assign rfl) (v_assign rfl) rfl rfl ?_; clear hF a hK K; intro a hF
  replace hF := hF.sub _ (c_ 5 rfl (c_ 4 rfl (c_ 0 rfl (c_ 1 rfl n_))))
  refine W_ret ?_
  refine ⟨_, _, _, hF, rfl, rfl, ?_⟩
  rw [all1] at hc1
  exact ⟨by rw [ginv_out (.inl hc1), ginvb_out (.inl hc1)], hS⟩
 clear hF a; intro hc1 a hF
 try simp only [dcl] at hc1
 refine sv hF (v_move rfl) rfl ?_; clear hF a; intro a hF
 refine svg hF rfl ?_
 refine sv hF (v_move rfl) rfl ?_; clear hF a; intro a hF
 refine svg hF rfl ?_
 refine sv2w hK hF (v_eql rfl rfl) (v_pickF rfl rfl) rfl rfl ?_; clear hF a hK K; intro a hF
 replace hF := hF.sub _ (c_ 14 rfl (c_ 5 rfl (c_ 4 rfl (c_ 0 rfl (c_ 1 rfl n_)))))
 refine W_if hF rfl (fun hc2 => ?_) (fun hc2 => ?_)
 ·
  skip
  try simp only [dcl] at hc2
  refine W_sr rfl fun K hK => ?_
  refine sv2w hK hF (v_assign rfl) (v_assign rfl) rfl rfl ?_; clear hF a hK K; intro a hF
  replace hF := hF.sub _ (c_ 5 rfl (c_ 4 rfl (c_ 0 rfl (c_ 1 rfl n_))))
  refine W_ret ?_
  refine ⟨_, _, _, hF, rfl, rfl, ?_⟩
  exact ⟨by rw [ginv_out (.inr (by omega)), ginvb_out (.inr (by omega))], hS⟩
 skip
 try simp only [dcl] at hc2
 refine W_skip ?_
 rw [all1] at hc1
 have hsz := fsz_le hf
 refine W_sr rfl fun K hK => ?_
 refine sv3 hF (v_move rfl) (v_move rfl) (v_move rfl) rfl rfl rfl ?_; clear hF a; intro a hF
 refine sc hF rfl rfl rfl en216 rfl (Size_ok B o fv _ hf) ?_; clear hF a; intro v w' a hv hF
 obtain ⟨rfl, rfl⟩ := hv
 have hS' := St.refl hS.inv
 replace hf := hf.st hS'
 replace hS := hS.trans hS'
 clear hS'
 refine sv hF (v_subI rfl rfl (by omega)) rfl ?_; clear hF a; intro a hF
 refine sc hF rfl rfl rfl en213 rfl (Pow_gf B o fv ia ((fsz o : Int) - 2) _ hS.inv hf (by omega)) ?_; clear hF a; intro v w' a hv hF
 obtain ⟨rfl, hS'⟩ := hv
 replace hf := hf.st hS'
 replace hS := hS.trans hS'
 clear hS'
 refine sv2w hK hF (v_assign rfl) (v_assign rfl) rfl rfl ?_; clear hF a hK K; intro a hF
 replace hF := hF.sub _ (c_ 5 rfl (c_ 4 rfl n_))
 refine W_ret ?_
 refine ⟨_, _, _, hF, rfl, rfl, ?_⟩
 exact ⟨by rw [ginv_in hc1 (by omega), ginvb_in hc1 (by omega)], hS⟩
end Go.Proofs.YtoabojbpeafdkaaGreatDoor
/- The walks of package region. -/
namespace Go.Proofs.YtoabojbpeafdkaaGreatDoor
open Go Go.Gam
namespace FxFReg
theorem en80 : Ent Tryz.prog 80 := ent Tryz.func80 (by kernel_rfl) (by kernel_rfl)
theorem en127 : Ent Tryz.prog 127 := ent Tryz.func127 (by kernel_rfl) (by kernel_rfl)
theorem en139 : Ent Tryz.prog 139 := ent Tryz.func139 (by kernel_rfl) (by kernel_rfl)
theorem en140 : Ent Tryz.prog 140 := ent Tryz.func140 (by kernel_rfl) (by kernel_rfl)
theorem en141 : Ent Tryz.prog 141 := ent Tryz.func141 (by kernel_rfl) (by kernel_rfl)
theorem en142 : Ent Tryz.prog 142 := ent Tryz.func142 (by kernel_rfl) (by kernel_rfl)
theorem en215 : Ent Tryz.prog 215 := ent Tryz.func215 (by kernel_rfl) (by kernel_rfl)
theorem en216 : Ent Tryz.prog 216 := ent Tryz.func216 (by kernel_rfl) (by kernel_rfl)
theorem en221 : Ent Tryz.prog 221 := ent Tryz.func221 (by kernel_rfl) (by kernel_rfl)
theorem on3 : Gam.One Tryz.prog 3 := by unfold Gam.One; kernel_rfl
theorem on5 : Gam.One Tryz.prog 5 := by unfold Gam.One; kernel_rfl
theorem sc23 : Scalar Tryz.prog 23 := ⟨_, Tryz.underlying23, by simp, by simp⟩
theorem sc3 : Scalar Tryz.prog 3 := ⟨_, Tryz.underlying3, by simp, by simp⟩
theorem sc5 : Scalar Tryz.prog 5 := ⟨_, Tryz.underlying5, by simp, by simp⟩
theorem sl23 : Sl Tryz.prog 23 5 (.int .u8 0) 1 := sl_of Tryz.underlying23 rfl (by kernel_rfl)
theorem sl48 : Sl Tryz.prog 48 23 (.slice none 0 0) 24 := sl_of Tryz.underlying48 rfl (by kernel_rfl)
theorem sl49 : Sl Tryz.prog 49 3 (.int .i64 0) 8 := sl_of Tryz.underlying49 rfl (by kernel_rfl)
end FxFReg
open FxFReg
theorem width_ok (B : Nat) (o : Fq) (fv : Value) (w : World) (hf : Fo FDx B w fv o) (hb : fbits o ≤ 64) : Ret Tryz.prog 215 [fv] w fun v w' => v = .int .i64 ((fbits o / 8 : Nat) : Int) ∧ w' = w := by
 refine enter 6 [(0, fv)] 2 Tryz.func215 rfl rfl rfl rfl rfl ?_; intro a hF
 refine W_sr rfl fun K hK => ?_
 refine svw hK hF (v_assign rfl) rfl ?_; clear hF a hK K; intro a hF
 refine W_sr rfl fun K hK => ?_
 refine sv hF (v_move rfl) rfl ?_; clear hF a; intro a hF
 refine sc hF rfl rfl rfl en221 rfl (Bits_ok B o fv _ hf) ?_; clear hF a; intro v w' a hv hF
 obtain ⟨rfl, rfl⟩ := hv
 skip
 refine sv2w hK hF (v_quoN (m := fbits o) (n := 8) rfl rfl (by decide) (fits_i64 (by omega))) (v_assign rfl) rfl rfl ?_; clear hF a hK K; intro a hF
 replace hF := hF.sub _ (c_ 2 rfl n_)
 refine W_ret ?_
 refine ⟨_, _, hF, rfl, ?_⟩
 exact ⟨rfl, rfl⟩
theorem in_reg (B : Nat) (o : Fq) (fv : Value) (ia : Int) (w : World) (hf : Fo FDx B w fv o) : Ret Tryz.prog 140 [fv, .int .i64 ia] w fun v w' => v = .bool (inF o ia) ∧ w' = w := by
 refine enter 13 [(0, fv), (1, .int .i64 ia)] 4 Tryz.func140 rfl rfl rfl rfl rfl ?_; intro a hF
 refine W_sr rfl fun K hK => ?_
 refine svw hK hF (v_assign rfl) rfl ?_; clear hF a hK K; intro a hF
 refine W_sr rfl fun K hK => ?_
 refine sv hF (v_move rfl) rfl ?_; clear hF a; intro a hF
 refine sb hF (v_geq rfl rfl) rfl ?_ ?_
 ·
  clear hF a; intro hc1 a hF
  try simp only [dcl] at hc1
  refine sv hF (v_move rfl) rfl ?_; clear hF a; intro a hF
  refine svg hF rfl ?_
  refine sv hF (v_move rfl) rfl ?_; clear hF a; intro a hF
  refine svg hF rfl ?_
  refine sv hF (v_move rfl) rfl ?_; clear hF a; intro a hF
  refine svg hF rfl ?_
  refine sc hF rfl rfl rfl en216 rfl (Size_ok B o fv _ hf) ?_; clear hF a; intro v w' a hv hF
  obtain ⟨rfl, rfl⟩ := hv
  skip
  refine svg hF rfl ?_
  refine sv3w hK hF (v_lss rfl rfl) (v_pickT rfl rfl) (v_assign rfl) rfl rfl rfl ?_; clear hF a hK K; intro a hF
  replace hF := hF.sub _ (c_ 4 rfl n_)
  refine W_ret ?_
  refine ⟨_, _, hF, rfl, ?_⟩
  refine ⟨congrArg _ ?_, rfl⟩
  unfold inF
  rw [decide_eq_decide]; omega
 clear hF a; intro hc1 a hF
 try simp only [dcl] at hc1
 refine sv hF (v_move rfl) rfl ?_; clear hF a; intro a hF
 refine svn4 hF rfl rfl rfl rfl rfl rfl rfl rfl rfl rfl rfl rfl ?_; clear hF a; intro a hF
 refine sv2w hK hF (v_pickF rfl rfl) (v_assign rfl) rfl rfl ?_; clear hF a hK K; intro a hF
 replace hF := hF.sub _ (c_ 4 rfl n_)
 refine W_ret ?_
 refine ⟨_, _, hF, rfl, ?_⟩
 refine ⟨congrArg _ (Eq.symm ?_), rfl⟩
 unfold inF
 rw [decide_eq_false_iff_not]; omega
theorem Words_nil (B M : Nat) (sa : Option Addr) (cp : Nat) (bs : List Nat) (w : World) (hI : Inv FDx B w) (hbs : Row FDx B M w (.slice sa bs.length cp) (byt bs)) (hM : M ≤ w.heap.size) (h8 : ∀ x ∈ bs, x < 256) (hlen : bs.length ≤ 100000) : Ret Tryz.prog 139 [.pointer none, .slice sa bs.length cp] w fun v w' => ∃ sl ob, v = .tuple #[sl, .int .i64 (errV (rwords none bs))] ∧ Gam.Own FDx B w.heap.size w' FDx.E sl ob (ints ((rwords none bs).getD [])) ∧ St FDx B w w' := by
 refine enter2 57 [(0, .pointer none), (1, .slice sa bs.length cp)] 4 5 Tryz.func139 rfl rfl rfl rfl rfl ?_; intro a hF
 have hS := St.refl hI
 refine W_sr rfl fun K hK => ?_
 refine sv2w hK hF (v_assign rfl) (v_assign rfl) rfl rfl ?_; clear hF a hK K; intro a hF
 refine W_sr rfl fun K hK => ?_
 refine sv hF (v_move rfl) rfl ?_; clear hF a; intro a hF
 refine sc hF rfl rfl rfl en215 rfl (width_ok B none _ _ rfl (by decide)) ?_; clear hF a; intro v w' a hv hF
 obtain ⟨rfl, hw⟩ := hv
 obtain rfl := hw.symm
 have hS' := St.refl hS.inv
 replace hS := hS.trans hS'
 clear hS'
 refine svw hK hF (v_assign rfl) rfl ?_; clear hF a hK K; intro a hF
 replace hF := hF.sub _ (c_ 6 rfl (c_ 5 rfl (c_ 4 rfl (c_ 1 rfl n_))))
 refine W_seq ?_
 refine W_sr rfl fun K hK => ?_
 refine sv3 hF (v_move rfl) ((v_eql rfl rfl).as (congrArg Value.bool (decide_eq_true rfl))) (v_move rfl) rfl rfl rfl ?_; clear hF a; intro a hF
 refine svn5 hF rfl rfl rfl rfl rfl rfl rfl rfl rfl rfl rfl rfl rfl rfl rfl ?_; clear hF a; intro a hF
 refine svw hK hF (v_pickT rfl rfl) rfl ?_; clear hF a hK K; intro a hF
 replace hF := hF.sub _ (c_ 20 rfl (c_ 6 rfl (c_ 5 rfl (c_ 4 rfl (c_ 1 rfl n_)))))
 refine W_ifT hF rfl ?_
 refine W_sr rfl fun K hK => ?_
 refine sv2w hK hF (v_assign rfl) (v_assign rfl) rfl rfl ?_; clear hF a hK K; intro a hF
 replace hF := hF.sub _ (c_ 5 rfl (c_ 4 rfl (c_ 6 rfl (c_ 1 rfl n_))))
 refine W_ret ?_
 refine ⟨_, _, _, hF, rfl, rfl, ?_⟩
 exact ⟨_, none, rfl, Gam.Own.nil _ _ _ _ _, hS⟩
theorem Words_some (B M wb p k : Nat) (sa : Option Addr) (cp : Nat) (bs : List Nat) (w : World) (hf : FOK FDx B w k wb p) (hp : Prm wb p) (hI : Inv FDx B w) (hbs : Row FDx B M w (.slice sa bs.length cp) (byt bs)) (hM : M ≤ w.heap.size) (h8 : ∀ x ∈ bs, x < 256) (hlen : bs.length ≤ 100000) : Ret Tryz.prog 139 [.pointer (some ⟨k, 0, none⟩), .slice sa bs.length cp] w fun v w' => ∃ sl ob, v = .tuple #[sl, .int .i64 (errV (rwords (some (wb, p)) bs))] ∧ Gam.Own FDx B w.heap.size w' FDx.E sl ob (ints ((rwords (some (wb, p)) bs).getD [])) ∧ St FDx B w w' := by
 refine enter2 57 [(0, .pointer (some ⟨k, 0, none⟩)), (1, .slice sa bs.length cp)] 4 5 Tryz.func139 rfl rfl rfl rfl rfl ?_; intro a hF
 have hS := St.refl hI
 obtain ⟨nn, hnn⟩ : ∃ nn, nn = wb / 8 := ⟨_, rfl⟩
 have h12 : nn = 1 ∨ nn = 2 := by have := hp.w; omega
 refine W_sr rfl fun K hK => ?_
 refine sv2w hK hF (v_assign rfl) (v_assign rfl) rfl rfl ?_; clear hF a hK K; intro a hF
 refine W_sr rfl fun K hK => ?_
 refine sv hF (v_move rfl) rfl ?_; clear hF a; intro a hF
 refine sc hF rfl rfl rfl en215 rfl (width_ok B (some (wb, p)) _ _ ⟨hp, k, rfl, hf⟩ (by have := hp.w; simp only [fbits]; omega)) ?_; clear hF a; intro v w' a hv hF
 obtain ⟨rfl, hw⟩ := hv
 obtain rfl := hw.symm
 have hS' := St.refl hS.inv
 replace hbs := hbs.st hS'
 replace hS := hS.trans hS'
 clear hS'
 rw [show fbits (some (wb, p)) / 8 = nn from hnn.symm] at hF
 refine svw hK hF (v_assign rfl) rfl ?_; clear hF a hK K; intro a hF
 replace hF := hF.sub _ (c_ 6 rfl (c_ 5 rfl (c_ 4 rfl (c_ 1 rfl n_))))
 refine W_seq ?_
 refine W_sr rfl fun K hK => ?_
 refine sv3 hF (v_move rfl) ((v_eql rfl rfl).as (congrArg Value.bool (decide_eq_false (by omega)))) (v_move rfl) rfl rfl rfl ?_; clear hF a; intro a hF
 refine svg hF rfl ?_
 refine sv hF (v_move rfl) rfl ?_; clear hF a; intro a hF
 refine svg hF rfl ?_
 refine sv hF (v_lenS rfl sl23 rfl) rfl ?_; clear hF a; intro a hF
 refine svg hF rfl ?_
 refine sv hF (v_move rfl) rfl ?_; clear hF a; intro a hF
 refine svg hF rfl ?_
 refine sv hF (v_remI rfl rfl (by omega) (by omega)) rfl ?_; clear hF a; intro a hF
 refine svg hF rfl ?_
 refine sv2w hK hF (v_neq rfl rfl) (v_pickF rfl rfl) rfl rfl ?_; clear hF a hK K; intro a hF
 replace hF := hF.sub _ (c_ 20 rfl (c_ 6 rfl (c_ 5 rfl (c_ 4 rfl (c_ 1 rfl n_)))))
 refine W_if hF rfl (fun hc1 => ?_) (fun hc1 => ?_)
 ·
  skip
  try simp only [dcl] at hc1
  refine W_sr rfl fun K hK => ?_
  refine sv2w hK hF (v_assign rfl) (v_assign rfl) rfl rfl ?_; clear hF a hK K; intro a hF
  replace hF := hF.sub _ (c_ 5 rfl (c_ 4 rfl (c_ 6 rfl (c_ 1 rfl n_))))
  refine W_ret ?_
  refine ⟨_, _, _, hF, rfl, rfl, ?_⟩
  rw [rwords_f hnn (by omega)]
  exact ⟨_, none, rfl, Gam.Own.nil _ _ _ _ _, hS⟩
 skip
 try simp only [dcl] at hc1
 have hdv : bs.length % nn = 0 := by omega
 refine W_skip ?_
 refine W_sr rfl fun K hK => ?_
 refine sv4 hF (v_move rfl) (v_lenS rfl sl23 rfl) (v_move rfl) (v_quoN (m := bs.length) (n := nn) rfl rfl (by omega) (fits_i64 (by omega))) rfl rfl rfl rfl ?_; clear hF a; intro a hF
 have hdl := Nat.div_le_self bs.length nn
 have hsz0 := hS.ext.size
 refine s_mk (D := FDx) (B := B) (m := bs.length / nn) hF sl49 rfl rfl (by simp) (by omega) (by simp only [maxLen]; omega) (by decide) hS.inv rfl ?_; clear hF a; intro w' a hm hI' hO hF
 replace hbs := hbs.mb hm (fun _ h => by cases h)
 replace hS := hS.mb0 hm
 clear hm hI'
 refine svw hK hF (v_assign rfl) rfl ?_; clear hF a hK K; intro a hF
 replace hF := hF.sub _ (c_ 7 rfl (c_ 6 rfl (c_ 5 rfl (c_ 4 rfl (c_ 1 rfl n_)))))
 refine W_seq ?_
 refine W_sr rfl fun K hK => ?_
 refine sv3w hK hF (v_move rfl) (v_lenS rfl sl23 rfl) (v_move rfl) rfl rfl rfl ?_; clear hF a hK K; intro a hF
 replace hF := hF.sub _ (c_ 28 rfl (c_ 27 rfl (c_ 26 rfl (c_ 7 rfl (c_ 6 rfl (c_ 5 rfl (c_ 4 rfl n_)))))))
 refine W_block ?_
 refine W_loop (fun m a w1 => ∃ (i : Nat) (v7 : Value) (b7 : Option Nat), Fr 57 [(6, .int .i64 (nn : Int)), (7, v7), (26, .slice sa bs.length cp), (27, .int .i64 (bs.length : Int)), (28, .int .i64 (i : Int))] a ∧ St FDx B w w1 ∧ Row FDx B M w1 (.slice sa bs.length cp) (byt bs) ∧ Gam.Own FDx B w.heap.size w1 FDx.E v7 b7 (ints (wrun nn bs i)) ∧ i ≤ bs.length ∧ m + i = bs.length) (bs.length) ?_ ?_
 ·
  skip
  refine ⟨0, _, some w.heap.size, hF.sub _ (c_ 6 rfl (c_ 7 rfl (c_ 26 rfl (c_ 27 rfl (c_ 28 rfl n_))))), hS, hbs, ?_, by omega, by omega⟩
  have e : ints (wrun nn bs 0) = List.replicate (bs.length / nn) (Value.int .i64 0) := by simp [wrun, ints]
  rw [e]; exact hO.le hsz0
 skip
 clear hF
 clear hS hbs hO
 rintro m a w1 ⟨i, v7, b7, hF, hS, hbs, hO, hi, hm⟩
 refine W_sr rfl fun K hK => ?_
 refine svw hK hF (v_lss rfl rfl) rfl ?_; clear hF a hK K; intro a hF
 refine W_seq ?_
 refine W_if hF rfl (fun hc2 => ?_) (fun hc2 => ?_)
 ·
  skip
  try simp only [dcl] at hc2
  have hlt : i < bs.length := by omega
  have hq := div_lt_n h12 hdv hlt
  obtain ⟨c, hci⟩ : ∃ c, bs[i]? = some c := ⟨_, List.getElem?_eq_getElem hlt⟩
  have hgd : bs.getD i 0 = c := by rw [List.getD_eq_getElem?_getD, hci]; rfl
  have hc8 := h8 c (List.mem_of_getElem? hci)
  obtain ⟨g7, cap7, rfl, rfl⟩ := hO.ptr (by rw [ints_length, wrun_len]; exact Nat.lt_of_le_of_lt (Nat.zero_le _) hq)
  obtain ⟨-, gb, ob, rfl, hcb⟩ := hbs.at (byt_at hci)
  have hwl := wrun_len nn bs i
  refine W_skip ?_
  refine W_seq ?_
  refine W_block ?_
  refine W_sr rfl fun K hK => ?_
  refine sv2 hF (v_move rfl) (v_ixS sl23 rfl rfl (by omega) (by omega)) rfl rfl ?_; clear hF a; intro a hF
  refine sv hF (v_load sc5 rfl (by rw [toNat_c]; exact hcb)) rfl ?_; clear hF a; intro a hF
  refine sv2w hK hF (v_assign rfl) (v_assign rfl) rfl rfl ?_; clear hF a hK K; intro a hF
  replace hF := hF.sub _ (c_ 9 rfl (c_ 8 rfl (c_ 6 rfl (c_ 7 rfl (c_ 26 rfl (c_ 27 rfl (c_ 28 rfl n_)))))))
  refine W_sr rfl fun K hK => ?_
  refine sv4w hK hF (v_move rfl) (v_move rfl) (v_remI rfl rfl (by omega) (by omega)) (v_eql rfl rfl) rfl rfl rfl rfl ?_; clear hF a hK K; intro a hF
  replace hF := hF.sub _ (c_ 36 rfl (c_ 9 rfl (c_ 8 rfl (c_ 6 rfl (c_ 7 rfl (c_ 26 rfl (c_ 27 rfl (c_ 28 rfl n_))))))))
  refine W_if hF rfl (fun hc3 => ?_) (fun hc3 => ?_)
  ·
   skip
   try simp only [dcl] at hc3
   refine W_reg rfl fun K hK => ?_
   refine sv6 hF (v_move rfl) (v_move rfl) (v_move rfl) (v_quoN (m := i) (n := nn) rfl rfl (by omega) (fits_i64 (by omega))) (v_move rfl) (v_cv Tryz.underlying5 Tryz.underlying3 rfl (wrap_i64 _ (by omega))) rfl rfl rfl rfl rfl rfl ?_; clear hF a; intro a hF
   refine sv hF (v_ixS sl49 rfl rfl (Int.natCast_nonneg _) (Int.ofNat_lt.2 (by rw [ints_length, hwl]; exact hq))) rfl ?_; clear hF a; intro a hF
   refine s_set (D := FDx) (B := B) hF on3 rfl (by rw [toNat_c, Nat.zero_add, ints_length, hwl]; exact hq) rfl rfl hO (by decide) hS.inv ?_; intro w' hm hI' ho'
   replace hbs := hbs.mb hm (fun k h => Nat.le_trans (by omega) (hO.lt k h).1)
   replace hS := hS.mb hm (fun k h => Nat.le_trans (Nat.le_refl _) (hO.lt k h).1)
   replace hO := ho'
   clear hm hI' ho'
   rw [toNat_c, Nat.zero_add, ints_set] at hO
   have hst : (wrun nn bs i).set (i / nn) c = wrun nn bs (i + 1) := by rw [wrun, if_pos (by omega), hgd]
   rw [hst] at hO
   refine wn hK ?_
   clear hK K
   replace hF := hF.sub _ (c_ 6 rfl (c_ 7 rfl (c_ 26 rfl (c_ 27 rfl (c_ 28 rfl n_)))))
   refine W_reg rfl fun K hK => ?_
   refine sv2w hK hF (v_addI rfl rfl (by omega)) (v_move rfl) rfl rfl ?_; clear hF a hK K; intro a hF
   exact ⟨m - 1, by omega, i + 1, _, _, hF.sub _ (c_ 6 rfl (c_ 7 rfl (c_ 26 rfl (c_ 27 rfl (c_ 28 rfl n_))))), hS, hbs, hO, by omega, by omega⟩
  skip
  try simp only [dcl] at hc3
  obtain ⟨y, hy⟩ : ∃ y, (wrun nn bs i)[i / nn]? = some y := ⟨_, List.getElem?_eq_getElem (by omega)⟩
  have hyd : (wrun nn bs i).getD (i / nn) 0 = y := by rw [List.getD_eq_getElem?_getD, hy]; rfl
  have hyb := wrun_lt h12 h8 hi (i / nn)
  rw [hyd] at hyb
  refine W_reg rfl fun K hK => ?_
  refine sv4 hF (v_move rfl) (v_move rfl) (v_move rfl) (v_quoN (m := i) (n := nn) rfl rfl (by omega) (fits_i64 (by omega))) rfl rfl rfl rfl ?_; clear hF a; intro a hF
  refine sv hF (v_ixS sl49 rfl rfl (Int.natCast_nonneg _) (Int.ofNat_lt.2 (by rw [ints_length, hwl]; exact hq))) rfl ?_; clear hF a; intro a hF
  refine sv hF (v_load sc3 rfl (by rw [toNat_c]; have h := (hO.row (by decide)).at (Gam.ints_at hy); obtain ⟨_, g2, o2, e, hc⟩ := h; cases e; exact hc)) rfl ?_; clear hF a; intro a hF
  refine sv4 hF (v_move rfl) (v_cv Tryz.underlying5 Tryz.underlying3 rfl (wrap_i64 _ (by omega))) (v_mulI rfl rfl (by omega)) ((v_addI rfl rfl (by omega)).as (congrArg _ (show (y : Int) + 256 * (c : Int) = ((y + 256 * c : Nat) : Int) by omega))) rfl rfl rfl rfl ?_; clear hF a; intro a hF
  refine sv hF (v_ixS sl49 rfl rfl (Int.natCast_nonneg _) (Int.ofNat_lt.2 (by rw [ints_length, hwl]; exact hq))) rfl ?_; clear hF a; intro a hF
  refine s_set (D := FDx) (B := B) hF on3 rfl (by rw [toNat_c, Nat.zero_add, ints_length, hwl]; exact hq) rfl rfl hO (by decide) hS.inv ?_; intro w' hm hI' ho'
  replace hbs := hbs.mb hm (fun k h => Nat.le_trans (by omega) (hO.lt k h).1)
  replace hS := hS.mb hm (fun k h => Nat.le_trans (Nat.le_refl _) (hO.lt k h).1)
  replace hO := ho'
  clear hm hI' ho'
  rw [toNat_c, Nat.zero_add, ints_set] at hO
  have hst : (wrun nn bs i).set (i / nn) (y + 256 * c) = wrun nn bs (i + 1) := by rw [wrun, if_neg (by omega), hgd, hyd]
  rw [hst] at hO
  refine wn hK ?_
  clear hK K
  replace hF := hF.sub _ (c_ 6 rfl (c_ 7 rfl (c_ 26 rfl (c_ 27 rfl (c_ 28 rfl n_)))))
  refine W_reg rfl fun K hK => ?_
  refine sv2w hK hF (v_addI rfl rfl (by omega)) (v_move rfl) rfl rfl ?_; clear hF a hK K; intro a hF
  exact ⟨m - 1, by omega, i + 1, _, _, hF.sub _ (c_ 6 rfl (c_ 7 rfl (c_ 26 rfl (c_ 27 rfl (c_ 28 rfl n_))))), hS, hbs, hO, by omega, by omega⟩
 skip
 try simp only [dcl] at hc2
 refine W_exit rfl ?_
 refine W_sr rfl fun K hK => ?_
 refine sv3w hK hF (v_move rfl) (v_assign rfl) (v_assign rfl) rfl rfl rfl ?_; clear hF a hK K; intro a hF
 replace hF := hF.sub _ (c_ 5 rfl (c_ 4 rfl (c_ 56 rfl (c_ 6 rfl (c_ 7 rfl (c_ 26 rfl (c_ 27 rfl (c_ 28 rfl n_))))))))
 refine W_ret ?_
 refine ⟨_, _, _, hF, rfl, rfl, ?_⟩
 obtain rfl : i = bs.length := by omega
 rw [rwords_t hnn hdv]
 rcases wrun_all h12 bs with e | e
 · rw [e] at hO; exact ⟨_, _, rfl, hO, hS⟩
 exact absurd hdv e
theorem Words_ok (B M : Nat) (o : Fq) (fv : Value) (sa : Option Addr) (cp : Nat) (bs : List Nat) (w : World) (hf : Fo FDx B w fv o) (hI : Inv FDx B w) (hbs : Row FDx B M w (.slice sa bs.length cp) (byt bs)) (hM : M ≤ w.heap.size) (h8 : ∀ x ∈ bs, x < 256) (hlen : bs.length ≤ 100000) : Ret Tryz.prog 139 [fv, .slice sa bs.length cp] w fun v w' => ∃ sl ob, v = .tuple #[sl, .int .i64 (errV (rwords o bs))] ∧ Gam.Own FDx B w.heap.size w' FDx.E sl ob (ints ((rwords o bs).getD [])) ∧ St FDx B w w' := by
 cases o with
 | none => obtain rfl : fv = .pointer none := hf; exact Words_nil B M sa cp bs w hI hbs hM h8 hlen
 | some q => obtain ⟨h1, k, rfl, h2⟩ := hf; exact Words_some B M q.1 q.2 k sa cp bs w h2 h1 hI hbs hM h8 hlen
theorem Bytes_nil (B M : Nat) (sa : Option Addr) (cp : Nat) (zs : List Int) (w : World) (hI : Inv FDx B w) (hzs : Row FDx B M w (.slice sa zs.length cp) (zints zs)) (hM : M ≤ w.heap.size) (hlen : zs.length ≤ 100000) : Ret Tryz.prog 142 [.pointer none, .slice sa zs.length cp] w fun v w' => ∃ sl ob, v = .tuple #[sl, .int .i64 (errV (rbytes none zs))] ∧ Gam.Own FDx B w.heap.size w' 5 sl ob (byt ((rbytes none zs).getD [])) ∧ St FDx B w w' := by
 refine enter2 37 [(0, .pointer none), (1, .slice sa zs.length cp)] 4 5 Tryz.func142 rfl rfl rfl rfl rfl ?_; intro a hF
 have hS := St.refl hI
 refine W_sr rfl fun K hK => ?_
 refine sv2w hK hF (v_assign rfl) (v_assign rfl) rfl rfl ?_; clear hF a hK K; intro a hF
 refine W_seq ?_
 refine W_sr rfl fun K hK => ?_
 refine sv2w hK hF (v_move rfl) ((v_eqlNil (by exact Tryz.underlying138) rfl rfl).as (congrArg Value.bool (rfl))) rfl rfl ?_; clear hF a hK K; intro a hF
 replace hF := hF.sub _ (c_ 10 rfl (c_ 5 rfl (c_ 4 rfl (c_ 0 rfl (c_ 1 rfl n_)))))
 refine W_ifT hF rfl ?_
 refine W_sr rfl fun K hK => ?_
 refine sv2w hK hF (v_assign rfl) (v_assign rfl) rfl rfl ?_; clear hF a hK K; intro a hF
 replace hF := hF.sub _ (c_ 5 rfl (c_ 4 rfl (c_ 0 rfl (c_ 1 rfl n_))))
 refine W_ret ?_
 refine ⟨_, _, _, hF, rfl, rfl, ?_⟩
 exact ⟨_, none, rfl, Gam.Own.nil _ _ _ _ _, hS⟩
theorem Bytes_some (B M wb p k : Nat) (sa : Option Addr) (cp : Nat) (zs : List Int) (w : World) (hf : FOK FDx B w k wb p) (hp : Prm wb p) (hI : Inv FDx B w) (hzs : Row FDx B M w (.slice sa zs.length cp) (zints zs)) (hM : M ≤ w.heap.size) (hlen : zs.length ≤ 100000) : Ret Tryz.prog 142 [.pointer (some ⟨k, 0, none⟩), .slice sa zs.length cp] w fun v w' => ∃ sl ob, v = .tuple #[sl, .int .i64 (errV (rbytes (some (wb, p)) zs))] ∧ Gam.Own FDx B w.heap.size w' 5 sl ob (byt ((rbytes (some (wb, p)) zs).getD [])) ∧ St FDx B w w' := by
 refine enter2 37 [(0, .pointer (some ⟨k, 0, none⟩)), (1, .slice sa zs.length cp)] 4 5 Tryz.func142 rfl rfl rfl rfl rfl ?_; intro a hF
 have hS := St.refl hI
 obtain ⟨nn, hnn⟩ : ∃ nn, nn = wb / 8 := ⟨_, rfl⟩
 have h12 : wb = 8 ∧ nn = 1 ∨ wb = 16 ∧ nn = 2 := by have := hp.w; omega
 have hsz := hp.size
 refine W_sr rfl fun K hK => ?_
 refine sv2w hK hF (v_assign rfl) (v_assign rfl) rfl rfl ?_; clear hF a hK K; intro a hF
 refine W_seq ?_
 refine W_sr rfl fun K hK => ?_
 refine sv2w hK hF (v_move rfl) ((v_eqlNil (by exact Tryz.underlying138) rfl rfl).as (congrArg Value.bool (rfl))) rfl rfl ?_; clear hF a hK K; intro a hF
 replace hF := hF.sub _ (c_ 10 rfl (c_ 5 rfl (c_ 4 rfl (c_ 0 rfl (c_ 1 rfl n_)))))
 refine W_ifF hF rfl ?_
 refine W_skip ?_
 refine W_sr rfl fun K hK => ?_
 refine svw hK hF (v_assign rfl) rfl ?_; clear hF a hK K; intro a hF
 replace hF := hF.sub _ (c_ 6 rfl (c_ 5 rfl (c_ 4 rfl (c_ 0 rfl (c_ 1 rfl n_)))))
 refine W_seq ?_
 refine W_sr rfl fun K hK => ?_
 refine sv3w hK hF (v_move rfl) (v_lenS rfl sl49 rfl) (v_move rfl) rfl rfl rfl ?_; clear hF a hK K; intro a hF
 replace hF := hF.sub _ (c_ 13 rfl (c_ 12 rfl (c_ 11 rfl (c_ 6 rfl (c_ 5 rfl (c_ 4 rfl (c_ 0 rfl n_)))))))
 refine W_block ?_
 refine W_loop (fun m a w1 => ∃ (i : Nat) (v6 : Value) (b6 : Option Nat), Fr 37 [(0, .pointer (some ⟨k, 0, none⟩)), (6, v6), (11, .slice sa zs.length cp), (12, .int .i64 (zs.length : Int)), (13, .int .i64 (i : Int))] a ∧ St FDx B w w1 ∧ FOK FDx B w1 k wb p ∧ Row FDx B M w1 (.slice sa zs.length cp) (zints zs) ∧ Gam.Own FDx B w.heap.size w1 5 v6 b6 (byt (bytesN nn ((zs.take i).map Int.toNat))) ∧ (zs.take i).all (inF (some (wb, p))) = true ∧ i ≤ zs.length ∧ m + i = zs.length) (zs.length) ?_ ?_
 · skip
   exact ⟨0, _, none, hF.sub _ (c_ 0 rfl (c_ 6 rfl (c_ 11 rfl (c_ 12 rfl (c_ 13 rfl n_))))), hS, hf, hzs, Gam.Own.nil _ _ _ _ _, rfl, by omega, by omega⟩
 skip
 clear hF
 clear hS hzs hf
 rintro m a w1 ⟨i, v6, b6, hF, hS, hf, hzs, hO, hall, hi, hm⟩
 refine W_sr rfl fun K hK => ?_
 refine svw hK hF (v_lss rfl rfl) rfl ?_; clear hF a hK K; intro a hF
 refine W_seq ?_
 refine W_if hF rfl (fun hc1 => ?_) (fun hc1 => ?_)
 ·
  skip
  try simp only [dcl] at hc1
  have hlt : i < zs.length := by omega
  obtain ⟨z, hz⟩ : ∃ z, zs[i]? = some z := ⟨_, List.getElem?_eq_getElem hlt⟩
  obtain ⟨-, gb, ob, rfl, hcb⟩ := hzs.at (zints_at hz)
  refine W_skip ?_
  refine W_seq ?_
  refine W_block ?_
  refine W_sr rfl fun K hK => ?_
  refine sv hF (v_ixS sl49 rfl rfl (by omega) (by omega)) rfl ?_; clear hF a; intro a hF
  refine sv hF (v_load sc3 rfl (by rw [toNat_c]; exact hcb)) rfl ?_; clear hF a; intro a hF
  refine svw hK hF (v_assign rfl) rfl ?_; clear hF a hK K; intro a hF
  replace hF := hF.sub _ (c_ 8 rfl (c_ 0 rfl (c_ 6 rfl (c_ 11 rfl (c_ 12 rfl (c_ 13 rfl n_))))))
  refine W_seq ?_
  refine W_sr rfl fun K hK => ?_
  refine sv2 hF (v_move rfl) (v_move rfl) rfl rfl ?_; clear hF a; intro a hF
  refine sc hF rfl rfl rfl en140 rfl (in_reg B (some (wb, p)) _ z _ ⟨hp, k, rfl, hf⟩) ?_; clear hF a; intro v w' a hv hF
  obtain ⟨rfl, hw⟩ := hv
  obtain rfl := hw.symm
  have hS' := St.refl hS.inv
  replace hf := hf.st hS'
  replace hzs := hzs.st hS'
  replace hO := hO.st (by decide) hS'
  replace hS := hS.trans hS'
  clear hS'
  refine svw hK hF (v_not rfl) rfl ?_; clear hF a hK K; intro a hF
  replace hF := hF.sub _ (c_ 20 rfl (c_ 8 rfl (c_ 0 rfl (c_ 6 rfl (c_ 11 rfl (c_ 12 rfl (c_ 13 rfl n_)))))))
  refine W_if hF rfl (fun hc2 => ?_) (fun hc2 => ?_)
  ·
   skip
   try simp only [dcl] at hc2
   refine W_sr rfl fun K hK => ?_
   refine sv2w hK hF (v_assign rfl) (v_assign rfl) rfl rfl ?_; clear hF a hK K; intro a hF
   replace hF := hF.sub _ (c_ 5 rfl (c_ 4 rfl (c_ 8 rfl (c_ 0 rfl (c_ 6 rfl (c_ 11 rfl (c_ 12 rfl (c_ 13 rfl n_))))))))
   refine W_ret ?_
   refine ⟨_, _, _, hF, rfl, rfl, ?_⟩
   have hfa : zs.all (inF (some (wb, p))) = false := by
    rw [List.all_eq_false]; exact ⟨z, List.mem_of_getElem? hz, by simpa using hc2⟩
   rw [rbytes_f hfa]
   exact ⟨_, none, rfl, Gam.Own.nil _ _ _ _ _, hS⟩
  skip
  try simp only [dcl] at hc2
  refine W_skip ?_
  have hz2 := hc2
  obtain ⟨x, rfl, hx⟩ := inF_nat hc2
  have hst := bytes_step nn hz
  have hall2 : (zs.take (i + 1)).all (inF (some (wb, p))) = true := by rw [List.take_add_one, hz, List.all_append, hall]; simp [hz2]
  refine W_sr rfl fun K hK => ?_
  refine sv3 hF (v_move rfl) (v_move rfl) (v_cv Tryz.underlying3 Tryz.underlying5 rfl ((wrap_u8' _).trans (show (x : Int) % 256 = ((x % 256 : Nat) : Int) by omega))) rfl rfl rfl ?_; clear hF a; intro a hF
  refine s_bs (D := FDx) (B := B) hF sl23 rfl rfl (by decide) (by simp [Value.cells]) (by decide) hS.inv rfl ?_; clear hF a; intro w' a hm hI' hb hF
  replace hf := hm.fok hf
  replace hzs := hzs.mb hm (fun _ h => by cases h)
  replace hO := hO.mb hm (fun _ _ => by simp)
  replace hS := hS.mb0 hm
  clear hm hI'
  refine s_app (D := FDx) (B := B) hF rfl sl23 rfl rfl hO (hb.row (by decide)) (by simp [Value.oneCell']) (by have := bytesN_len nn ((zs.take i).map Int.toNat); simp only [maxLen, List.length_append, byt_length, List.length_cons, List.length_nil, List.length_map, List.length_take] at this ⊢; omega) (by have := bytesN_len nn ((zs.take i).map Int.toNat); simp only [maxLen, List.length_append, byt_length, List.length_cons, List.length_nil, List.length_map, List.length_take] at this ⊢; omega) (hS.ext.size) (by decide) hS.inv rfl ?_; clear hF a; intro v' b' w' a ho' hm hI' hb' hF
  replace hf := hm.fok hf
  replace hzs := hzs.mb hm (fun k h => Nat.le_trans (by omega) (hO.lt k h).1)
  replace hS := hS.mb hm (fun k h => Nat.le_trans (Nat.le_refl _) (hO.lt k h).1)
  replace hO := ho'
  clear hm hI' ho' hb
  refine svw hK hF (v_assign rfl) rfl ?_; clear hF a hK K; intro a hF
  replace hF := hF.sub _ (c_ 6 rfl (c_ 8 rfl (c_ 0 rfl (c_ 11 rfl (c_ 12 rfl (c_ 13 rfl n_))))))
  refine W_sr rfl fun K hK => ?_
  refine sv hF (v_move rfl) rfl ?_; clear hF a; intro a hF
  refine sc hF rfl rfl rfl en221 rfl (Bits_ok B (some (wb, p)) _ _ ⟨hp, k, rfl, hf⟩) ?_; clear hF a; intro v w' a hv hF
  obtain ⟨rfl, hw⟩ := hv
  obtain rfl := hw.symm
  have hS' := St.refl hS.inv
  replace hf := hf.st hS'
  replace hzs := hzs.st hS'
  replace hO := hO.st (by decide) hS'
  replace hS := hS.trans hS'
  clear hS'
  refine svw hK hF (v_eql rfl rfl) rfl ?_; clear hF a hK K; intro a hF
  replace hF := hF.sub _ (c_ 28 rfl (c_ 6 rfl (c_ 8 rfl (c_ 0 rfl (c_ 11 rfl (c_ 12 rfl (c_ 13 rfl n_)))))))
  refine W_if hF rfl (fun hc3 => ?_) (fun hc3 => ?_)
  ·
   skip
   try simp only [dcl] at hc3
   have hnn2 : nn = 2 := by simp only [fbits] at hc3; omega
   rw [if_pos hnn2] at hst
   refine W_reg rfl fun K hK => ?_
   refine sv4 hF (v_move rfl) (v_move rfl) (v_quoN (m := x) (n := 256) rfl rfl (by decide) (fits_i64 (by omega))) (v_cv Tryz.underlying3 Tryz.underlying5 rfl (wrap_u8 _ (by omega))) rfl rfl rfl rfl ?_; clear hF a; intro a hF
   refine s_bs (D := FDx) (B := B) hF sl23 rfl rfl (by decide) (by simp [Value.cells]) (by decide) hS.inv rfl ?_; clear hF a; intro w' a hm hI' hb hF
   replace hf := hm.fok hf
   replace hzs := hzs.mb hm (fun _ h => by cases h)
   replace hO := hO.mb hm (fun _ _ => by simp)
   replace hS := hS.mb0 hm
   clear hm hI'
   refine s_app (D := FDx) (B := B) hF rfl sl23 rfl rfl hO (hb.row (by decide)) (by simp [Value.oneCell']) (by have := bytesN_len nn ((zs.take i).map Int.toNat); simp only [maxLen, List.length_append, byt_length, List.length_cons, List.length_nil, List.length_map, List.length_take] at this ⊢; omega) (by have := bytesN_len nn ((zs.take i).map Int.toNat); simp only [maxLen, List.length_append, byt_length, List.length_cons, List.length_nil, List.length_map, List.length_take] at this ⊢; omega) (hS.ext.size) (by decide) hS.inv rfl ?_; clear hF a; intro v' b' w' a ho' hm hI' hb' hF
   replace hf := hm.fok hf
   replace hzs := hzs.mb hm (fun k h => Nat.le_trans (by omega) (hO.lt k h).1)
   replace hS := hS.mb hm (fun k h => Nat.le_trans (Nat.le_refl _) (hO.lt k h).1)
   replace hO := ho'
   clear hm hI' ho' hb
   refine svw hK hF (v_assign rfl) rfl ?_; clear hF a hK K; intro a hF
   replace hF := hF.sub _ (c_ 6 rfl (c_ 0 rfl (c_ 11 rfl (c_ 12 rfl (c_ 13 rfl n_)))))
   refine W_reg rfl fun K hK => ?_
   refine sv2w hK hF (v_addI rfl rfl (by omega)) (v_move rfl) rfl rfl ?_; clear hF a hK K; intro a hF
   exact ⟨m - 1, by omega, i + 1, _, _, hF.sub _ (c_ 0 rfl (c_ 6 rfl (c_ 11 rfl (c_ 12 rfl (c_ 13 rfl n_))))), hS, hf, hzs, hO.cast (by rw [hst]; simp [byt]), hall2, by omega, by omega⟩
  skip
  try simp only [dcl] at hc3
  have hnn2 : nn ≠ 2 := by simp only [fbits] at hc3; omega
  rw [if_neg hnn2] at hst
  refine W_skip ?_
  refine W_reg rfl fun K hK => ?_
  refine sv2w hK hF (v_addI rfl rfl (by omega)) (v_move rfl) rfl rfl ?_; clear hF a hK K; intro a hF
  replace hF := hF.sub _ (c_ 13 rfl (c_ 35 rfl (c_ 6 rfl (c_ 0 rfl (c_ 11 rfl (c_ 12 rfl n_))))))
  exact ⟨m - 1, by omega, i + 1, _, _, hF.sub _ (c_ 0 rfl (c_ 6 rfl (c_ 11 rfl (c_ 12 rfl (c_ 13 rfl n_))))), hS, hf, hzs, hO.cast (by rw [hst]; simp [byt]), hall2, by omega, by omega⟩
 skip
 try simp only [dcl] at hc1
 refine W_exit rfl ?_
 refine W_sr rfl fun K hK => ?_
 refine sv3w hK hF (v_move rfl) (v_assign rfl) (v_assign rfl) rfl rfl rfl ?_; clear hF a hK K; intro a hF
 replace hF := hF.sub _ (c_ 5 rfl (c_ 4 rfl (c_ 36 rfl (c_ 0 rfl (c_ 6 rfl (c_ 11 rfl (c_ 12 rfl (c_ 13 rfl n_))))))))
 refine W_ret ?_
 refine ⟨_, _, _, hF, rfl, rfl, ?_⟩
 obtain rfl : i = zs.length := by omega
 rw [List.take_length] at hO hall
 rw [rbytes_t hnn hall]
 exact ⟨_, _, rfl, hO, hS⟩
theorem Bytes_ok (B M : Nat) (o : Fq) (fv : Value) (sa : Option Addr) (cp : Nat) (zs : List Int) (w : World) (hf : Fo FDx B w fv o) (hI : Inv FDx B w) (hzs : Row FDx B M w (.slice sa zs.length cp) (zints zs)) (hM : M ≤ w.heap.size) (hlen : zs.length ≤ 100000) : Ret Tryz.prog 142 [fv, .slice sa zs.length cp] w fun v w' => ∃ sl ob, v = .tuple #[sl, .int .i64 (errV (rbytes o zs))] ∧ Gam.Own FDx B w.heap.size w' 5 sl ob (byt ((rbytes o zs).getD [])) ∧ St FDx B w w' := by
 cases o with
 | none => obtain rfl : fv = .pointer none := hf; exact Bytes_nil B M sa cp zs w hI hzs hM hlen
 | some q => obtain ⟨h1, k, rfl, h2⟩ := hf; exact Bytes_some B M q.1 q.2 k sa cp zs w h2 h1 hI hzs hM hlen
theorem Mul_reg (B M : Nat) (o : Fq) (fv : Value) (ic : Int) (sa : Option Addr) (cp : Nat) (bs : List Nat) (w : World) (hf : Fo FDx B w fv o) (hI : Inv FDx B w) (hbs : Row FDx B M w (.slice sa bs.length cp) (byt bs)) (hM : M ≤ w.heap.size) (h8 : ∀ x ∈ bs, x < 256) (hlen : bs.length ≤ 100000) : Ret Tryz.prog 80 [fv, .int .i64 ic, .slice sa bs.length cp] w fun v w' => ∃ sl ob, v = .tuple #[sl, .int .i64 (errV (rmul o ic bs))] ∧ Gam.Own FDx B w.heap.size w' 5 sl ob (byt ((rmul o ic bs).getD [])) ∧ St FDx B w w' := by
 refine enter2 46 [(0, fv), (1, .int .i64 ic), (2, .slice sa bs.length cp)] 6 7 Tryz.func80 rfl rfl rfl rfl rfl ?_; intro a hF
 have hS := St.refl hI
 refine W_sr rfl fun K hK => ?_
 refine sv2w hK hF (v_assign rfl) (v_assign rfl) rfl rfl ?_; clear hF a hK K; intro a hF
 refine W_sr rfl fun K hK => ?_
 refine sv2 hF (v_move rfl) (v_move rfl) rfl rfl ?_; clear hF a; intro a hF
 refine sc hF rfl rfl rfl en139 rfl (Words_ok B M o fv sa cp bs _ hf hS.inv hbs hM h8 hlen) ?_; clear hF a; intro v w' a hv hF
 obtain ⟨sl, ob, rfl, hO, hS'⟩ := hv
 replace hf := hf.st hS'
 replace hS := hS.trans hS'
 clear hS'
 refine sv5w hK hF (v_move rfl) (v_ext rfl rfl) (v_ext rfl rfl) (v_assign rfl) (v_assign rfl) rfl rfl rfl rfl rfl ?_; clear hF a hK K; intro a hF
 replace hF := hF.sub _ (c_ 9 rfl (c_ 8 rfl (c_ 7 rfl (c_ 6 rfl (c_ 0 rfl (c_ 1 rfl n_))))))
 obtain ⟨a8, c8, rfl⟩ := hO.shape
 clear hbs
 refine W_seq ?_
 refine W_sr rfl fun K hK => ?_
 refine sv hF (v_move rfl) rfl ?_; clear hF a; intro a hF
 refine sb hF (v_neq rfl rfl) rfl ?_ ?_
 ·
  clear hF a; intro hc1 a hF
  try simp only [dcl] at hc1
  refine sv hF (v_move rfl) rfl ?_; clear hF a; intro a hF
  refine svn4 hF rfl rfl rfl rfl rfl rfl rfl rfl rfl rfl rfl rfl ?_; clear hF a; intro a hF
  refine svw hK hF (v_pickT rfl rfl) rfl ?_; clear hF a hK K; intro a hF
  replace hF := hF.sub _ (c_ 25 rfl (c_ 8 rfl (c_ 7 rfl (c_ 6 rfl (c_ 0 rfl (c_ 1 rfl n_))))))
  refine W_ifT hF rfl ?_
  refine W_sr rfl fun K hK => ?_
  refine sv2w hK hF (v_assign rfl) (v_assign rfl) rfl rfl ?_; clear hF a hK K; intro a hF
  replace hF := hF.sub _ (c_ 7 rfl (c_ 6 rfl (c_ 8 rfl (c_ 0 rfl (c_ 1 rfl n_)))))
  refine W_ret ?_
  refine ⟨_, _, _, hF, rfl, rfl, ?_⟩
  rw [rmul_none (.inl (errV_ne hc1))]
  exact ⟨_, none, rfl, Gam.Own.nil _ _ _ _ _, hS⟩
 clear hF a; intro hc1 a hF
 try simp only [dcl] at hc1
 refine sv hF (v_move rfl) rfl ?_; clear hF a; intro a hF
 refine svg hF rfl ?_
 refine sv hF (v_move rfl) rfl ?_; clear hF a; intro a hF
 refine svg hF rfl ?_
 refine sv hF (v_move rfl) rfl ?_; clear hF a; intro a hF
 refine svg hF rfl ?_
 refine sc hF rfl rfl rfl en140 rfl (in_reg B o fv ic _ hf) ?_; clear hF a; intro v w' a hv hF
 obtain ⟨rfl, hw⟩ := hv
 obtain rfl := hw.symm
 have hS' := St.refl hS.inv
 replace hf := hf.st hS'
 replace hO := hO.st (by decide) hS'
 replace hS := hS.trans hS'
 clear hS'
 refine svg hF rfl ?_
 refine sv2w hK hF (v_not rfl) (v_pickF rfl rfl) rfl rfl ?_; clear hF a hK K; intro a hF
 replace hF := hF.sub _ (c_ 25 rfl (c_ 8 rfl (c_ 7 rfl (c_ 6 rfl (c_ 0 rfl (c_ 1 rfl n_))))))
 refine W_if hF rfl (fun hc2 => ?_) (fun hc2 => ?_)
 ·
  skip
  try simp only [dcl] at hc2
  refine W_sr rfl fun K hK => ?_
  refine sv2w hK hF (v_assign rfl) (v_assign rfl) rfl rfl ?_; clear hF a hK K; intro a hF
  replace hF := hF.sub _ (c_ 7 rfl (c_ 6 rfl (c_ 8 rfl (c_ 0 rfl (c_ 1 rfl n_)))))
  refine W_ret ?_
  refine ⟨_, _, _, hF, rfl, rfl, ?_⟩
  rw [rmul_none (.inr hc2)]
  exact ⟨_, none, rfl, Gam.Own.nil _ _ _ _ _, hS⟩
 skip
 try simp only [dcl] at hc2
 refine W_skip ?_
 refine W_seq ?_
 obtain ⟨ws, hws⟩ := errV_eq (show errV (rwords o bs) = 0 by omega)
 rw [hws] at hO hF
 simp only [Option.getD_some, ints_length] at hO hF
 have hwl := rwords_len hws
 obtain ⟨V8, hV8⟩ : ∃ V : Value, V = .slice a8 ws.length c8 := ⟨_, rfl⟩
 refine W_sr rfl fun K hK => ?_
 refine sv3w hK hF (v_move rfl) (v_lenS rfl sl49 rfl) (v_move rfl) rfl rfl rfl ?_; clear hF a hK K; intro a hF
 replace hF := hF.sub _ (c_ 28 rfl (c_ 27 rfl (c_ 26 rfl (c_ 8 rfl (c_ 7 rfl (c_ 6 rfl (c_ 0 rfl (c_ 1 rfl n_))))))))
 refine W_block ?_
 refine W_loop (fun m a w1 => ∃ (i : Nat), Fr 46 [(0, fv), (1, .int .i64 ic), (8, .slice a8 ws.length c8), (26, .slice a8 ws.length c8), (27, .int .i64 (ws.length : Int)), (28, .int .i64 (i : Int))] a ∧ St FDx B w w1 ∧ Fo FDx B w1 fv o ∧ Gam.Own FDx B w.heap.size w1 FDx.E (.slice a8 ws.length c8) ob (zints (mrun o ic ws i)) ∧ i ≤ ws.length ∧ m + i = ws.length) (ws.length) ?_ ?_
 · skip
   exact ⟨0, hF.sub _ (c_ 0 rfl (c_ 1 rfl (c_ 8 rfl (c_ 26 rfl (c_ 27 rfl (c_ 28 rfl n_)))))), hS, hf, hO.cast (mrun_zero o ic ws).symm, by omega, by omega⟩
 skip
 clear hF
 clear hS hf hO
 rintro m a w1 ⟨i, hF, hS, hf, hO, hi, hm⟩
 refine W_sr rfl fun K hK => ?_
 refine svw hK hF (v_lss rfl rfl) rfl ?_; clear hF a hK K; intro a hF
 refine W_seq ?_
 refine W_if hF rfl (fun hc3 => ?_) (fun hc3 => ?_)
 ·
  skip
  try simp only [dcl] at hc3
  have hlt : i < ws.length := by omega
  obtain ⟨x, hx⟩ : ∃ x, ws[i]? = some x := ⟨_, List.getElem?_eq_getElem hlt⟩
  have hml := mrun_len o ic ws i
  obtain ⟨g7, cap7, hg7, rfl⟩ := hO.ptr (by rw [zints_length, hml]; omega)
  obtain ⟨rfl, -, -⟩ := Value.slice.inj hg7
  obtain ⟨-, gb, og, hgo, hcb⟩ := (hO.row (by decide)).at (zints_at (mrun_at (o := o) (c := ic) hx))
  obtain ⟨rfl, rfl⟩ : gb = g7 ∧ og = 0 := by cases hgo; exact ⟨rfl, rfl⟩
  refine W_skip ?_
  refine W_seq ?_
  refine W_block ?_
  refine W_sr rfl fun K hK => ?_
  refine sv2 hF (v_move rfl) (v_ixS sl49 rfl rfl (by omega) (by omega)) rfl rfl ?_; clear hF a; intro a hF
  refine sv hF (v_load sc3 rfl (by rw [toNat_c]; exact hcb)) rfl ?_; clear hF a; intro a hF
  refine sv2w hK hF (v_assign rfl) (v_assign rfl) rfl rfl ?_; clear hF a hK K; intro a hF
  replace hF := hF.sub _ (c_ 11 rfl (c_ 10 rfl (c_ 0 rfl (c_ 1 rfl (c_ 8 rfl (c_ 26 rfl (c_ 27 rfl (c_ 28 rfl n_))))))))
  refine W_reg rfl fun K hK => ?_
  refine sv5 hF (v_move rfl) (v_move rfl) (v_move rfl) (v_move rfl) (v_move rfl) rfl rfl rfl rfl rfl ?_; clear hF a; intro a hF
  refine sc hF rfl rfl rfl en141 rfl (Mul_gf B o fv ic (x : Int) _ hS.inv hf) ?_; clear hF a; intro v w' a hv hF
  obtain ⟨rfl, hS'⟩ := hv
  replace hf := hf.st hS'
  replace hO := hO.st (by decide) hS'
  replace hS := hS.trans hS'
  clear hS'
  refine sv hF (v_ixS sl49 rfl rfl (by omega) (by omega)) rfl ?_; clear hF a; intro a hF
  refine s_set (D := FDx) (B := B) hF on3 rfl (by rw [toNat_c, Nat.zero_add, zints_length, hml]; exact hlt) rfl rfl hO (by decide) hS.inv ?_; intro w' hm hI' ho'
  replace hf := hf.mb hm
  replace hS := hS.mb hm (fun k h => Nat.le_trans (Nat.le_refl _) (hO.lt k h).1)
  replace hO := ho'
  clear hm hI' ho'
  rw [toNat_c, Nat.zero_add, zints_set, mrun_step hx] at hO
  refine wn hK ?_
  clear hK K
  replace hF := hF.sub _ (c_ 0 rfl (c_ 1 rfl (c_ 8 rfl (c_ 26 rfl (c_ 27 rfl (c_ 28 rfl n_))))))
  refine W_reg rfl fun K hK => ?_
  refine sv2w hK hF (v_addI rfl rfl (by omega)) (v_move rfl) rfl rfl ?_; clear hF a hK K; intro a hF
  exact ⟨m - 1, by omega, i + 1, hF.sub _ (c_ 0 rfl (c_ 1 rfl (c_ 8 rfl (c_ 26 rfl (c_ 27 rfl (c_ 28 rfl n_)))))), hS, hf, hO, by omega, by omega⟩
 skip
 try simp only [dcl] at hc3
 refine W_exit rfl ?_
 obtain rfl : i = ws.length := by omega
 rw [mrun_all] at hO
 have hzl : (ws.map fun (a : Nat) => gmul o ic (a : Int)).length = ws.length := by simp
 have hR := hO.row (by decide)
 rw [← hzl] at hR hF
 refine W_sr rfl fun K hK => ?_
 refine sv2 hF (v_move rfl) (v_move rfl) rfl rfl ?_; clear hF a; intro a hF
 refine sc hF rfl rfl rfl en142 rfl (Bytes_ok B _ o fv a8 c8 (ws.map fun (a : Nat) => gmul o ic (a : Int)) _ hf hS.inv hR (Nat.le_refl _) (by omega)) ?_; clear hF a; intro v w' a hv hF
 clear hO
 obtain ⟨sl, ob2, rfl, hO, hS'⟩ := hv
 replace hO := hO.le hS.ext.size
 replace hS := hS.trans hS'
 clear hS'
 refine sv4w hK hF (v_ext rfl rfl) (v_ext rfl rfl) (v_assign rfl) (v_assign rfl) rfl rfl rfl rfl ?_; clear hF a hK K; intro a hF
 replace hF := hF.sub _ (c_ 7 rfl (c_ 6 rfl (c_ 45 rfl (c_ 44 rfl (c_ 43 rfl (c_ 42 rfl (c_ 41 rfl (c_ 0 rfl (c_ 1 rfl (c_ 8 rfl (c_ 26 rfl (c_ 27 rfl (c_ 28 rfl n_)))))))))))))
 refine W_ret ?_
 refine ⟨_, _, _, hF, rfl, rfl, ?_⟩
 rw [rmul_some hws (by assumption)]
 exact ⟨_, _, rfl, hO, hS⟩
theorem sum_ok (B M : Nat) (sa : Option Addr) (cp : Nat) (vals : List Value) (bss : List (List Nat)) (w : World) (hI : Inv FDx B w) (hR : Row FDx B M w (.slice sa vals.length cp) vals) (hR2 : Rows2 FDx B M w vals bss) (hM : M ≤ w.heap.size) (h8 : ∀ b ∈ bss, ∀ x ∈ b, x < 256) (h0 : 0 < bss.length) (hlen : bss.length ≤ 100000) (hlen2 : ∀ b ∈ bss, b.length ≤ 100000) : Ret Tryz.prog 127 [.slice sa vals.length cp] w fun v w' => ∃ sl ob, v = .tuple #[sl, .int .i64 (errV (rsum bss))] ∧ Gam.Own FDx B w.heap.size w' 5 sl ob (byt ((rsum bss).getD [])) ∧ St FDx B w w' := by
 refine enter2 42 [(0, .slice sa vals.length cp)] 2 3 Tryz.func127 rfl rfl rfl rfl rfl ?_; intro a hF
 have hS := St.refl hI
 have hvl := hR2.1
 obtain ⟨b0, hb0⟩ : ∃ b, bss[0]? = some b := ⟨_, List.getElem?_eq_getElem h0⟩
 obtain ⟨v0, hv0⟩ : ∃ v, vals[0]? = some v := ⟨_, List.getElem?_eq_getElem (by omega)⟩
 have hl0 := hlen2 b0 (List.mem_of_getElem? hb0)
 obtain ⟨s0, e0, rfl⟩ := (hR2.2 0 v0 b0 hv0 hb0).sl
 rw [byt_length] at hv0
 obtain ⟨-, gr, or_, rfl, hcr⟩ := hR.at hv0
 refine W_sr rfl fun K hK => ?_
 refine sv2w hK hF (v_assign rfl) (v_assign rfl) rfl rfl ?_; clear hF a hK K; intro a hF
 refine W_sr rfl fun K hK => ?_
 refine sv4 hF (v_move rfl) (v_ixS sl48 rfl rfl (by omega) (by omega)) (v_load sc23 rfl hcr) (v_lenS rfl sl23 rfl) rfl rfl rfl rfl ?_; clear hF a; intro a hF
 refine s_mk (D := FDx) (B := B) (m := b0.length) hF sl23 rfl rfl (by simp) (by omega) (by simp only [maxLen]; omega) (by decide) hS.inv rfl ?_; clear hF a; intro w' a hm hI' hO hF
 replace hR := hR.mb hm (fun _ h => by cases h)
 replace hR2 := hR2.mb hm (fun _ h => by cases h)
 replace hS := hS.mb0 hm
 clear hm hI' hcr
 refine svw hK hF (v_assign rfl) rfl ?_; clear hF a hK K; intro a hF
 replace hF := hF.sub _ (c_ 4 rfl (c_ 3 rfl (c_ 2 rfl (c_ 0 rfl n_))))
 obtain ⟨a4, ha4⟩ : ∃ a4, a4 = some (⟨w.heap.size, 0, none⟩ : Addr) := ⟨_, rfl⟩
 obtain ⟨c4, hc4⟩ : ∃ c4, c4 = b0.length := ⟨_, rfl⟩
 obtain ⟨ob, hob⟩ : ∃ ob, ob = some w.heap.size := ⟨_, rfl⟩
 rw [← ha4] at hO hF
 rw [← hob] at hO
 replace hO : Gam.Own FDx B w.heap.size w' 5 (.slice a4 b0.length c4) ob (byt (List.replicate b0.length 0)) := by
  rw [hc4]; exact hO.cast (by simp [byt])
 replace hF : Fr 42 [(4, .slice a4 b0.length c4), (3, .int .i64 0), (2, .slice none 0 0), (0, .slice (some ⟨gr, or_, none⟩) vals.length cp)] a := by rw [hc4]; exact hF.sub _ (c_ 4 rfl (c_ 3 rfl (c_ 2 rfl (c_ 0 rfl n_))))
 clear ha4 hc4 hob
 refine W_seq ?_
 refine W_sr rfl fun K hK => ?_
 refine sv3w hK hF (v_move rfl) (v_lenS rfl sl48 rfl) (v_move rfl) rfl rfl rfl ?_; clear hF a hK K; intro a hF
 replace hF := hF.sub _ (c_ 16 rfl (c_ 15 rfl (c_ 14 rfl (c_ 4 rfl (c_ 3 rfl (c_ 2 rfl n_))))))
 refine W_block ?_
 refine W_loop (fun m a w1 => ∃ (r : Nat) (cur : List Nat), Fr 42 [(4, .slice a4 b0.length c4), (14, .slice (some ⟨gr, or_, none⟩) vals.length cp), (15, .int .i64 (vals.length : Int)), (16, .int .i64 (r : Int))] a ∧ St FDx B w w1 ∧ Row FDx B M w1 (.slice (some ⟨gr, or_, none⟩) vals.length cp) vals ∧ Rows2 FDx B M w1 vals bss ∧ Gam.Own FDx B w.heap.size w1 5 (.slice a4 b0.length c4) ob (byt cur) ∧ cur = (bss.take r).foldl xorB (List.replicate b0.length 0) ∧ (∀ b ∈ bss.take r, b.length = b0.length) ∧ cur.length = b0.length ∧ (∀ x ∈ cur, x < 256) ∧ r ≤ bss.length ∧ m + r = bss.length) (bss.length) ?_ ?_
 · skip
   exact ⟨0, _, hF.sub _ (c_ 4 rfl (c_ 14 rfl (c_ 15 rfl (c_ 16 rfl n_)))), hS, hR, hR2, hO, rfl, by simp, by simp, by simp, by omega, by omega⟩
 skip
 clear hF
 clear hS hR hR2 hO
 rintro m a w1 ⟨r, cur, hF, hS, hR, hR2, hO, hcur, hall, hcl, hc8, hr, hm⟩
 refine W_sr rfl fun K hK => ?_
 refine svw hK hF (v_lss rfl rfl) rfl ?_; clear hF a hK K; intro a hF
 refine W_seq ?_
 refine W_if hF rfl (fun hc1 => ?_) (fun hc1 => ?_)
 ·
  skip
  try simp only [dcl] at hc1
  have hlt : r < bss.length := by omega
  obtain ⟨b, hb⟩ : ∃ b, bss[r]? = some b := ⟨_, List.getElem?_eq_getElem hlt⟩
  obtain ⟨vr, hvr⟩ : ∃ v, vals[r]? = some v := ⟨_, List.getElem?_eq_getElem (by omega)⟩
  have hRb := hR2.2 r vr b hvr hb
  obtain ⟨sb, cb, rfl⟩ := hRb.sl
  rw [byt_length] at hRb hvr
  obtain ⟨-, gr2, or2, hgr, hcr⟩ := hR.at hvr
  obtain ⟨rfl, rfl⟩ : gr = gr2 ∧ or_ = or2 := by cases hgr; exact ⟨rfl, rfl⟩
  have hb8 := h8 b (List.mem_of_getElem? hb)
  have hbl := hlen2 b (List.mem_of_getElem? hb)
  refine W_skip ?_
  refine W_seq ?_
  refine W_block ?_
  refine W_sr rfl fun K hK => ?_
  refine sv hF (v_ixS sl48 rfl rfl (by omega) (by omega)) rfl ?_; clear hF a; intro a hF
  refine sv hF (v_load sc23 rfl (by rw [toNat_c]; exact hcr)) rfl ?_; clear hF a; intro a hF
  refine svw hK hF (v_assign rfl) rfl ?_; clear hF a hK K; intro a hF
  replace hF := hF.sub _ (c_ 6 rfl (c_ 4 rfl (c_ 14 rfl (c_ 15 rfl (c_ 16 rfl n_)))))
  refine W_seq ?_
  refine W_sr rfl fun K hK => ?_
  refine sv5w hK hF (v_move rfl) (v_lenS rfl sl23 rfl) (v_move rfl) (v_lenS rfl sl23 rfl) (v_neq rfl rfl) rfl rfl rfl rfl rfl ?_; clear hF a hK K; intro a hF
  replace hF := hF.sub _ (c_ 24 rfl (c_ 6 rfl (c_ 4 rfl (c_ 14 rfl (c_ 15 rfl (c_ 16 rfl n_))))))
  refine W_if hF rfl (fun hc2 => ?_) (fun hc2 => ?_)
  ·
   skip
   try simp only [dcl] at hc2
   refine W_sr rfl fun K hK => ?_
   refine sv2w hK hF (v_assign rfl) (v_assign rfl) rfl rfl ?_; clear hF a hK K; intro a hF
   replace hF := hF.sub _ (c_ 3 rfl (c_ 2 rfl (c_ 6 rfl (c_ 4 rfl (c_ 14 rfl (c_ 15 rfl (c_ 16 rfl n_)))))))
   refine W_ret ?_
   refine ⟨_, _, _, hF, rfl, rfl, ?_⟩
   rw [rsum_f hb0 (List.mem_of_getElem? hb) (by omega)]
   exact ⟨_, none, rfl, Gam.Own.nil _ _ _ _ _, hS⟩
  skip
  try simp only [dcl] at hc2
  have hbe : cur.length = b.length := by omega
  refine W_skip ?_
  refine W_sr rfl fun K hK => ?_
  refine sv3w hK hF (v_move rfl) (v_lenS rfl sl23 rfl) (v_move rfl) rfl rfl rfl ?_; clear hF a hK K; intro a hF
  replace hF := hF.sub _ (c_ 27 rfl (c_ 26 rfl (c_ 25 rfl (c_ 4 rfl (c_ 14 rfl (c_ 15 rfl (c_ 16 rfl n_)))))))
  refine W_block ?_
  refine W_loop (fun m2 a w2 => ∃ (i : Nat), Fr 42 [(4, .slice a4 b0.length c4), (14, .slice (some ⟨gr, or_, none⟩) vals.length cp), (15, .int .i64 (vals.length : Int)), (16, .int .i64 (r : Int)), (25, .slice sb b.length cb), (26, .int .i64 (b.length : Int)), (27, .int .i64 (i : Int))] a ∧ St FDx B w w2 ∧ Row FDx B M w2 (.slice (some ⟨gr, or_, none⟩) vals.length cp) vals ∧ Rows2 FDx B M w2 vals bss ∧ Row FDx B M w2 (.slice sb b.length cb) (byt b) ∧ Gam.Own FDx B w.heap.size w2 5 (.slice a4 b0.length c4) ob (byt (xpart cur b i)) ∧ i ≤ b.length ∧ m2 + i = b.length) (b.length) ?_ ?_
  · skip
    exact ⟨0, hF.sub _ (c_ 4 rfl (c_ 14 rfl (c_ 15 rfl (c_ 16 rfl (c_ 25 rfl (c_ 26 rfl (c_ 27 rfl n_))))))), hS, hR, hR2, hRb, hO.cast (by rw [xpart_zero]), by omega, by omega⟩
  skip
  clear hF
  clear hS hR hR2 hO hRb hcr
  rintro m2 a w2 ⟨i, hF, hS, hR, hR2, hRb, hO, hi, hm2⟩
  refine W_sr rfl fun K hK => ?_
  refine svw hK hF (v_lss rfl rfl) rfl ?_; clear hF a hK K; intro a hF
  refine W_seq ?_
  refine W_if hF rfl (fun hc3 => ?_) (fun hc3 => ?_)
  ·
   skip
   try simp only [dcl] at hc3
   have hit : i < b.length := by omega
   obtain ⟨y, hy⟩ : ∃ y, b[i]? = some y := ⟨_, List.getElem?_eq_getElem hit⟩
   obtain ⟨x, hx⟩ : ∃ x, cur[i]? = some x := ⟨_, List.getElem?_eq_getElem (by omega)⟩
   obtain ⟨-, gb, ob_, rfl, hcb⟩ := hRb.at (byt_at hy)
   have hxl := xpart_len (i := i) hbe
   obtain ⟨g7, cap7, hg7, rfl⟩ := hO.ptr (by rw [byt_length, hxl]; omega)
   obtain ⟨rfl, -, -⟩ := Value.slice.inj hg7
   obtain ⟨-, gc, oc, hgo, hcc⟩ := (hO.row (by decide)).at (byt_at (xpart_at hbe hx))
   obtain ⟨rfl, rfl⟩ : gc = g7 ∧ oc = 0 := by cases hgo; exact ⟨rfl, rfl⟩
   have hx8 := hc8 x (List.mem_of_getElem? hx)
   have hy8 := hb8 y (List.mem_of_getElem? hy)
   refine W_skip ?_
   refine W_seq ?_
   refine W_block ?_
   refine W_sr rfl fun K hK => ?_
   refine sv2 hF (v_move rfl) (v_ixS sl23 rfl rfl (by omega) (by omega)) rfl rfl ?_; clear hF a; intro a hF
   refine sv hF (v_load sc5 rfl (by rw [toNat_c]; exact hcb)) rfl ?_; clear hF a; intro a hF
   refine sv2w hK hF (v_assign rfl) (v_assign rfl) rfl rfl ?_; clear hF a hK K; intro a hF
   replace hF := hF.sub _ (c_ 8 rfl (c_ 7 rfl (c_ 4 rfl (c_ 14 rfl (c_ 15 rfl (c_ 16 rfl (c_ 25 rfl (c_ 26 rfl (c_ 27 rfl n_)))))))))
   refine W_reg rfl fun K hK => ?_
   refine sv3 hF (v_move rfl) (v_move rfl) (v_ixS sl23 rfl rfl (by omega) (by omega)) rfl rfl rfl ?_; clear hF a; intro a hF
   refine sv hF (v_load sc5 rfl (by rw [toNat_c]; exact hcc)) rfl ?_; clear hF a; intro a hF
   refine sv3 hF (v_move rfl) (v_xorN rfl rfl (fits_u8 hx8) (fits_u8 hy8)) (v_ixS sl23 rfl rfl (by omega) (by omega)) rfl rfl rfl ?_; clear hF a; intro a hF
   refine s_set (D := FDx) (B := B) hF on5 rfl (by rw [toNat_c, Nat.zero_add, byt_length, hxl]; omega) rfl rfl hO (by decide) hS.inv ?_; intro w' hm hI' ho'
   replace hR := hR.mb hm (fun k h => Nat.le_trans (by omega) (hO.lt k h).1)
   replace hR2 := hR2.mb hm (fun k h => Nat.le_trans (by omega) (hO.lt k h).1)
   replace hRb := hRb.mb hm (fun k h => Nat.le_trans (by omega) (hO.lt k h).1)
   replace hS := hS.mb hm (fun k h => Nat.le_trans (Nat.le_refl _) (hO.lt k h).1)
   replace hO := ho'
   clear hm hI' ho'
   rw [toNat_c, Nat.zero_add, byt_set, xpart_step hbe hx hy] at hO
   refine wn hK ?_
   clear hK K
   replace hF := hF.sub _ (c_ 4 rfl (c_ 14 rfl (c_ 15 rfl (c_ 16 rfl (c_ 25 rfl (c_ 26 rfl (c_ 27 rfl n_)))))))
   refine W_reg rfl fun K hK => ?_
   refine sv2w hK hF (v_addI rfl rfl (by omega)) (v_move rfl) rfl rfl ?_; clear hF a hK K; intro a hF
   exact ⟨m2 - 1, by omega, i + 1, hF.sub _ (c_ 4 rfl (c_ 14 rfl (c_ 15 rfl (c_ 16 rfl (c_ 25 rfl (c_ 26 rfl (c_ 27 rfl n_))))))), hS, hR, hR2, hRb, hO, by omega, by omega⟩
  skip
  try simp only [dcl] at hc3
  obtain rfl : i = b.length := by omega
  rw [← hbe, xpart_all hbe] at hO
  refine W_exit rfl ?_
  refine W_reg rfl fun K hK => ?_
  refine sv2w hK hF (v_addI rfl rfl (by omega)) (v_move rfl) rfl rfl ?_; clear hF a hK K; intro a hF
  replace hF := hF.sub _ (c_ 16 rfl (c_ 40 rfl (c_ 4 rfl (c_ 14 rfl (c_ 15 rfl (c_ 25 rfl (c_ 26 rfl (c_ 27 rfl n_))))))))
  exact ⟨m - 1, by omega, r + 1, _, hF.sub _ (c_ 4 rfl (c_ 14 rfl (c_ 15 rfl (c_ 16 rfl n_)))), hS, hR, hR2, hO, by rw [hcur, List.take_add_one, hb]; simp, by rw [List.take_add_one, hb]; intro c hc; simp at hc; rcases hc with hc | rfl; exact hall c hc; omega, by rw [xorB_len hbe]; exact hcl, xorB_lt hc8 hb8, by omega, by omega⟩
 skip
 try simp only [dcl] at hc1
 refine W_exit rfl ?_
 refine W_sr rfl fun K hK => ?_
 refine sv3w hK hF (v_move rfl) (v_assign rfl) (v_assign rfl) rfl rfl rfl ?_; clear hF a hK K; intro a hF
 replace hF := hF.sub _ (c_ 3 rfl (c_ 2 rfl (c_ 41 rfl (c_ 4 rfl (c_ 14 rfl (c_ 15 rfl (c_ 16 rfl n_)))))))
 refine W_ret ?_
 refine ⟨_, _, _, hF, rfl, rfl, ?_⟩
 obtain rfl : r = bss.length := by omega
 rw [List.take_length] at hcur hall
 rw [rsum_t hb0 hall, ← hcur]
 exact ⟨_, _, rfl, hO, hS⟩
theorem rows2_two {D : FD} {B M : Nat} {w : World} {v u : Value} {x y : List Nat} (hx : Row D B M w v (byt x)) (hy : Row D B M w u (byt y)) : Rows2 D B M w [v, u] [x, y] := by
 refine ⟨rfl, fun j z bs a b => ?_⟩
 match j, a, b with
 | 0, a, b => simp at a b; subst a; subst b; exact hx
 | 1, a, b => simp at a b; subst a; subst b; exact hy
 | j + 2, a, b => simp at a
theorem Add_reg (B M : Nat) (sx sy : Option Addr) (cx cy : Nat) (x y : List Nat) (w : World) (hI : Inv FDx B w) (hx : Row FDx B M w (.slice sx x.length cx) (byt x)) (hy : Row FDx B M w (.slice sy y.length cy) (byt y)) (hM : M ≤ w.heap.size) (hx8 : ∀ u ∈ x, u < 256) (hy8 : ∀ u ∈ y, u < 256) (hxl : x.length ≤ 100000) (hyl : y.length ≤ 100000) : Ret Tryz.prog 79 [.slice sx x.length cx, .slice sy y.length cy] w fun v w' => ∃ sl ob, v = .tuple #[sl, .int .i64 (errV (rsum [x, y]))] ∧ Gam.Own FDx B w.heap.size w' 5 sl ob (byt ((rsum [x, y]).getD [])) ∧ St FDx B w w' := by
 refine enter2 12 [(0, .slice sx x.length cx), (1, .slice sy y.length cy)] 4 5 Tryz.func79 rfl rfl rfl rfl rfl ?_; intro a hF
 have hS := St.refl hI
 refine W_sr rfl fun K hK => ?_
 refine sv2w hK hF (v_assign rfl) (v_assign rfl) rfl rfl ?_; clear hF a hK K; intro a hF
 refine W_sr rfl fun K hK => ?_
 refine sv2 hF (v_move rfl) (v_move rfl) rfl rfl ?_; clear hF a; intro a hF
 refine s_bs (D := FDx) (B := B) hF sl48 rfl rfl (by decide) (by simp [Value.cells]) (by decide) hS.inv rfl ?_; clear hF a; intro w' a hm hI' hb hF
 replace hx := hx.mb hm (fun _ h => by cases h)
 replace hy := hy.mb hm (fun _ h => by cases h)
 replace hS := hS.mb0 hm
 clear hm hI'
 refine sc hF rfl rfl rfl en127 rfl (sum_ok B _ (some ⟨_, 0, none⟩) 2 [.slice sx x.length cx, .slice sy y.length cy] [x, y] _ hS.inv (hb.row (by decide)) (rows2_two (hx.mono (Nat.le_trans hM hS.ext.size)) (hy.mono (Nat.le_trans hM hS.ext.size))) (Nat.le_refl _) (by intro b hb u hu; simp at hb; rcases hb with rfl | rfl; exact hx8 u hu; exact hy8 u hu) (by simp) (by simp) (by intro b hb; simp at hb; rcases hb with rfl | rfl; exact hxl; exact hyl)) ?_; clear hF a; intro v w' a hv hF
 clear hb hx hy
 obtain ⟨sl, ob, rfl, hO, hS'⟩ := hv
 replace hO := hO.le hS.ext.size
 replace hS := hS.trans hS'
 clear hS'
 refine sv4w hK hF (v_ext rfl rfl) (v_ext rfl rfl) (v_assign rfl) (v_assign rfl) rfl rfl rfl rfl ?_; clear hF a hK K; intro a hF
 replace hF := hF.sub _ (c_ 5 rfl (c_ 4 rfl n_))
 refine W_ret ?_
 refine ⟨_, _, _, hF, rfl, rfl, ?_⟩
 exact ⟨_, _, rfl, hO, hS⟩
theorem Dot_reg (B M : Nat) (o : Fq) (fv : Value) (s1 s2 : Option Addr) (c1 c2 : Nat) (cs : List Int) (vals : List Value) (bss : List (List Nat)) (w : World) (hf : Fo FDx B w fv o) (hI : Inv FDx B w) (hC : Row FDx B M w (.slice s1 cs.length c1) (zints cs)) (hR : Row FDx B M w (.slice s2 vals.length c2) vals) (hR2 : Rows2 FDx B M w vals bss) (hM : M ≤ w.heap.size) (h8 : ∀ b ∈ bss, ∀ x ∈ b, x < 256) (hlen : bss.length ≤ 1000) (hlen2 : ∀ b ∈ bss, b.length ≤ 10000) : Ret Tryz.prog 59 [fv, .slice s1 cs.length c1, .slice s2 vals.length c2] w fun v w' => ∃ sl ob, v = .tuple #[sl, .int .i64 (errV (rdot o cs bss))] ∧ Gam.Own FDx B w.heap.size w' 5 sl ob (byt ((rdot o cs bss).getD [])) ∧ St FDx B w w' := by
 refine enter2 52 [(0, fv), (1, .slice s1 cs.length c1), (2, .slice s2 vals.length c2)] 6 7 Tryz.func59 rfl rfl rfl rfl rfl ?_; intro a hF
 have hS := St.refl hI
 have hvl := hR2.1
 have hfz := fsz_le hf
 refine W_sr rfl fun K hK => ?_
 refine sv2w hK hF (v_assign rfl) (v_assign rfl) rfl rfl ?_; clear hF a hK K; intro a hF
 refine W_seq ?_
 refine W_sr rfl fun K hK => ?_
 refine sv4 hF (v_move rfl) (v_lenS rfl sl49 rfl) (v_move rfl) (v_lenS rfl sl48 rfl) rfl rfl rfl rfl ?_; clear hF a; intro a hF
 refine sb hF (v_neq rfl rfl) rfl ?_ ?_
 ·
  clear hF a; intro hc1 a hF
  try simp only [dcl] at hc1
  refine sv hF (v_move rfl) rfl ?_; clear hF a; intro a hF
  refine svn3 hF rfl rfl rfl rfl rfl rfl rfl rfl rfl ?_; clear hF a; intro a hF
  refine svw hK hF (v_pickT rfl rfl) rfl ?_; clear hF a hK K; intro a hF
  replace hF := hF.sub _ (c_ 22 rfl (c_ 7 rfl (c_ 6 rfl (c_ 0 rfl (c_ 1 rfl (c_ 2 rfl n_))))))
  refine W_ifT hF rfl ?_
  refine W_sr rfl fun K hK => ?_
  refine sv2w hK hF (v_assign rfl) (v_assign rfl) rfl rfl ?_; clear hF a hK K; intro a hF
  replace hF := hF.sub _ (c_ 7 rfl (c_ 6 rfl (c_ 0 rfl (c_ 1 rfl (c_ 2 rfl n_)))))
  refine W_ret ?_
  refine ⟨_, _, _, hF, rfl, rfl, ?_⟩
  rw [rdot_none1 (.inl (by omega))]
  exact ⟨_, none, rfl, Gam.Own.nil _ _ _ _ _, hS⟩
 clear hF a; intro hc1 a hF
 try simp only [dcl] at hc1
 refine sv hF (v_move rfl) rfl ?_; clear hF a; intro a hF
 refine svg hF rfl ?_
 refine sv hF (v_move rfl) rfl ?_; clear hF a; intro a hF
 refine svg hF rfl ?_
 refine sv hF (v_lenS rfl sl49 rfl) rfl ?_; clear hF a; intro a hF
 refine svg hF rfl ?_
 refine sv2w hK hF (v_eql rfl rfl) (v_pickF rfl rfl) rfl rfl ?_; clear hF a hK K; intro a hF
 replace hF := hF.sub _ (c_ 22 rfl (c_ 7 rfl (c_ 6 rfl (c_ 0 rfl (c_ 1 rfl (c_ 2 rfl n_))))))
 refine W_if hF rfl (fun hc2 => ?_) (fun hc2 => ?_)
 ·
  skip
  try simp only [dcl] at hc2
  refine W_sr rfl fun K hK => ?_
  refine sv2w hK hF (v_assign rfl) (v_assign rfl) rfl rfl ?_; clear hF a hK K; intro a hF
  replace hF := hF.sub _ (c_ 7 rfl (c_ 6 rfl (c_ 0 rfl (c_ 1 rfl (c_ 2 rfl n_)))))
  refine W_ret ?_
  refine ⟨_, _, _, hF, rfl, rfl, ?_⟩
  rw [rdot_none1 (.inr (by omega))]
  exact ⟨_, none, rfl, Gam.Own.nil _ _ _ _ _, hS⟩
 skip
 try simp only [dcl] at hc2
 refine W_skip ?_
 refine W_sr rfl fun K hK => ?_
 refine svw hK hF (v_assign rfl) rfl ?_; clear hF a hK K; intro a hF
 replace hF := hF.sub _ (c_ 8 rfl (c_ 7 rfl (c_ 6 rfl (c_ 0 rfl (c_ 1 rfl (c_ 2 rfl n_))))))
 refine W_seq ?_
 refine W_sr rfl fun K hK => ?_
 refine sv3w hK hF (v_move rfl) (v_lenS rfl sl48 rfl) (v_move rfl) rfl rfl rfl ?_; clear hF a hK K; intro a hF
 replace hF := hF.sub _ (c_ 25 rfl (c_ 24 rfl (c_ 23 rfl (c_ 8 rfl (c_ 7 rfl (c_ 6 rfl (c_ 0 rfl (c_ 1 rfl n_))))))))
 refine W_block ?_
 refine W_loop (fun m a w1 => ∃ (r : Nat) (v8 : Value) (b8 : Option Nat) (vs : List Value) (xs : List (List Nat)), Fr 52 [(0, fv), (1, .slice s1 cs.length c1), (8, v8), (23, .slice s2 vals.length c2), (24, .int .i64 (vals.length : Int)), (25, .int .i64 (r : Int))] a ∧ St FDx B w w1 ∧ Fo FDx B w1 fv o ∧ Row FDx B M w1 (.slice s1 cs.length c1) (zints cs) ∧ Row FDx B M w1 (.slice s2 vals.length c2) vals ∧ Rows2 FDx B M w1 vals bss ∧ Gam.Own FDx B w.heap.size w1 23 v8 b8 vs ∧ Owns2 FDx B w.heap.size w1 5 vs xs ∧ rmuls o (cs.take r) (bss.take r) = some xs ∧ (∀ x ∈ xs, (∀ u ∈ x, u < 256) ∧ x.length ≤ 20000) ∧ xs.length = r ∧ r ≤ bss.length ∧ m + r = bss.length) (bss.length) ?_ ?_
 · skip
   exact ⟨0, _, none, [], [], hF.sub _ (c_ 0 rfl (c_ 1 rfl (c_ 8 rfl (c_ 23 rfl (c_ 24 rfl (c_ 25 rfl n_)))))), hS, hf, hC, hR, hR2, Gam.Own.nil _ _ _ _ _, Owns2.nil _ _ _ _ _, rfl, by simp, rfl, by omega, by omega⟩
 skip
 clear hF
 clear hS hf hC hR hR2
 rintro m a w1 ⟨r, v8, b8, vs, xs, hF, hS, hf, hC, hR, hR2, hO, hQ, hmu, hxs, hxl, hr, hm⟩
 refine W_sr rfl fun K hK => ?_
 refine svw hK hF (v_lss rfl rfl) rfl ?_; clear hF a hK K; intro a hF
 refine W_seq ?_
 refine W_if hF rfl (fun hc3 => ?_) (fun hc3 => ?_)
 ·
  skip
  try simp only [dcl] at hc3
  have hlt : r < bss.length := by omega
  obtain ⟨ci, hci⟩ : ∃ c, cs[r]? = some c := ⟨_, List.getElem?_eq_getElem (by omega)⟩
  obtain ⟨b, hb⟩ : ∃ b, bss[r]? = some b := ⟨_, List.getElem?_eq_getElem hlt⟩
  obtain ⟨vr, hvr⟩ : ∃ v, vals[r]? = some v := ⟨_, List.getElem?_eq_getElem (by omega)⟩
  have hRb := hR2.2 r vr b hvr hb
  obtain ⟨sb, cb, rfl⟩ := hRb.sl
  rw [byt_length] at hRb hvr
  obtain ⟨-, gr, or_, hgr, hcr⟩ := hR.at hvr
  obtain ⟨-, gc, oc, hgc, hcc⟩ := hC.at (zints_at hci)
  subst hgr hgc
  have hb8 := h8 b (List.mem_of_getElem? hb)
  have hbl := hlen2 b (List.mem_of_getElem? hb)
  have hvsl := hQ.1
  refine W_skip ?_
  refine W_seq ?_
  refine W_block ?_
  refine W_sr rfl fun K hK => ?_
  refine sv2 hF (v_move rfl) (v_ixS sl48 rfl rfl (by omega) (by omega)) rfl rfl ?_; clear hF a; intro a hF
  refine sv hF (v_load sc23 rfl (by rw [toNat_c]; exact hcr)) rfl ?_; clear hF a; intro a hF
  refine sv2w hK hF (v_assign rfl) (v_assign rfl) rfl rfl ?_; clear hF a hK K; intro a hF
  replace hF := hF.sub _ (c_ 10 rfl (c_ 9 rfl (c_ 0 rfl (c_ 1 rfl (c_ 8 rfl (c_ 23 rfl (c_ 24 rfl (c_ 25 rfl n_))))))))
  refine W_sr rfl fun K hK => ?_
  refine sv4 hF (v_move rfl) (v_move rfl) (v_move rfl) (v_ixS sl49 rfl rfl (by omega) (by omega)) rfl rfl rfl rfl ?_; clear hF a; intro a hF
  refine sv hF (v_load sc3 rfl (by rw [toNat_c]; exact hcc)) rfl ?_; clear hF a; intro a hF
  refine sv hF (v_move rfl) rfl ?_; clear hF a; intro a hF
  refine sc hF rfl rfl rfl en80 rfl (Mul_reg B M o fv ci sb cb b _ hf hS.inv hRb (Nat.le_trans hM hS.ext.size) hb8 (by omega)) ?_; clear hF a; intro v w' a hv hF
  clear hRb hcr hcc
  obtain ⟨sl, ob, rfl, hX, hS'⟩ := hv
  replace hX := hX.le hS.ext.size
  replace hf := hf.st hS'
  replace hC := hC.st hS'
  replace hR := hR.st hS'
  replace hR2 := hR2.st hS'
  replace hO := hO.st (by decide) hS'
  replace hQ := hQ.st (by decide) hS'
  replace hS := hS.trans hS'
  clear hS'
  refine sv5w hK hF (v_move rfl) (v_ext rfl rfl) (v_ext rfl rfl) (v_assign rfl) (v_assign rfl) rfl rfl rfl rfl rfl ?_; clear hF a hK K; intro a hF
  replace hF := hF.sub _ (c_ 12 rfl (c_ 11 rfl (c_ 0 rfl (c_ 1 rfl (c_ 8 rfl (c_ 23 rfl (c_ 24 rfl (c_ 25 rfl n_))))))))
  refine W_seq ?_
  refine W_sr rfl fun K hK => ?_
  refine sv2w hK hF (v_move rfl) (v_neq rfl rfl) rfl rfl ?_; clear hF a hK K; intro a hF
  replace hF := hF.sub _ (c_ 41 rfl (c_ 12 rfl (c_ 11 rfl (c_ 0 rfl (c_ 1 rfl (c_ 8 rfl (c_ 23 rfl (c_ 24 rfl (c_ 25 rfl n_)))))))))
  refine W_if hF rfl (fun hc4 => ?_) (fun hc4 => ?_)
  ·
   skip
   try simp only [dcl] at hc4
   refine W_sr rfl fun K hK => ?_
   refine sv3w hK hF (v_move rfl) (v_assign rfl) (v_assign rfl) rfl rfl rfl ?_; clear hF a hK K; intro a hF
   replace hF := hF.sub _ (c_ 7 rfl (c_ 6 rfl (c_ 11 rfl (c_ 0 rfl (c_ 1 rfl (c_ 8 rfl (c_ 23 rfl (c_ 24 rfl (c_ 25 rfl n_)))))))))
   refine W_ret ?_
   refine ⟨_, _, _, hF, rfl, rfl, ?_⟩
   rw [rdot_none2 (rmuls_none hci hb (errV_ne hc4)), errV_ne hc4]
   exact ⟨_, none, rfl, Gam.Own.nil _ _ _ _ _, hS⟩
  skip
  try simp only [dcl] at hc4
  obtain ⟨x, hx⟩ := errV_eq (show errV (rmul o ci b) = 0 by omega)
  rw [hx] at hX hF
  simp only [Option.getD_some] at hX
  obtain ⟨ax, cx, rfl⟩ := hX.shape
  have hpr := rmul_props hfz hx
  refine W_skip ?_
  refine W_reg rfl fun K hK => ?_
  refine sv2 hF (v_move rfl) (v_move rfl) rfl rfl ?_; clear hF a; intro a hF
  refine s_bs (D := FDx) (B := B) hF sl48 rfl rfl (by decide) (by simp [Value.cells]) (by decide) hS.inv rfl ?_; clear hF a; intro w' a hm hI' hb hF
  replace hf := hf.mb hm
  replace hC := hC.mb hm (fun _ h => by cases h)
  replace hR := hR.mb hm (fun _ h => by cases h)
  replace hR2 := hR2.mb hm (fun _ h => by cases h)
  replace hO := hO.mb hm (fun _ _ => by simp)
  replace hQ := hQ.mb0 hm
  replace hX := hX.mb hm (fun _ _ => by simp)
  replace hS := hS.mb0 hm
  clear hm hI'
  refine s_app (D := FDx) (B := B) hF rfl sl48 rfl rfl hO (hb.row (by decide)) (by simp [Value.oneCell']) (by simp; omega) (by simp [maxLen]; omega) (hS.ext.size) (by decide) hS.inv rfl ?_; clear hF a; intro v' b' w' a ho' hm hI' hb' hF
  replace hf := hf.mb hm
  replace hC := hC.mb hm (fun k h => Nat.le_trans (by omega) (hO.lt k h).1)
  replace hR := hR.mb hm (fun k h => Nat.le_trans (by omega) (hO.lt k h).1)
  replace hR2 := hR2.mb hm (fun k h => Nat.le_trans (by omega) (hO.lt k h).1)
  replace hQ := hQ.mb hO (by decide) hm
  replace hX := hX.mb hm (hX.ne_type hO (by decide))
  replace hS := hS.mb hm (fun k h => Nat.le_trans (Nat.le_refl _) (hO.lt k h).1)
  replace hO := ho'
  clear hm hI' ho' hb
  refine svw hK hF (v_assign rfl) rfl ?_; clear hF a hK K; intro a hF
  replace hF := hF.sub _ (c_ 8 rfl (c_ 0 rfl (c_ 1 rfl (c_ 23 rfl (c_ 24 rfl (c_ 25 rfl n_))))))
  refine W_reg rfl fun K hK => ?_
  refine sv2w hK hF (v_addI rfl rfl (by omega)) (v_move rfl) rfl rfl ?_; clear hF a hK K; intro a hF
  exact ⟨m - 1, by omega, r + 1, _, _, _, _, hF.sub _ (c_ 0 rfl (c_ 1 rfl (c_ 8 rfl (c_ 23 rfl (c_ 24 rfl (c_ 25 rfl n_)))))), hS, hf, hC, hR, hR2, hO, hQ.snoc hX, rmuls_step (by omega) hmu hci hb hx, by intro z hz; rw [List.mem_append] at hz; rcases hz with hz | hz; exact hxs z hz; (obtain rfl := List.mem_singleton.1 hz; exact ⟨hpr.1, by omega⟩), by simp [hxl], by omega, by omega⟩
 skip
 try simp only [dcl] at hc3
 refine W_exit rfl ?_
 obtain rfl : r = bss.length := by omega
 rw [List.take_length, List.take_of_length_le (by omega)] at hmu
 obtain ⟨a8, c8, rfl⟩ := hO.shape
 refine W_sr rfl fun K hK => ?_
 refine sv hF (v_move rfl) rfl ?_; clear hF a; intro a hF
 refine sc hF rfl rfl rfl en127 rfl (sum_ok B _ a8 c8 vs xs _ hS.inv (hO.row (by decide)) (hQ.rows (by decide)) (Nat.le_refl _) (fun b hb => (hxs b hb).1) (by omega) (by omega) (fun b hb => by have := (hxs b hb).2; omega)) ?_; clear hF a; intro v w' a hv hF
 clear hO hQ
 obtain ⟨sl, ob, rfl, hO, hS'⟩ := hv
 replace hO := hO.le hS.ext.size
 replace hS := hS.trans hS'
 clear hS'
 refine sv4w hK hF (v_ext rfl rfl) (v_ext rfl rfl) (v_assign rfl) (v_assign rfl) rfl rfl rfl rfl ?_; clear hF a hK K; intro a hF
 replace hF := hF.sub _ (c_ 7 rfl (c_ 6 rfl (c_ 51 rfl (c_ 50 rfl (c_ 49 rfl (c_ 48 rfl (c_ 0 rfl (c_ 1 rfl (c_ 8 rfl (c_ 23 rfl (c_ 24 rfl (c_ 25 rfl n_))))))))))))
 refine W_ret ?_
 refine ⟨_, _, _, hF, rfl, rfl, ?_⟩
 rw [rdot_some (by omega) (by omega) hmu]
 exact ⟨_, _, rfl, hO, hS⟩
end Go.Proofs.YtoabojbpeafdkaaGreatDoor
