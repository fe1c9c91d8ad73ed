/- The statement GfTells of layer 2, walked: it returns true. -/
import Derived.Test.YtfpfgkkcmdfdiaaFAw02
set_option linter.unusedVariables false
set_option linter.unusedSimpArgs false
namespace Go.Proofs.Ytfpfgkkcmdfdiaa
open Go Go.Gam


namespace FxFLaw02b
theorem en29 : Ent Try.prog 29 := ent Try.func29 (by kernel_rfl) (by kernel_rfl)
theorem en30 : Ent Try.prog 30 := ent Try.func30 (by kernel_rfl) (by kernel_rfl)
theorem en31 : Ent Try.prog 31 := ent Try.func31 (by kernel_rfl) (by kernel_rfl)
theorem en33 : Ent Try.prog 33 := ent Try.func33 (by kernel_rfl) (by kernel_rfl)
theorem en34 : Ent Try.prog 34 := ent Try.func34 (by kernel_rfl) (by kernel_rfl)
theorem en41 : Ent Try.prog 41 := ent Try.func41 (by kernel_rfl) (by kernel_rfl)
theorem en42 : Ent Try.prog 42 := ent Try.func42 (by kernel_rfl) (by kernel_rfl)
theorem en43 : Ent Try.prog 43 := ent Try.func43 (by kernel_rfl) (by kernel_rfl)
theorem en44 : Ent Try.prog 44 := ent Try.func44 (by kernel_rfl) (by kernel_rfl)
theorem en45 : Ent Try.prog 45 := ent Try.func45 (by kernel_rfl) (by kernel_rfl)
theorem en46 : Ent Try.prog 46 := ent Try.func46 (by kernel_rfl) (by kernel_rfl)
theorem ar57 : ArrOf Try.prog 57 3 := ar_of Try.underlying57 (by kernel_rfl)
theorem hmix : Try.prog.follows .mixedOrders = true := by kernel_rfl
theorem sc3 : Scalar Try.prog 3 := ⟨_, Try.underlying3, by simp, by simp⟩
end FxFLaw02b
open FxFLaw02b

set_option maxRecDepth 100000 in
set_option maxHeartbeats 4000000 in
theorem GfTells_ok (B k : Nat) (x y z : Int) (w : World) (hI : Inv FDx B w) (hk : k < 256) (hx : -9223372036854775808 ≤ x ∧ x < 9223372036854775808) (hy : -9223372036854775808 ≤ y ∧ y < 9223372036854775808) (hz : -9223372036854775808 ≤ z ∧ z < 9223372036854775808) : Ret Try.prog 13 [.int .u8 (k : Int), .agg #[.int .i64 x, .int .i64 y, .int .i64 z]] w fun v w' => v = .bool true ∧ St FDx B w w' := by
  refine enter 113 [(0, .int .u8 (k : Int)), (1, .agg #[.int .i64 x, .int .i64 y, .int .i64 z])] 4 Try.func13 rfl rfl rfl rfl rfl ?_; intro a hF
  have hS := St.refl hI
  refine W_sr rfl (fun K hK => ?_)
  refine s_box (D := FDx) (B := B) hF rfl (by decide) hS.inv rfl ?_; clear hF a; intro w' a hm hbox hsz hF
  replace hS := hS.mb0 hm
  clear hm
  generalize w.heap.size = g at *
  refine sv hF (v_assign rfl) rfl ?_; clear hF a; intro a hF
  refine WL_nil (hK _ _ ?_)
  clear hK K
  replace hF := hF.sub _ (c_ 4 rfl (c_ 3 rfl (c_ 0 rfl (n_))))
  refine W_sr rfl (fun K hK => ?_)
  refine sc hF rfl rfl rfl en29 rfl (aw02_ok B _ hS.inv) ?_; clear hF a; intro v w' a hv hF
  obtain ⟨rfl, hS'⟩ := hv
  replace hbox := hbox.st (by decide) hS'
  replace hS := hS.trans hS'
  clear hS'
  refine sv hF (v_assign rfl) rfl ?_; clear hF a; intro a hF
  refine WL_nil (hK _ _ ?_)
  clear hK K
  replace hF := hF.sub _ (c_ 5 rfl (c_ 4 rfl (c_ 3 rfl (c_ 0 rfl (n_)))))
  refine W_sr rfl (fun K hK => ?_)
  refine sv hF (v_move rfl) rfl ?_; clear hF a; intro a hF
  refine sc hF rfl rfl rfl en30 rfl (field_ok B k _ hS.inv hk) ?_; clear hF a; intro v w' a hv hF
  obtain ⟨wb, p, rfl, hp, hS'⟩ := hv
  have hplt := hp.lt
  have hsz := hp.size
  replace hbox := hbox.st (by decide) hS'
  replace hS := hS.trans hS'
  clear hS'
  refine sv hF (v_move rfl) rfl ?_; clear hF a; intro a hF
  refine sv hF (v_ext rfl rfl) rfl ?_; clear hF a; intro a hF
  refine sv hF (v_ext rfl rfl) rfl ?_; clear hF a; intro a hF
  refine sv hF (v_assign rfl) rfl ?_; clear hF a; intro a hF
  refine sv hF (v_assign rfl) rfl ?_; clear hF a; intro a hF
  refine WL_nil (hK _ _ ?_)
  clear hK K
  replace hF := hF.sub _ (c_ 7 rfl (c_ 6 rfl (c_ 5 rfl (c_ 4 rfl (c_ 3 rfl (n_))))))
  refine W_sr rfl (fun K hK => ?_)
  refine sv hF (v_move rfl) rfl ?_; clear hF a; intro a hF
  refine sv hF (v_move rfl) rfl ?_; clear hF a; intro a hF
  refine sc hF rfl rfl rfl en31 rfl (New_ok B (wb : Int) p _ hS.inv (by have := hp.w; omega) (by omega)) ?_; clear hF a; intro v w' a hv hF
  rw [newF_p hp] at hv
  obtain ⟨hf, hS'⟩ := hv
  obtain ⟨fv, rfl⟩ : ∃ x, x = v := ⟨_, rfl⟩
  replace hbox := hbox.st (by decide) hS'
  replace hS := hS.trans hS'
  clear hS'
  refine sv hF (v_assign rfl) rfl ?_; clear hF a; intro a hF
  refine WL_nil (hK _ _ ?_)
  clear hK K
  replace hF := hF.sub _ (c_ 8 rfl (c_ 7 rfl (c_ 6 rfl (c_ 5 rfl (c_ 4 rfl (c_ 3 rfl (n_)))))))
  refine W_sr rfl (fun K hK => ?_)
  refine sv hF (v_move rfl) rfl ?_; clear hF a; intro a hF
  refine sv hF (v_ixA ar57 rfl rfl (by omega) (by omega)) rfl ?_; clear hF a; intro a hF
  refine sv hF (v_load sc3 rfl (hbox.at 0 rfl)) rfl ?_; clear hF a; intro a hF
  refine sv hF (v_ixA ar57 rfl rfl (by omega) (by omega)) rfl ?_; clear hF a; intro a hF
  refine sv hF (v_load sc3 rfl (hbox.at 1 rfl)) rfl ?_; clear hF a; intro a hF
  refine sc hF rfl rfl rfl en41 rfl (Div_gf B (some (wb, p)) fv x y _ hS.inv hf) ?_; clear hF a; intro v w' a hv hF
  obtain ⟨rfl, hS'⟩ := hv
  replace hf := hf.st hS'
  replace hbox := hbox.st (by decide) hS'
  replace hS := hS.trans hS'
  clear hS'
  refine sv hF (v_move rfl) rfl ?_; clear hF a; intro a hF
  refine sv hF (v_ext rfl rfl) rfl ?_; clear hF a; intro a hF
  refine sv hF (v_ext rfl rfl) rfl ?_; clear hF a; intro a hF
  refine sv hF (v_assign rfl) rfl ?_; clear hF a; intro a hF
  refine sv hF (v_assign rfl) rfl ?_; clear hF a; intro a hF
  refine WL_nil (hK _ _ ?_)
  clear hK K
  replace hF := hF.sub _ (c_ 10 rfl (c_ 9 rfl (c_ 8 rfl (c_ 7 rfl (c_ 6 rfl (c_ 5 rfl (c_ 4 rfl (c_ 3 rfl (n_)))))))))
  refine W_sr rfl (fun K hK => ?_)
  refine sv hF (v_move rfl) rfl ?_; clear hF a; intro a hF
  refine sv hF (v_move rfl) rfl ?_; clear hF a; intro a hF
  refine sv hF (v_ixA ar57 rfl rfl (by omega) (by omega)) rfl ?_; clear hF a; intro a hF
  refine sv hF (v_load sc3 rfl (hbox.at 0 rfl)) rfl ?_; clear hF a; intro a hF
  refine sv hF (v_ixA ar57 rfl rfl (by omega) (by omega)) rfl ?_; clear hF a; intro a hF
  refine sv hF (v_load sc3 rfl (hbox.at 1 rfl)) rfl ?_; clear hF a; intro a hF
  refine sc hF rfl rfl rfl en42 rfl (rDiv_gf B wb p x y _ hS.inv hp) ?_; clear hF a; intro v w' a hv hF
  obtain ⟨rfl, hS'⟩ := hv
  replace hf := hf.st hS'
  replace hbox := hbox.st (by decide) hS'
  replace hS := hS.trans hS'
  clear hS'
  refine sv hF (v_move rfl) rfl ?_; clear hF a; intro a hF
  refine sv hF (v_ext rfl rfl) rfl ?_; clear hF a; intro a hF
  refine sv hF (v_ext rfl rfl) rfl ?_; clear hF a; intro a hF
  refine sv hF (v_assign rfl) rfl ?_; clear hF a; intro a hF
  refine sv hF (v_assign rfl) rfl ?_; clear hF a; intro a hF
  refine WL_nil (hK _ _ ?_)
  clear hK K
  replace hF := hF.sub _ (c_ 12 rfl (c_ 11 rfl (c_ 10 rfl (c_ 9 rfl (c_ 8 rfl (c_ 7 rfl (c_ 6 rfl (c_ 5 rfl (c_ 4 rfl (c_ 3 rfl (n_)))))))))))
  refine W_sr rfl (fun K hK => ?_)
  refine sv hF (v_move rfl) rfl ?_; clear hF a; intro a hF
  refine sv hF (v_ixA ar57 rfl rfl (by omega) (by omega)) rfl ?_; clear hF a; intro a hF
  refine sv hF (v_load sc3 rfl (hbox.at 0 rfl)) rfl ?_; clear hF a; intro a hF
  refine sc hF rfl rfl rfl en43 rfl (Inv_gf B (some (wb, p)) fv x _ hS.inv hf) ?_; clear hF a; intro v w' a hv hF
  obtain ⟨rfl, hS'⟩ := hv
  replace hf := hf.st hS'
  replace hbox := hbox.st (by decide) hS'
  replace hS := hS.trans hS'
  clear hS'
  refine sv hF (v_move rfl) rfl ?_; clear hF a; intro a hF
  refine sv hF (v_ext rfl rfl) rfl ?_; clear hF a; intro a hF
  refine sv hF (v_ext rfl rfl) rfl ?_; clear hF a; intro a hF
  refine sv hF (v_assign rfl) rfl ?_; clear hF a; intro a hF
  refine sv hF (v_assign rfl) rfl ?_; clear hF a; intro a hF
  refine WL_nil (hK _ _ ?_)
  clear hK K
  replace hF := hF.sub _ (c_ 14 rfl (c_ 13 rfl (c_ 12 rfl (c_ 11 rfl (c_ 10 rfl (c_ 9 rfl (c_ 8 rfl (c_ 7 rfl (c_ 6 rfl (c_ 5 rfl (c_ 4 rfl (c_ 3 rfl (n_)))))))))))))
  refine W_sr rfl (fun K hK => ?_)
  refine sv hF (v_move rfl) rfl ?_; clear hF a; intro a hF
  refine sv hF (v_move rfl) rfl ?_; clear hF a; intro a hF
  refine sv hF (v_ixA ar57 rfl rfl (by omega) (by omega)) rfl ?_; clear hF a; intro a hF
  refine sv hF (v_load sc3 rfl (hbox.at 0 rfl)) rfl ?_; clear hF a; intro a hF
  refine sc hF rfl rfl rfl en44 rfl (rInv_gf B wb p x _ hS.inv hp) ?_; clear hF a; intro v w' a hv hF
  obtain ⟨rfl, hS'⟩ := hv
  replace hf := hf.st hS'
  replace hbox := hbox.st (by decide) hS'
  replace hS := hS.trans hS'
  clear hS'
  refine sv hF (v_move rfl) rfl ?_; clear hF a; intro a hF
  refine sv hF (v_ext rfl rfl) rfl ?_; clear hF a; intro a hF
  refine sv hF (v_ext rfl rfl) rfl ?_; clear hF a; intro a hF
  refine sv hF (v_assign rfl) rfl ?_; clear hF a; intro a hF
  refine sv hF (v_assign rfl) rfl ?_; clear hF a; intro a hF
  refine WL_nil (hK _ _ ?_)
  clear hK K
  replace hF := hF.sub _ (c_ 16 rfl (c_ 15 rfl (c_ 14 rfl (c_ 13 rfl (c_ 12 rfl (c_ 11 rfl (c_ 10 rfl (c_ 9 rfl (c_ 8 rfl (c_ 7 rfl (c_ 6 rfl (c_ 5 rfl (c_ 4 rfl (c_ 3 rfl (n_)))))))))))))))
  refine W_sd (m := 54) rfl hmix hS.inv (fun K hK w1 hS' hh => ?_)
  replace hf := hf.st hS'
  replace hbox := hbox.st (by decide) hS'
  replace hS := hS.trans hS'
  clear hS'
  clear hh
  refine a_v (i := 0) rfl (by kernel_rfl) hF (fun w2 hx => v_move rfl) rfl ?_; clear hF a; intro a hF
  refine a_v (i := 1) rfl (by kernel_rfl) hF (fun w2 hx => v_move rfl) rfl ?_; clear hF a; intro a hF
  refine a_vg (i := 2) rfl (by kernel_rfl) hF rfl (fun w2 hx => v_move rfl) rfl ?_; clear hF a; intro a hF
  refine a_vg (i := 3) rfl (by kernel_rfl) hF rfl (fun w2 hx => v_ixA ar57 rfl rfl (by omega) (by omega)) rfl ?_; clear hF a; intro a hF
  refine a_vg (i := 4) rfl (by kernel_rfl) hF rfl (fun w2 hx => v_load sc3 rfl (hbox.ld (by decide) hx 0 rfl)) rfl ?_; clear hF a; intro a hF
  refine a_vg (i := 5) rfl (by kernel_rfl) hF rfl (fun w2 hx => v_ixA ar57 rfl rfl (by omega) (by omega)) rfl ?_; clear hF a; intro a hF
  refine a_vg (i := 6) rfl (by kernel_rfl) hF rfl (fun w2 hx => v_load sc3 rfl (hbox.ld (by decide) hx 1 rfl)) rfl ?_; clear hF a; intro a hF
  refine a_vg (i := 8) rfl (by kernel_rfl) hF rfl (fun w2 hx => v_move rfl) rfl ?_; clear hF a; intro a hF
  refine a_vg (i := 9) rfl (by kernel_rfl) hF rfl (fun w2 hx => v_move rfl) rfl ?_; clear hF a; intro a hF
  refine a_vg (i := 10) rfl (by kernel_rfl) hF rfl (fun w2 hx => v_ixA ar57 rfl rfl (by omega) (by omega)) rfl ?_; clear hF a; intro a hF
  refine a_vg (i := 11) rfl (by kernel_rfl) hF rfl (fun w2 hx => v_load sc3 rfl (hbox.ld (by decide) hx 0 rfl)) rfl ?_; clear hF a; intro a hF
  refine a_vg (i := 12) rfl (by kernel_rfl) hF rfl (fun w2 hx => v_ixA ar57 rfl rfl (by omega) (by omega)) rfl ?_; clear hF a; intro a hF
  refine a_vg (i := 13) rfl (by kernel_rfl) hF rfl (fun w2 hx => v_load sc3 rfl (hbox.ld (by decide) hx 1 rfl)) rfl ?_; clear hF a; intro a hF
  refine a_e (i := 7) rfl (by kernel_rfl) ?_
  refine svg hF rfl ?_
  refine sc hF rfl rfl rfl en34 rfl (Mul_gf B (some (wb, p)) fv x y _ hS.inv hf) ?_; clear hF a; intro v w' a hv hF
  obtain ⟨rfl, hS'⟩ := hv
  refine WL_nil ⟨hS'.ext, ?_⟩
  replace hf := hf.st hS'
  replace hbox := hbox.st (by decide) hS'
  replace hS := hS.trans hS'
  clear hS'
  refine a_e (i := 14) rfl (by kernel_rfl) ?_
  refine svg hF rfl ?_
  refine sc hF rfl rfl rfl en45 rfl (rMul_gf B wb p x y _ hS.inv hp) ?_; clear hF a; intro v w' a hv hF
  obtain ⟨rfl, hS'⟩ := hv
  refine WL_nil ⟨hS'.ext, ?_⟩
  replace hf := hf.st hS'
  replace hbox := hbox.st (by decide) hS'
  replace hS := hS.trans hS'
  clear hS'
  refine a_vg (i := 15) rfl (by kernel_rfl) hF rfl (fun w2 hx => (v_eql rfl rfl).as (congrArg Value.bool (decide_eq_true (by first | rfl | omega)))) rfl ?_; clear hF a; intro a hF
  refine a_v (i := 16) rfl (by kernel_rfl) hF (fun w2 hx => v_pickT rfl rfl) rfl ?_; clear hF a; intro a hF
  refine a_v (i := 17) rfl (by kernel_rfl) hF (fun w2 hx => v_move rfl) rfl ?_; clear hF a; intro a hF
  refine a_vg (i := 18) rfl (by kernel_rfl) hF rfl (fun w2 hx => v_move rfl) rfl ?_; clear hF a; intro a hF
  refine a_vg (i := 19) rfl (by kernel_rfl) hF rfl (fun w2 hx => v_move rfl) rfl ?_; clear hF a; intro a hF
  refine a_vg (i := 20) rfl (by kernel_rfl) hF rfl (fun w2 hx => (v_eql rfl rfl).as (congrArg Value.bool (decide_eq_true (by first | rfl | omega)))) rfl ?_; clear hF a; intro a hF
  refine a_v (i := 21) rfl (by kernel_rfl) hF (fun w2 hx => v_pickT rfl rfl) rfl ?_; clear hF a; intro a hF
  refine a_v (i := 22) rfl (by kernel_rfl) hF (fun w2 hx => v_move rfl) rfl ?_; clear hF a; intro a hF
  refine a_vg (i := 23) rfl (by kernel_rfl) hF rfl (fun w2 hx => v_move rfl) rfl ?_; clear hF a; intro a hF
  refine a_vg (i := 24) rfl (by kernel_rfl) hF rfl (fun w2 hx => v_move rfl) rfl ?_; clear hF a; intro a hF
  refine a_vg (i := 25) rfl (by kernel_rfl) hF rfl (fun w2 hx => (v_eqlB Try.underlying4 rfl rfl).as (congrArg Value.bool (decide_eq_true (by first | rfl | omega)))) rfl ?_; clear hF a; intro a hF
  refine a_v (i := 26) rfl (by kernel_rfl) hF (fun w2 hx => v_pickT rfl rfl) rfl ?_; clear hF a; intro a hF
  refine a_v (i := 27) rfl (by kernel_rfl) hF (fun w2 hx => v_move rfl) rfl ?_; clear hF a; intro a hF
  refine a_vg (i := 28) rfl (by kernel_rfl) hF rfl (fun w2 hx => v_move rfl) rfl ?_; clear hF a; intro a hF
  refine a_vg (i := 29) rfl (by kernel_rfl) hF rfl (fun w2 hx => v_move rfl) rfl ?_; clear hF a; intro a hF
  refine a_vg (i := 30) rfl (by kernel_rfl) hF rfl (fun w2 hx => (v_eql rfl rfl).as (congrArg Value.bool (decide_eq_true (by first | rfl | omega)))) rfl ?_; clear hF a; intro a hF
  refine a_v (i := 31) rfl (by kernel_rfl) hF (fun w2 hx => v_pickT rfl rfl) rfl ?_; clear hF a; intro a hF
  refine a_v (i := 32) rfl (by kernel_rfl) hF (fun w2 hx => v_move rfl) rfl ?_; clear hF a; intro a hF
  refine a_vg (i := 33) rfl (by kernel_rfl) hF rfl (fun w2 hx => v_move rfl) rfl ?_; clear hF a; intro a hF
  refine a_vg (i := 34) rfl (by kernel_rfl) hF rfl (fun w2 hx => v_move rfl) rfl ?_; clear hF a; intro a hF
  refine a_vg (i := 35) rfl (by kernel_rfl) hF rfl (fun w2 hx => (v_eqlB Try.underlying4 rfl rfl).as (congrArg Value.bool (decide_eq_true (by first | rfl | omega)))) rfl ?_; clear hF a; intro a hF
  refine a_v (i := 36) rfl (by kernel_rfl) hF (fun w2 hx => v_pickT rfl rfl) rfl ?_; clear hF a; intro a hF
  refine a_v (i := 37) rfl (by kernel_rfl) hF (fun w2 hx => v_move rfl) rfl ?_; clear hF a; intro a hF
  refine a_vg (i := 38) rfl (by kernel_rfl) hF rfl (fun w2 hx => v_move rfl) rfl ?_; clear hF a; intro a hF
  refine a_vg (i := 39) rfl (by kernel_rfl) hF rfl (fun w2 hx => v_ixA ar57 rfl rfl (by omega) (by omega)) rfl ?_; clear hF a; intro a hF
  refine a_vg (i := 40) rfl (by kernel_rfl) hF rfl (fun w2 hx => v_load sc3 rfl (hbox.ld (by decide) hx 0 rfl)) rfl ?_; clear hF a; intro a hF
  refine a_vg (i := 41) rfl (by kernel_rfl) hF rfl (fun w2 hx => v_ixA ar57 rfl rfl (by omega) (by omega)) rfl ?_; clear hF a; intro a hF
  refine a_vg (i := 42) rfl (by kernel_rfl) hF rfl (fun w2 hx => v_load sc3 rfl (hbox.ld (by decide) hx 2 rfl)) rfl ?_; clear hF a; intro a hF
  refine a_vg (i := 44) rfl (by kernel_rfl) hF rfl (fun w2 hx => v_move rfl) rfl ?_; clear hF a; intro a hF
  refine a_vg (i := 45) rfl (by kernel_rfl) hF rfl (fun w2 hx => v_move rfl) rfl ?_; clear hF a; intro a hF
  refine a_vg (i := 46) rfl (by kernel_rfl) hF rfl (fun w2 hx => v_ixA ar57 rfl rfl (by omega) (by omega)) rfl ?_; clear hF a; intro a hF
  refine a_vg (i := 47) rfl (by kernel_rfl) hF rfl (fun w2 hx => v_load sc3 rfl (hbox.ld (by decide) hx 0 rfl)) rfl ?_; clear hF a; intro a hF
  refine a_vg (i := 48) rfl (by kernel_rfl) hF rfl (fun w2 hx => v_ixA ar57 rfl rfl (by omega) (by omega)) rfl ?_; clear hF a; intro a hF
  refine a_vg (i := 49) rfl (by kernel_rfl) hF rfl (fun w2 hx => v_load sc3 rfl (hbox.ld (by decide) hx 2 rfl)) rfl ?_; clear hF a; intro a hF
  refine a_e (i := 43) rfl (by kernel_rfl) ?_
  refine svg hF rfl ?_
  refine sc hF rfl rfl rfl en33 rfl (Pow_gf B (some (wb, p)) fv x z _ hS.inv hf hz) ?_; clear hF a; intro v w' a hv hF
  obtain ⟨rfl, hS'⟩ := hv
  refine WL_nil ⟨hS'.ext, ?_⟩
  replace hf := hf.st hS'
  replace hbox := hbox.st (by decide) hS'
  replace hS := hS.trans hS'
  clear hS'
  refine a_e (i := 50) rfl (by kernel_rfl) ?_
  refine svg hF rfl ?_
  refine sc hF rfl rfl rfl en46 rfl (rPow_gf B wb p x z _ hS.inv hp hz) ?_; clear hF a; intro v w' a hv hF
  obtain ⟨rfl, hS'⟩ := hv
  refine WL_nil ⟨hS'.ext, ?_⟩
  replace hf := hf.st hS'
  replace hbox := hbox.st (by decide) hS'
  replace hS := hS.trans hS'
  clear hS'
  refine a_vg (i := 51) rfl (by kernel_rfl) hF rfl (fun w2 hx => (v_eql rfl rfl).as (congrArg Value.bool (decide_eq_true (by first | rfl | omega)))) rfl ?_; clear hF a; intro a hF
  refine a_v (i := 52) rfl (by kernel_rfl) hF (fun w2 hx => v_pickT rfl rfl) rfl ?_; clear hF a; intro a hF
  refine a_v (i := 53) rfl (by kernel_rfl) hF (fun w2 hx => v_assign rfl) rfl ?_; clear hF a; intro a hF
  refine a_done (by kernel_rfl) (hK _ _ ?_)
  clear hK K
  replace hF := hF.sub _ (c_ 4 rfl (n_))
  refine W_ret ?_
  refine ⟨_, _, hF, rfl, ?_⟩
  exact ⟨rfl, hS⟩

end Go.Proofs.Ytfpfgkkcmdfdiaa
