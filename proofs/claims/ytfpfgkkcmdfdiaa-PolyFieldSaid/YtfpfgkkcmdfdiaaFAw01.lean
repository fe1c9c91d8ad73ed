/- What the statements of layer 1 call first is true. -/
import Derived.Test.YtfpfgkkcmdfdiaaFRef01
import Derived.Test.YtfpfgkkcmdfdiaaGComp
set_option linter.unusedVariables false
set_option linter.unusedSimpArgs false
namespace Go.Proofs.Ytfpfgkkcmdfdiaa
open Go Go.Gam


theorem en26 : Ent Try.prog 26 := ent Try.func26 (by kernel_rfl) (by kernel_rfl)

set_option maxRecDepth 100000 in
set_option maxHeartbeats 4000000 in
theorem aw01_ok (B : Nat) (w : World) (hI : Inv FDx B w) : Ret Try.prog 15 [] w fun v w' => v = .bool true ∧ St FDx B w w'  := by
  refine enter 24 [] 0 Try.func15 rfl rfl rfl rfl rfl ?_; intro a hF
  have hS := St.refl hI
  refine W_sr rfl (fun K hK => ?_)
  refine sv hF (v_assign rfl) rfl ?_; clear hF a; intro a hF
  refine WL_nil (hK _ _ ?_)
  clear hK K
  refine W_sr rfl (fun K hK => ?_)
  refine sc hF rfl rfl rfl en18 rfl (Mul_ok B 3 3 _ hS.inv (by decide) (by decide)) ?_; clear hF a; intro v w' a hv hF
  obtain ⟨rfl, hS'⟩ := hv
  replace hS := hS.trans hS'
  clear hS'
  rw [mul_3_3] at hF
  refine sv hF ((v_eql rfl rfl).as (congrArg Value.bool (decide_eq_true (by first | rfl | omega)))) rfl ?_; clear hF a; intro a hF
  refine sv hF (v_move rfl) rfl ?_; clear hF a; intro a hF
  refine svg hF rfl ?_
  refine sc hF rfl rfl rfl en20 rfl (Mod_ok B 5 3 _ hS.inv (by decide) (by decide)) ?_; clear hF a; intro v w' a hv hF
  obtain ⟨rfl, hS'⟩ := hv
  replace hS := hS.trans hS'
  clear hS'
  rw [mod_5_3] at hF
  refine svg hF rfl ?_
  refine sv hF ((v_eql rfl rfl).as (congrArg Value.bool (decide_eq_true (by first | rfl | omega)))) rfl ?_; clear hF a; intro a hF
  refine sv hF (v_pickT rfl rfl) rfl ?_; clear hF a; intro a hF
  refine sv hF (v_move rfl) rfl ?_; clear hF a; intro a hF
  refine svg hF rfl ?_
  refine sc hF rfl rfl rfl en16 rfl (Deg_ok B 285 _ hS.inv (by decide)) ?_; clear hF a; intro v w' a hv hF
  obtain ⟨rfl, hS'⟩ := hv
  replace hS := hS.trans hS'
  clear hS'
  rw [deg_285] at hF
  refine svg hF rfl ?_
  refine sv hF ((v_eql rfl rfl).as (congrArg Value.bool (decide_eq_true (by first | rfl | omega)))) rfl ?_; clear hF a; intro a hF
  refine sv hF (v_pickT rfl rfl) rfl ?_; clear hF a; intro a hF
  refine sv hF (v_move rfl) rfl ?_; clear hF a; intro a hF
  refine svg hF rfl ?_
  refine sc hF rfl rfl rfl en26 rfl (prim_ok B 285 _ hS.inv (by decide)) ?_; clear hF a; intro v w' a hv hF
  obtain ⟨rfl, hS'⟩ := hv
  replace hS := hS.trans hS'
  clear hS'
  rw [prim_285] at hF
  refine sv hF (v_pickT rfl rfl) rfl ?_; clear hF a; intro a hF
  refine sv hF (v_move rfl) rfl ?_; clear hF a; intro a hF
  refine svg hF rfl ?_
  refine sc hF rfl rfl rfl en24 rfl (irr_ok B 283 _ hS.inv (by decide)) ?_; clear hF a; intro v w' a hv hF
  obtain ⟨rfl, hS'⟩ := hv
  replace hS := hS.trans hS'
  clear hS'
  rw [irr_283] at hF
  refine sv hF (v_pickT rfl rfl) rfl ?_; clear hF a; intro a hF
  refine sv hF (v_move rfl) rfl ?_; clear hF a; intro a hF
  refine svg hF rfl ?_
  refine sc hF rfl rfl rfl en26 rfl (prim_ok B 283 _ hS.inv (by decide)) ?_; clear hF a; intro v w' a hv hF
  obtain ⟨rfl, hS'⟩ := hv
  replace hS := hS.trans hS'
  clear hS'
  rw [prim_283] at hF
  refine svg hF rfl ?_
  refine sv hF (v_not rfl) rfl ?_; clear hF a; intro a hF
  refine sv hF (v_pickT rfl rfl) rfl ?_; clear hF a; intro a hF
  refine sv hF (v_move rfl) rfl ?_; clear hF a; intro a hF
  refine svg hF rfl ?_
  refine sc hF rfl rfl rfl en26 rfl (prim_ok B 69643 _ hS.inv (by decide)) ?_; clear hF a; intro v w' a hv hF
  obtain ⟨rfl, hS'⟩ := hv
  replace hS := hS.trans hS'
  clear hS'
  rw [prim_69643] at hF
  refine sv hF (v_pickT rfl rfl) rfl ?_; clear hF a; intro a hF
  refine sv hF (v_assign rfl) rfl ?_; clear hF a; intro a hF
  refine WL_nil (hK _ _ ?_)
  clear hK K
  replace hF := hF.sub _ (c_ 0 rfl (n_))
  refine W_ret ?_
  refine ⟨_, _, hF, rfl, ?_⟩
  exact ⟨rfl, hS⟩

end Go.Proofs.Ytfpfgkkcmdfdiaa
