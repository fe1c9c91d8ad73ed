/- The statement NamesRead, walked: it returns true. -/
import Derived.Test.YtkoiolamnnmokaaDoorFAw15
set_option linter.unusedVariables false
set_option linter.unusedSimpArgs false
namespace Go.Proofs.YtkoiolamnnmokaaDoor
open Go Go.Gam


namespace FxFNamesRead
theorem en9 : Ent Tryd.prog 9 := ent Tryd.func9 (by kernel_rfl) (by kernel_rfl)
theorem en10 : Ent Tryd.prog 10 := ent Tryd.func10 (by kernel_rfl) (by kernel_rfl)
theorem en11 : Ent Tryd.prog 11 := ent Tryd.func11 (by kernel_rfl) (by kernel_rfl)
theorem en12 : Ent Tryd.prog 12 := ent Tryd.func12 (by kernel_rfl) (by kernel_rfl)
end FxFNamesRead
open FxFNamesRead

set_option maxRecDepth 100000 in
set_option maxHeartbeats 1000000 in
theorem NamesRead_ok (B : Nat) (f : List UInt8) (w : World) (hI : Inv FDx B w) (hfl : f.length ≤ maxLen) : Ret Tryd.prog 3 [.string (str f)] w fun v w' => v = .bool true ∧ St FDx B w w' := by
  refine enter 34 [(0, .string (str f))] 2 Tryd.func3 rfl rfl rfl rfl rfl ?_; intro a hF
  have hS := St.refl hI
  refine W_sr rfl (fun K hK => ?_)
  refine sv hF (v_assign rfl) rfl ?_; clear hF a; intro a hF
  refine WL_nil (hK _ _ ?_)
  clear hK K
  refine W_sr rfl (fun K hK => ?_)
  refine sc hF rfl rfl rfl en9 rfl (aw15_ok B _ hS.inv) ?_; clear hF a; intro v w' a hv hF
  obtain ⟨rfl, hS'⟩ := hv
  replace hS := hS.trans hS'
  clear hS'
  refine sv hF (v_assign rfl) rfl ?_; clear hF a; intro a hF
  refine WL_nil (hK _ _ ?_)
  clear hK K
  replace hF := hF.sub _ (c_ 3 rfl (c_ 2 rfl (c_ 0 rfl (n_))))
  refine W_seq ?_
  refine W_sr rfl (fun K hK => ?_)
  refine sv hF (v_move rfl) rfl ?_; clear hF a; intro a hF
  refine sv hF (v_lenT rfl Tryd.underlying9 rfl) rfl ?_; clear hF a; intro a hF
  refine sv hF (v_gtr rfl rfl) rfl ?_; clear hF a; intro a hF
  refine WL_nil (hK _ _ ?_)
  clear hK K
  replace hF := hF.sub _ (c_ 11 rfl (c_ 3 rfl (c_ 2 rfl (c_ 0 rfl (n_)))))
  refine W_if hF rfl (fun hc1 => ?_) (fun hc1 => ?_)
  · skip
    try simp only [decide_eq_true_eq, decide_eq_false_iff_not, Bool.not_eq_true', Bool.not_eq_false', Bool.not_true, Bool.not_false] at hc1
    refine W_sr rfl (fun K hK => ?_)
    refine sv hF (v_move rfl) rfl ?_; clear hF a; intro a hF
    refine sv hF (v_assign rfl) rfl ?_; clear hF a; intro a hF
    refine WL_nil (hK _ _ ?_)
    clear hK K
    replace hF := hF.sub _ (c_ 2 rfl (c_ 3 rfl (c_ 0 rfl (n_))))
    refine W_ret ?_
    refine ⟨_, _, hF, rfl, ?_⟩
    exact ⟨rfl, hS⟩
  · skip
    try simp only [decide_eq_true_eq, decide_eq_false_iff_not, Bool.not_eq_true', Bool.not_eq_false', Bool.not_true, Bool.not_false] at hc1
    refine W_skip ?_
    refine W_sr rfl (fun K hK => ?_)
    refine sv hF (v_move rfl) rfl ?_; clear hF a; intro a hF
    refine sc hF rfl rfl rfl en10 rfl (Read_ok B f _ hS.inv (by omega)) ?_; clear hF a; intro v w' a hv hF
    obtain ⟨rfl, hS'⟩ := hv
    replace hS := hS.trans hS'
    clear hS'
    refine sv hF (v_move rfl) rfl ?_; clear hF a; intro a hF
    refine sv hF (v_ext rfl rfl) rfl ?_; clear hF a; intro a hF
    refine sv hF (v_ext rfl rfl) rfl ?_; clear hF a; intro a hF
    have hs0 := hS.ext.size
    refine s_allocN (D := FDx) (B := B) (z := .agg nmz.cells.toArray) hF (by kernel_rfl) (by decide) hS.inv rfl ?_; clear hF a; intro gn w' a hm hI' hn hF
    replace hS := hS.mb0 hm
    clear hm hI'
    replace hn := hn.le hs0
    clear hs0
    refine s_storeN (D := FDx) (B := B) hF (by kernel_rfl) rfl rfl (rfl) (by rfl) hn hS.inv ?_; intro w' hm hI' hrc'
    replace hS := hS.mb hm (fun k h => by cases h; exact hn.low)
    replace hn := hrc'
    clear hm hI' hrc'
    refine sv hF (v_assign rfl) rfl ?_; clear hF a; intro a hF
    refine WL_nil (hK _ _ ?_)
    clear hK K
    replace hF := hF.sub _ (c_ 5 rfl (c_ 4 rfl (c_ 3 rfl (c_ 2 rfl (c_ 0 rfl (n_))))))
    refine W_sr rfl (fun K hK => ?_)
    refine sv hF (v_move rfl) rfl ?_; clear hF a; intro a hF
    refine sc hF rfl rfl rfl en11 rfl (rRead_ok B f _ hS.inv (by omega)) ?_; clear hF a; intro v w' a hv hF
    obtain ⟨rfl, hS'⟩ := hv
    replace hn := hn.st hS'
    replace hS := hS.trans hS'
    clear hS'
    refine sv hF (v_move rfl) rfl ?_; clear hF a; intro a hF
    refine sv hF (v_ext rfl rfl) rfl ?_; clear hF a; intro a hF
    refine sv hF (v_ext rfl rfl) rfl ?_; clear hF a; intro a hF
    have hs0 := hS.ext.size
    have tn := heap_lt hn.blk
    refine s_allocN (D := FDx) (B := B) (z := .agg nmz.cells.toArray) hF (by kernel_rfl) (by decide) hS.inv rfl ?_; clear hF a; intro gk w' a hm hI' hk hF
    replace hn := hn.mb hm (by simp)
    replace hS := hS.mb0 hm
    clear hm hI'
    have hgk := hk.low
    replace hk := hk.le hs0
    clear hs0
    refine s_storeN (D := FDx) (B := B) hF (by kernel_rfl) rfl rfl (rfl) (by rfl) hk hS.inv ?_; intro w' hm hI' hrc'
    replace hn := hn.mb hm (by simp; omega)
    replace hS := hS.mb hm (fun k h => by cases h; exact hk.low)
    replace hk := hrc'
    clear hm hI' hrc'
    refine sv hF (v_assign rfl) rfl ?_; clear hF a; intro a hF
    refine WL_nil (hK _ _ ?_)
    clear hK K
    replace hF := hF.sub _ (c_ 7 rfl (c_ 6 rfl (c_ 5 rfl (c_ 4 rfl (c_ 3 rfl (c_ 2 rfl (n_)))))))
    refine W_sr rfl (fun K hK => ?_)
    refine sv hF (v_move rfl) rfl ?_; clear hF a; intro a hF
    refine sv hF (v_move rfl) rfl ?_; clear hF a; intro a hF
    refine svg hF rfl ?_
    refine sv hF (v_loadN Tryd.underlying24 rfl (by kernel_rfl) rfl hn.blk) rfl ?_; clear hF a; intro a hF
    refine svg hF rfl ?_
    refine sv hF (v_loadN Tryd.underlying27 rfl (by kernel_rfl) rfl hk.blk) rfl ?_; clear hF a; intro a hF
    refine svg hF rfl ?_
    refine sc hF rfl rfl rfl en12 rfl (same_ok B ((rd f).getD nmz) _ hS.inv) ?_; clear hF a; intro v w' a hv hF
    obtain ⟨rfl, hS'⟩ := hv
    replace hn := hn.st hS'
    replace hk := hk.st hS'
    replace hS := hS.trans hS'
    clear hS'
    refine sv hF (v_pickT rfl rfl) rfl ?_; clear hF a; intro a hF
    refine sv hF (v_move rfl) rfl ?_; clear hF a; intro a hF
    refine svg hF rfl ?_
    refine sv hF (v_move rfl) rfl ?_; clear hF a; intro a hF
    refine svg hF rfl ?_
    refine sv hF (v_move rfl) rfl ?_; clear hF a; intro a hF
    refine svg hF rfl ?_
    refine sv hF ((v_eqlB Tryd.underlying4 rfl rfl).as (congrArg Value.bool (decide_eq_true (rfl)))) rfl ?_; clear hF a; intro a hF
    refine sv hF (v_pickT rfl rfl) rfl ?_; clear hF a; intro a hF
    refine sv hF (v_assign rfl) rfl ?_; clear hF a; intro a hF
    refine WL_nil (hK _ _ ?_)
    clear hK K
    replace hF := hF.sub _ (c_ 2 rfl (n_))
    refine W_ret ?_
    refine ⟨_, _, hF, rfl, ?_⟩
    exact ⟨rfl, hS⟩

end Go.Proofs.YtkoiolamnnmokaaDoor
