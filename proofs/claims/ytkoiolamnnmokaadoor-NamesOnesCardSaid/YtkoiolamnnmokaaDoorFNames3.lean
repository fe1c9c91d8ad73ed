/- The walk of names.Read. -/
import Derived.Test.YtkoiolamnnmokaaDoorFNames2
set_option linter.unusedVariables false
set_option linter.unusedSimpArgs false
namespace Go.Proofs.YtkoiolamnnmokaaDoor
open Go Go.Gam


namespace FxFNames3
theorem en23 : Ent Tryd.prog 23 := ent Tryd.func23 (by kernel_rfl) (by kernel_rfl)
theorem en25 : Ent Tryd.prog 25 := ent Tryd.func25 (by kernel_rfl) (by kernel_rfl)
theorem en26 : Ent Tryd.prog 26 := ent Tryd.func26 (by kernel_rfl) (by kernel_rfl)
theorem en27 : Ent Tryd.prog 27 := ent Tryd.func27 (by kernel_rfl) (by kernel_rfl)
theorem en28 : Ent Tryd.prog 28 := ent Tryd.func28 (by kernel_rfl) (by kernel_rfl)
theorem en29 : Ent Tryd.prog 29 := ent Tryd.func29 (by kernel_rfl) (by kernel_rfl)
theorem en30 : Ent Tryd.prog 30 := ent Tryd.func30 (by kernel_rfl) (by kernel_rfl)
theorem fa24_1 : FieldFact Tryd.prog 24 1 1 := ff_of (sz := 0) Tryd.underlying24 (by kernel_rfl)
theorem fa24_2 : FieldFact Tryd.prog 24 2 2 := ff_of (sz := 0) Tryd.underlying24 (by kernel_rfl)
theorem fa24_3 : FieldFact Tryd.prog 24 3 3 := ff_of (sz := 0) Tryd.underlying24 (by kernel_rfl)
theorem fa24_4 : FieldFact Tryd.prog 24 4 4 := ff_of (sz := 0) Tryd.underlying24 (by kernel_rfl)
theorem fa24_5 : FieldFact Tryd.prog 24 5 5 := ff_of (sz := 0) Tryd.underlying24 (by kernel_rfl)
theorem fa24_6 : FieldFact Tryd.prog 24 6 6 := ff_of (sz := 0) Tryd.underlying24 (by kernel_rfl)
theorem hmix : Tryd.prog.follows .mixedOrders = true := by kernel_rfl
theorem on3 : Gam.One Tryd.prog 3 := by unfold Gam.One; kernel_rfl
theorem on5 : Gam.One Tryd.prog 5 := by unfold Gam.One; kernel_rfl
theorem on9 : Gam.One Tryd.prog 9 := by unfold Gam.One; kernel_rfl
theorem sc3 : Scalar Tryd.prog 3 := ⟨_, Tryd.underlying3, by simp, by simp⟩
theorem sc4 : Scalar Tryd.prog 4 := ⟨_, Tryd.underlying4, by simp, by simp⟩
theorem sc5 : Scalar Tryd.prog 5 := ⟨_, Tryd.underlying5, by simp, by simp⟩
theorem sc9 : Scalar Tryd.prog 9 := ⟨_, Tryd.underlying9, by simp, by simp⟩
theorem zv9 : Zv Tryd.prog 9 (.string ⟨#[]⟩) := zv_of rfl (by kernel_rfl)
end FxFNames3
open FxFNames3

theorem rd_n {f : List UInt8} (h : cutP (bareOf f) = none) : rd f = none := by unfold rd; rw [h]
theorem rd_f {f o s : List UInt8} (h : cutP (bareOf f) = some (o, s)) (hm : mayS o = false) : rd f = none := by unfold rd; rw [h]; simp only [hm]; rfl
theorem rd_t {f o s : List UInt8} (h : cutP (bareOf f) = some (o, s)) (hm : mayS o = true) : rd f = rdS o s (tempOf f) := by unfold rd; rw [h]; simp only [hm, if_true]
theorem rdS_o {o s : List UInt8} {t : Bool} (h : ¬ s = sideL) (h4 : s.length ≠ 4) (h6 : s.length ≠ 6) : rdS o s t = none := by
  unfold rdS
  rw [if_neg h]
  split
  · exact absurd rfl h4
  · exact absurd rfl h6
  · rfl
theorem rdS_4 {o : List UInt8} {c y k i : UInt8} {t : Bool} (h : ¬ [c, y, k, i] = sideL) : rdS o [c, y, k, i] t = rdD o c y k i t := by unfold rdS; rw [if_neg h]
theorem rdS_6 {o : List UInt8} {c y z k m i : UInt8} {t : Bool} : rdS o [c, y, z, k, m, i] t = rdP o c y z k m i t := by unfold rdS; rw [if_neg (fun e => by have := congrArg List.length e; simp [sideL] at this)]

set_option maxRecDepth 100000 in
set_option maxHeartbeats 1000000 in
theorem Read_none (B : Nat) (f : List UInt8) (w : World) (hI : Inv FDx B w) (hfl : f.length ≤ 1000) (hcut : cutP (bareOf f) = none) : Ret Tryd.prog 10 [.string (str f)] w fun v w' => v = .tuple #[.agg ((rd f).getD nmz).cells.toArray, .bool (rd f).isSome] ∧ St FDx B w w' := by
  refine enterCT 139 [(0, .string (str f))] 2 24 3 Tryd.func10 rfl rfl rfl rfl rfl ?_; intro a hF
  have hS := St.refl hI
  have hbl : (bareOf f).length ≤ 1000 := by have h := congrArg List.length (bare_is f); rw [List.length_append] at h; omega
  refine W_sr rfl (fun K hK => ?_)
  refine s_allocN (D := FDx) (B := B) (z := .agg nmz.cells.toArray) hF (by kernel_rfl) (by decide) hS.inv rfl ?_; clear hF a; intro gT w' a hm hI' hT hF
  replace hS := hS.mb0 hm
  clear hm hI'
  refine sv hF (v_assign rfl) rfl ?_; clear hF a; intro a hF
  refine WL_nil (hK _ _ ?_)
  clear hK K
  refine W_sr rfl (fun K hK => ?_)
  refine sv hF (v_move rfl) rfl ?_; clear hF a; intro a hF
  refine sc hF rfl rfl rfl en25 rfl (cutS_ok f _ (Nat.le_trans hfl (by decide))) ?_; clear hF a; intro v w' a hv hF
  obtain ⟨rfl, hw⟩ := hv
  obtain rfl := hw.symm
  have hS' := St.refl hS.inv
  replace hT := hT.st hS'
  replace hS := hS.trans hS'
  clear hS'
  refine sv hF (v_move rfl) rfl ?_; clear hF a; intro a hF
  refine sv hF (v_ext rfl rfl) rfl ?_; clear hF a; intro a hF
  refine sv hF (v_ext rfl rfl) rfl ?_; clear hF a; intro a hF
  refine sv hF (v_assign rfl) rfl ?_; clear hF a; intro a hF
  refine sv hF (v_assign rfl) rfl ?_; clear hF a; intro a hF
  refine WL_nil (hK _ _ ?_)
  clear hK K
  replace hF := hF.sub _ (c_ 5 rfl (c_ 4 rfl (c_ 3 rfl (c_ 2 rfl (n_)))))
  refine W_sr rfl (fun K hK => ?_)
  refine sv hF (v_move rfl) rfl ?_; clear hF a; intro a hF
  refine sc hF rfl rfl rfl en26 rfl (Cut_ok B (bareOf f) (bareOf f) [] false _ hS.inv hbl (by unfold cutV; rw [hcut])) ?_; clear hF a; intro v w' a hv hF
  obtain ⟨rfl, hS'⟩ := hv
  replace hT := hT.st hS'
  replace hS := hS.trans hS'
  clear hS'
  refine sv hF (v_move rfl) rfl ?_; clear hF a; intro a hF
  refine sv hF (v_ext rfl rfl) rfl ?_; clear hF a; intro a hF
  refine sv hF (v_ext rfl rfl) rfl ?_; clear hF a; intro a hF
  refine sv hF ((v_ext rfl rfl).as (congrArg Value.bool (rfl))) rfl ?_; clear hF a; intro a hF
  obtain ⟨gs, hgs⟩ : ∃ g, g = w'.heap.size := ⟨_, rfl⟩
  have ss := hS.ext.size
  have tT := heap_lt hT.blk
  rw [← hgs] at ss tT
  refine s_alloc (D := FDx) (B := B) hF zv9 (by decide) hS.inv rfl ?_; clear hF a; intro w' a hm hI' hs hsz hF
  replace hT := hT.mb hm (by simp)
  replace hS := hS.mb0 hm
  clear hm hI' hsz
  rw [← hgs] at hs hF
  clear hgs
  refine sv hF (v_assign rfl) rfl ?_; clear hF a; intro a hF
  refine s_stb (D := FDx) (B := B) hF on9 rfl rfl (rfl) hs hS.inv ?_; intro w' hm hI' hbx'
  replace hT := hT.mb hm (by simp; omega)
  replace hS := hS.mb hm (fun k h => by cases h; omega)
  replace hs := hbx'
  clear hm hI' hbx'
  refine sv hF (v_assign rfl) rfl ?_; clear hF a; intro a hF
  refine WL_nil (hK _ _ ?_)
  clear hK K
  replace hF := hF.sub _ (c_ 8 rfl (c_ 6 rfl (c_ 7 rfl (c_ 5 rfl (c_ 3 rfl (c_ 2 rfl (n_)))))))
  refine W_sr rfl (fun K hK => ?_)
  refine sv hF (v_move rfl) rfl ?_; clear hF a; intro a hF
  refine sv hF (v_move rfl) rfl ?_; clear hF a; intro a hF
  refine sv hF (v_build (cs := (Nm.cells ⟨bareOf f, 0, 0, [], 0, 0, 0, tempOf f⟩).toArray) rfl (by kernel_rfl)) rfl ?_; clear hF a; intro a hF
  have hs0 := hS.ext.size
  have tT2 := heap_lt hT.blk
  have ts2 := heap_lt hs.blk
  refine s_allocN (D := FDx) (B := B) (z := .agg nmz.cells.toArray) hF (by kernel_rfl) (by decide) hS.inv rfl ?_; clear hF a; intro gn w' a hm hI' hn hF
  replace hT := hT.mb hm (by simp)
  replace hs := hs.mb hm (by simp)
  replace hS := hS.mb0 hm
  clear hm hI'
  have hgn := hn.low
  replace hn := hn.le hs0
  clear hs0
  refine s_storeN (D := FDx) (B := B) hF (by kernel_rfl) rfl rfl (rfl) (by rfl) hn hS.inv ?_; intro w' hm hI' hrc'
  replace hT := hT.mb hm (by simp; omega)
  replace hs := hs.mb hm (by simp; omega)
  replace hS := hS.mb hm (fun k h => by cases h; exact hn.low)
  replace hn := hrc'
  clear hm hI' hrc'
  refine WL_nil (hK _ _ ?_)
  clear hK K
  replace hF := hF.sub _ (c_ 9 rfl (c_ 8 rfl (c_ 6 rfl (c_ 7 rfl (c_ 3 rfl (c_ 2 rfl (n_)))))))
  refine W_sr rfl (fun K hK => ?_)
  refine sv hF (v_mkf rfl) rfl ?_; clear hF a; intro a hF
  refine sv hF (v_assign rfl) rfl ?_; clear hF a; intro a hF
  refine WL_nil (hK _ _ ?_)
  clear hK K
  replace hF := hF.sub _ (c_ 10 rfl (c_ 9 rfl (c_ 8 rfl (c_ 6 rfl (c_ 7 rfl (c_ 3 rfl (c_ 2 rfl (n_))))))))
  refine W_seq ?_
  refine W_block ?_
  refine W_sr rfl (fun K hK => ?_)
  refine sv hF (v_move rfl) rfl ?_; clear hF a; intro a hF
  refine sv hF (v_not rfl) rfl ?_; clear hF a; intro a hF
  refine sv hF (v_move rfl) rfl ?_; clear hF a; intro a hF
  refine svn hF rfl rfl rfl ?_; clear hF a; intro a hF
  refine svn hF rfl rfl rfl ?_; clear hF a; intro a hF
  refine svn hF rfl rfl rfl ?_; clear hF a; intro a hF
  refine sv hF (v_pickT rfl rfl) rfl ?_; clear hF a; intro a hF
  refine sv hF (v_assign rfl) rfl ?_; clear hF a; intro a hF
  refine WL_nil (hK _ _ ?_)
  clear hK K
  replace hF := hF.sub _ (c_ 28 rfl (c_ 10 rfl (c_ 9 rfl (c_ 8 rfl (c_ 7 rfl (c_ 3 rfl (c_ 2 rfl (n_))))))))
  refine W_ifT hF rfl ?_
  have hrd := rd_n hcut
  refine W_sr rfl (fun K hK => ?_)
  refine sv hF (v_build (cs := nmz.cells.toArray) rfl (by kernel_rfl)) rfl ?_; clear hF a; intro a hF
  refine s_storeN (D := FDx) (B := B) hF (by kernel_rfl) rfl rfl (rfl) (by rfl) hT hS.inv ?_; intro w' hm hI' hrc'
  replace hs := hs.mb hm (by simp; omega)
  replace hn := hn.mb hm (by simp; omega)
  replace hS := hS.mb hm (fun k h => by cases h; exact hT.low)
  replace hT := hrc'
  clear hm hI' hrc'
  refine sv hF (v_assign rfl) rfl ?_; clear hF a; intro a hF
  refine WL_nil (hK _ _ ?_)
  clear hK K
  replace hF := hF.sub _ (c_ 3 rfl (c_ 9 rfl (c_ 8 rfl (c_ 2 rfl (n_)))))
  refine W_ret ?_
  refine ⟨_, _, _, _, hF, rfl, (ld_rec Tryd.underlying24 rfl (by kernel_rfl) hT), rfl, ?_⟩
  exact ⟨by rw [hrd]; rfl, hS⟩

set_option maxRecDepth 100000 in
set_option maxHeartbeats 1000000 in
theorem Read_oth (B : Nat) (f o s : List UInt8) (hs1 : ¬ s = sideL) (h4 : s.length ≠ 4) (h6 : s.length ≠ 6) (w : World) (hI : Inv FDx B w) (hfl : f.length ≤ 1000) (hcut : cutP (bareOf f) = some (o, s)) : Ret Tryd.prog 10 [.string (str f)] w fun v w' => v = .tuple #[.agg ((rd f).getD nmz).cells.toArray, .bool (rd f).isSome] ∧ St FDx B w w' := by
  refine enterCT 139 [(0, .string (str f))] 2 24 3 Tryd.func10 rfl rfl rfl rfl rfl ?_; intro a hF
  have hS := St.refl hI
  have hbl : (bareOf f).length ≤ 1000 := by have h := congrArg List.length (bare_is f); rw [List.length_append] at h; omega
  refine W_sr rfl (fun K hK => ?_)
  refine s_allocN (D := FDx) (B := B) (z := .agg nmz.cells.toArray) hF (by kernel_rfl) (by decide) hS.inv rfl ?_; clear hF a; intro gT w' a hm hI' hT hF
  replace hS := hS.mb0 hm
  clear hm hI'
  refine sv hF (v_assign rfl) rfl ?_; clear hF a; intro a hF
  refine WL_nil (hK _ _ ?_)
  clear hK K
  refine W_sr rfl (fun K hK => ?_)
  refine sv hF (v_move rfl) rfl ?_; clear hF a; intro a hF
  refine sc hF rfl rfl rfl en25 rfl (cutS_ok f _ (Nat.le_trans hfl (by decide))) ?_; clear hF a; intro v w' a hv hF
  obtain ⟨rfl, hw⟩ := hv
  obtain rfl := hw.symm
  have hS' := St.refl hS.inv
  replace hT := hT.st hS'
  replace hS := hS.trans hS'
  clear hS'
  refine sv hF (v_move rfl) rfl ?_; clear hF a; intro a hF
  refine sv hF (v_ext rfl rfl) rfl ?_; clear hF a; intro a hF
  refine sv hF (v_ext rfl rfl) rfl ?_; clear hF a; intro a hF
  refine sv hF (v_assign rfl) rfl ?_; clear hF a; intro a hF
  refine sv hF (v_assign rfl) rfl ?_; clear hF a; intro a hF
  refine WL_nil (hK _ _ ?_)
  clear hK K
  replace hF := hF.sub _ (c_ 5 rfl (c_ 4 rfl (c_ 3 rfl (c_ 2 rfl (n_)))))
  refine W_sr rfl (fun K hK => ?_)
  refine sv hF (v_move rfl) rfl ?_; clear hF a; intro a hF
  refine sc hF rfl rfl rfl en26 rfl (Cut_ok B (bareOf f) o s true _ hS.inv hbl (by unfold cutV; rw [hcut])) ?_; clear hF a; intro v w' a hv hF
  obtain ⟨rfl, hS'⟩ := hv
  replace hT := hT.st hS'
  replace hS := hS.trans hS'
  clear hS'
  refine sv hF (v_move rfl) rfl ?_; clear hF a; intro a hF
  refine sv hF (v_ext rfl rfl) rfl ?_; clear hF a; intro a hF
  refine sv hF (v_ext rfl rfl) rfl ?_; clear hF a; intro a hF
  refine sv hF ((v_ext rfl rfl).as (congrArg Value.bool (rfl))) rfl ?_; clear hF a; intro a hF
  obtain ⟨gs, hgs⟩ : ∃ g, g = w'.heap.size := ⟨_, rfl⟩
  have ss := hS.ext.size
  have tT := heap_lt hT.blk
  rw [← hgs] at ss tT
  refine s_alloc (D := FDx) (B := B) hF zv9 (by decide) hS.inv rfl ?_; clear hF a; intro w' a hm hI' hs hsz hF
  replace hT := hT.mb hm (by simp)
  replace hS := hS.mb0 hm
  clear hm hI' hsz
  rw [← hgs] at hs hF
  clear hgs
  refine sv hF (v_assign rfl) rfl ?_; clear hF a; intro a hF
  refine s_stb (D := FDx) (B := B) hF on9 rfl rfl (rfl) hs hS.inv ?_; intro w' hm hI' hbx'
  replace hT := hT.mb hm (by simp; omega)
  replace hS := hS.mb hm (fun k h => by cases h; omega)
  replace hs := hbx'
  clear hm hI' hbx'
  refine sv hF (v_assign rfl) rfl ?_; clear hF a; intro a hF
  refine WL_nil (hK _ _ ?_)
  clear hK K
  replace hF := hF.sub _ (c_ 8 rfl (c_ 6 rfl (c_ 7 rfl (c_ 5 rfl (c_ 3 rfl (c_ 2 rfl (n_)))))))
  refine W_sr rfl (fun K hK => ?_)
  refine sv hF (v_move rfl) rfl ?_; clear hF a; intro a hF
  refine sv hF (v_move rfl) rfl ?_; clear hF a; intro a hF
  refine sv hF (v_build (cs := (Nm.cells ⟨o, 0, 0, [], 0, 0, 0, tempOf f⟩).toArray) rfl (by kernel_rfl)) rfl ?_; clear hF a; intro a hF
  have hs0 := hS.ext.size
  have tT2 := heap_lt hT.blk
  have ts2 := heap_lt hs.blk
  refine s_allocN (D := FDx) (B := B) (z := .agg nmz.cells.toArray) hF (by kernel_rfl) (by decide) hS.inv rfl ?_; clear hF a; intro gn w' a hm hI' hn hF
  replace hT := hT.mb hm (by simp)
  replace hs := hs.mb hm (by simp)
  replace hS := hS.mb0 hm
  clear hm hI'
  have hgn := hn.low
  replace hn := hn.le hs0
  clear hs0
  refine s_storeN (D := FDx) (B := B) hF (by kernel_rfl) rfl rfl (rfl) (by rfl) hn hS.inv ?_; intro w' hm hI' hrc'
  replace hT := hT.mb hm (by simp; omega)
  replace hs := hs.mb hm (by simp; omega)
  replace hS := hS.mb hm (fun k h => by cases h; exact hn.low)
  replace hn := hrc'
  clear hm hI' hrc'
  refine WL_nil (hK _ _ ?_)
  clear hK K
  replace hF := hF.sub _ (c_ 9 rfl (c_ 8 rfl (c_ 6 rfl (c_ 7 rfl (c_ 3 rfl (c_ 2 rfl (n_)))))))
  refine W_sr rfl (fun K hK => ?_)
  refine sv hF (v_mkf rfl) rfl ?_; clear hF a; intro a hF
  refine sv hF (v_assign rfl) rfl ?_; clear hF a; intro a hF
  refine WL_nil (hK _ _ ?_)
  clear hK K
  replace hF := hF.sub _ (c_ 10 rfl (c_ 9 rfl (c_ 8 rfl (c_ 6 rfl (c_ 7 rfl (c_ 3 rfl (c_ 2 rfl (n_))))))))
  refine W_seq ?_
  refine W_block ?_
  refine W_sr rfl (fun K hK => ?_)
  refine sv hF (v_move rfl) rfl ?_; clear hF a; intro a hF
  refine sv hF (v_not rfl) rfl ?_; clear hF a; intro a hF
  refine sv hF (v_move rfl) rfl ?_; clear hF a; intro a hF
  refine svg hF rfl ?_
  refine sv hF (v_move rfl) rfl ?_; clear hF a; intro a hF
  refine svg hF rfl ?_
  refine sc hF rfl rfl rfl en23 rfl (May_ok B o _ hS.inv) ?_; clear hF a; intro v w' a hv hF
  obtain ⟨rfl, hS'⟩ := hv
  replace hT := hT.st hS'
  replace hs := hs.st hS'
  replace hn := hn.st hS'
  replace hS := hS.trans hS'
  clear hS'
  refine svg hF rfl ?_
  refine sv hF (v_not rfl) rfl ?_; clear hF a; intro a hF
  refine sv hF (v_pickF rfl rfl) rfl ?_; clear hF a; intro a hF
  refine sv hF (v_assign rfl) rfl ?_; clear hF a; intro a hF
  refine WL_nil (hK _ _ ?_)
  clear hK K
  replace hF := hF.sub _ (c_ 28 rfl (c_ 10 rfl (c_ 9 rfl (c_ 8 rfl (c_ 7 rfl (c_ 3 rfl (c_ 2 rfl (n_))))))))
  refine W_if hF rfl (fun hc1 => ?_) (fun hc1 => ?_)
  · skip
    try simp only [decide_eq_true_eq, decide_eq_false_iff_not, Bool.not_eq_true', Bool.not_eq_false', Bool.not_true, Bool.not_false] at hc1
    have hrd := rd_f hcut (by assumption)
    refine W_sr rfl (fun K hK => ?_)
    refine sv hF (v_build (cs := nmz.cells.toArray) rfl (by kernel_rfl)) rfl ?_; clear hF a; intro a hF
    refine s_storeN (D := FDx) (B := B) hF (by kernel_rfl) rfl rfl (rfl) (by rfl) hT hS.inv ?_; intro w' hm hI' hrc'
    replace hs := hs.mb hm (by simp; omega)
    replace hn := hn.mb hm (by simp; omega)
    replace hS := hS.mb hm (fun k h => by cases h; exact hT.low)
    replace hT := hrc'
    clear hm hI' hrc'
    refine sv hF (v_assign rfl) rfl ?_; clear hF a; intro a hF
    refine WL_nil (hK _ _ ?_)
    clear hK K
    replace hF := hF.sub _ (c_ 3 rfl (c_ 9 rfl (c_ 8 rfl (c_ 2 rfl (n_)))))
    refine W_ret ?_
    refine ⟨_, _, _, _, hF, rfl, (ld_rec Tryd.underlying24 rfl (by kernel_rfl) hT), rfl, ?_⟩
    exact ⟨by rw [hrd]; rfl, hS⟩
  · skip
    try simp only [decide_eq_true_eq, decide_eq_false_iff_not, Bool.not_eq_true', Bool.not_eq_false', Bool.not_true, Bool.not_false] at hc1
    have hrd0 := rd_t hcut (by assumption)
    refine W_sr rfl (fun K hK => ?_)
    refine sv hF (v_load sc9 rfl hs.at) rfl ?_; clear hF a; intro a hF
    refine sv hF ((v_eqlT (b := [115, 105, 100, 101]) rfl rfl).as (congrArg Value.bool (decide_eq_false (hs1)))) rfl ?_; clear hF a; intro a hF
    refine sv hF (v_assign rfl) rfl ?_; clear hF a; intro a hF
    refine WL_nil (hK _ _ ?_)
    clear hK K
    replace hF := hF.sub _ (c_ 37 rfl (c_ 10 rfl (c_ 9 rfl (c_ 8 rfl (c_ 7 rfl (c_ 3 rfl (c_ 2 rfl (n_))))))))
    refine W_ifF hF rfl ?_
    refine W_sr rfl (fun K hK => ?_)
    refine sv hF (v_load sc9 rfl hs.at) rfl ?_; clear hF a; intro a hF
    refine sv hF (v_lenT rfl Tryd.underlying9 rfl) rfl ?_; clear hF a; intro a hF
    refine sv hF ((v_eql rfl rfl).as (congrArg Value.bool (decide_eq_false (by omega)))) rfl ?_; clear hF a; intro a hF
    refine sv hF (v_move rfl) rfl ?_; clear hF a; intro a hF
    refine svn hF rfl rfl rfl ?_; clear hF a; intro a hF
    refine svn hF rfl rfl rfl ?_; clear hF a; intro a hF
    refine svn hF rfl rfl rfl ?_; clear hF a; intro a hF
    refine sv hF (v_pickF rfl rfl) rfl ?_; clear hF a; intro a hF
    refine sv hF (v_move rfl) rfl ?_; clear hF a; intro a hF
    refine svn hF rfl rfl rfl ?_; clear hF a; intro a hF
    refine svn hF rfl rfl rfl ?_; clear hF a; intro a hF
    refine svn hF rfl rfl rfl ?_; clear hF a; intro a hF
    refine sv hF (v_pickF rfl rfl) rfl ?_; clear hF a; intro a hF
    refine sv hF (v_assign rfl) rfl ?_; clear hF a; intro a hF
    refine WL_nil (hK _ _ ?_)
    clear hK K
    replace hF := hF.sub _ (c_ 41 rfl (c_ 10 rfl (c_ 9 rfl (c_ 8 rfl (c_ 7 rfl (c_ 3 rfl (c_ 2 rfl (n_))))))))
    refine W_ifF hF rfl ?_
    refine W_sr rfl (fun K hK => ?_)
    refine sv hF (v_load sc9 rfl hs.at) rfl ?_; clear hF a; intro a hF
    refine sv hF (v_lenT rfl Tryd.underlying9 rfl) rfl ?_; clear hF a; intro a hF
    refine sv hF ((v_eql rfl rfl).as (congrArg Value.bool (decide_eq_false (by omega)))) rfl ?_; clear hF a; intro a hF
    refine sv hF (v_move rfl) rfl ?_; clear hF a; intro a hF
    refine svn hF rfl rfl rfl ?_; clear hF a; intro a hF
    refine svn hF rfl rfl rfl ?_; clear hF a; intro a hF
    refine svn hF rfl rfl rfl ?_; clear hF a; intro a hF
    refine sv hF (v_pickF rfl rfl) rfl ?_; clear hF a; intro a hF
    refine sv hF (v_assign rfl) rfl ?_; clear hF a; intro a hF
    refine WL_nil (hK _ _ ?_)
    clear hK K
    replace hF := hF.sub _ (c_ 85 rfl (c_ 10 rfl (c_ 9 rfl (c_ 8 rfl (c_ 7 rfl (c_ 3 rfl (c_ 2 rfl (n_))))))))
    refine W_ifF hF rfl ?_
    have hrd := hrd0.trans (rdS_o hs1 h4 h6)
    refine W_reg rfl (fun K hK => ?_)
    refine sv hF (v_assign rfl) rfl ?_; clear hF a; intro a hF
    refine WL_nil (hK _ _ ?_)
    clear hK K
    replace hF := hF.sub _ (c_ 8 rfl (c_ 9 rfl (c_ 3 rfl (c_ 2 rfl (n_)))))
    refine W_seq ?_
    refine W_sr rfl (fun K hK => ?_)
    refine sv hF (v_move rfl) rfl ?_; clear hF a; intro a hF
    refine sv hF (v_not rfl) rfl ?_; clear hF a; intro a hF
    refine WL_nil (hK _ _ ?_)
    clear hK K
    refine W_ifT hF rfl ?_
    refine W_sr rfl (fun K hK => ?_)
    refine sv hF (v_build (cs := nmz.cells.toArray) rfl (by kernel_rfl)) rfl ?_; clear hF a; intro a hF
    refine s_storeN (D := FDx) (B := B) hF (by kernel_rfl) rfl rfl (rfl) (by rfl) hT hS.inv ?_; intro w' hm hI' hrc'
    replace hs := hs.mb hm (by simp; omega)
    replace hn := hn.mb hm (by simp; omega)
    replace hS := hS.mb hm (fun k h => by cases h; exact hT.low)
    replace hT := hrc'
    clear hm hI' hrc'
    refine sv hF (v_assign rfl) rfl ?_; clear hF a; intro a hF
    refine WL_nil (hK _ _ ?_)
    clear hK K
    refine W_ret ?_
    refine ⟨_, _, _, _, hF, rfl, (ld_rec Tryd.underlying24 rfl (by kernel_rfl) hT), rfl, ?_⟩
    exact ⟨by rw [hrd]; rfl, hS⟩

set_option maxRecDepth 100000 in
set_option maxHeartbeats 1000000 in
theorem Read_data (B : Nat) (f o : List UInt8) (c y kb ib : UInt8) (w : World) (hI : Inv FDx B w) (hfl : f.length ≤ 1000) (hcut : cutP (bareOf f) = some (o, [c, y, kb, ib])) : Ret Tryd.prog 10 [.string (str f)] w fun v w' => v = .tuple #[.agg ((rd f).getD nmz).cells.toArray, .bool (rd f).isSome] ∧ St FDx B w w' := by
  refine enterCT 139 [(0, .string (str f))] 2 24 3 Tryd.func10 rfl rfl rfl rfl rfl ?_; intro a hF
  have hS := St.refl hI
  have hbl : (bareOf f).length ≤ 1000 := by have h := congrArg List.length (bare_is f); rw [List.length_append] at h; omega
  refine W_sr rfl (fun K hK => ?_)
  refine s_allocN (D := FDx) (B := B) (z := .agg nmz.cells.toArray) hF (by kernel_rfl) (by decide) hS.inv rfl ?_; clear hF a; intro gT w' a hm hI' hT hF
  replace hS := hS.mb0 hm
  clear hm hI'
  refine sv hF (v_assign rfl) rfl ?_; clear hF a; intro a hF
  refine WL_nil (hK _ _ ?_)
  clear hK K
  refine W_sr rfl (fun K hK => ?_)
  refine sv hF (v_move rfl) rfl ?_; clear hF a; intro a hF
  refine sc hF rfl rfl rfl en25 rfl (cutS_ok f _ (Nat.le_trans hfl (by decide))) ?_; clear hF a; intro v w' a hv hF
  obtain ⟨rfl, hw⟩ := hv
  obtain rfl := hw.symm
  have hS' := St.refl hS.inv
  replace hT := hT.st hS'
  replace hS := hS.trans hS'
  clear hS'
  refine sv hF (v_move rfl) rfl ?_; clear hF a; intro a hF
  refine sv hF (v_ext rfl rfl) rfl ?_; clear hF a; intro a hF
  refine sv hF (v_ext rfl rfl) rfl ?_; clear hF a; intro a hF
  refine sv hF (v_assign rfl) rfl ?_; clear hF a; intro a hF
  refine sv hF (v_assign rfl) rfl ?_; clear hF a; intro a hF
  refine WL_nil (hK _ _ ?_)
  clear hK K
  replace hF := hF.sub _ (c_ 5 rfl (c_ 4 rfl (c_ 3 rfl (c_ 2 rfl (n_)))))
  refine W_sr rfl (fun K hK => ?_)
  refine sv hF (v_move rfl) rfl ?_; clear hF a; intro a hF
  refine sc hF rfl rfl rfl en26 rfl (Cut_ok B (bareOf f) o [c, y, kb, ib] true _ hS.inv hbl (by unfold cutV; rw [hcut])) ?_; clear hF a; intro v w' a hv hF
  obtain ⟨rfl, hS'⟩ := hv
  replace hT := hT.st hS'
  replace hS := hS.trans hS'
  clear hS'
  refine sv hF (v_move rfl) rfl ?_; clear hF a; intro a hF
  refine sv hF (v_ext rfl rfl) rfl ?_; clear hF a; intro a hF
  refine sv hF (v_ext rfl rfl) rfl ?_; clear hF a; intro a hF
  refine sv hF ((v_ext rfl rfl).as (congrArg Value.bool (rfl))) rfl ?_; clear hF a; intro a hF
  obtain ⟨gs, hgs⟩ : ∃ g, g = w'.heap.size := ⟨_, rfl⟩
  have ss := hS.ext.size
  have tT := heap_lt hT.blk
  rw [← hgs] at ss tT
  refine s_alloc (D := FDx) (B := B) hF zv9 (by decide) hS.inv rfl ?_; clear hF a; intro w' a hm hI' hs hsz hF
  replace hT := hT.mb hm (by simp)
  replace hS := hS.mb0 hm
  clear hm hI' hsz
  rw [← hgs] at hs hF
  clear hgs
  refine sv hF (v_assign rfl) rfl ?_; clear hF a; intro a hF
  refine s_stb (D := FDx) (B := B) hF on9 rfl rfl (rfl) hs hS.inv ?_; intro w' hm hI' hbx'
  replace hT := hT.mb hm (by simp; omega)
  replace hS := hS.mb hm (fun k h => by cases h; omega)
  replace hs := hbx'
  clear hm hI' hbx'
  refine sv hF (v_assign rfl) rfl ?_; clear hF a; intro a hF
  refine WL_nil (hK _ _ ?_)
  clear hK K
  replace hF := hF.sub _ (c_ 8 rfl (c_ 6 rfl (c_ 7 rfl (c_ 5 rfl (c_ 3 rfl (c_ 2 rfl (n_)))))))
  refine W_sr rfl (fun K hK => ?_)
  refine sv hF (v_move rfl) rfl ?_; clear hF a; intro a hF
  refine sv hF (v_move rfl) rfl ?_; clear hF a; intro a hF
  refine sv hF (v_build (cs := (Nm.cells ⟨o, 0, 0, [], 0, 0, 0, tempOf f⟩).toArray) rfl (by kernel_rfl)) rfl ?_; clear hF a; intro a hF
  have hs0 := hS.ext.size
  have tT2 := heap_lt hT.blk
  have ts2 := heap_lt hs.blk
  refine s_allocN (D := FDx) (B := B) (z := .agg nmz.cells.toArray) hF (by kernel_rfl) (by decide) hS.inv rfl ?_; clear hF a; intro gn w' a hm hI' hn hF
  replace hT := hT.mb hm (by simp)
  replace hs := hs.mb hm (by simp)
  replace hS := hS.mb0 hm
  clear hm hI'
  have hgn := hn.low
  replace hn := hn.le hs0
  clear hs0
  refine s_storeN (D := FDx) (B := B) hF (by kernel_rfl) rfl rfl (rfl) (by rfl) hn hS.inv ?_; intro w' hm hI' hrc'
  replace hT := hT.mb hm (by simp; omega)
  replace hs := hs.mb hm (by simp; omega)
  replace hS := hS.mb hm (fun k h => by cases h; exact hn.low)
  replace hn := hrc'
  clear hm hI' hrc'
  refine WL_nil (hK _ _ ?_)
  clear hK K
  replace hF := hF.sub _ (c_ 9 rfl (c_ 8 rfl (c_ 6 rfl (c_ 7 rfl (c_ 3 rfl (c_ 2 rfl (n_)))))))
  refine W_sr rfl (fun K hK => ?_)
  refine sv hF (v_mkf rfl) rfl ?_; clear hF a; intro a hF
  refine sv hF (v_assign rfl) rfl ?_; clear hF a; intro a hF
  refine WL_nil (hK _ _ ?_)
  clear hK K
  replace hF := hF.sub _ (c_ 10 rfl (c_ 9 rfl (c_ 8 rfl (c_ 6 rfl (c_ 7 rfl (c_ 3 rfl (c_ 2 rfl (n_))))))))
  refine W_seq ?_
  refine W_block ?_
  refine W_sr rfl (fun K hK => ?_)
  refine sv hF (v_move rfl) rfl ?_; clear hF a; intro a hF
  refine sv hF (v_not rfl) rfl ?_; clear hF a; intro a hF
  refine sv hF (v_move rfl) rfl ?_; clear hF a; intro a hF
  refine svg hF rfl ?_
  refine sv hF (v_move rfl) rfl ?_; clear hF a; intro a hF
  refine svg hF rfl ?_
  refine sc hF rfl rfl rfl en23 rfl (May_ok B o _ hS.inv) ?_; clear hF a; intro v w' a hv hF
  obtain ⟨rfl, hS'⟩ := hv
  replace hT := hT.st hS'
  replace hs := hs.st hS'
  replace hn := hn.st hS'
  replace hS := hS.trans hS'
  clear hS'
  refine svg hF rfl ?_
  refine sv hF (v_not rfl) rfl ?_; clear hF a; intro a hF
  refine sv hF (v_pickF rfl rfl) rfl ?_; clear hF a; intro a hF
  refine sv hF (v_assign rfl) rfl ?_; clear hF a; intro a hF
  refine WL_nil (hK _ _ ?_)
  clear hK K
  replace hF := hF.sub _ (c_ 28 rfl (c_ 10 rfl (c_ 9 rfl (c_ 8 rfl (c_ 7 rfl (c_ 3 rfl (c_ 2 rfl (n_))))))))
  refine W_if hF rfl (fun hc1 => ?_) (fun hc1 => ?_)
  · skip
    try simp only [decide_eq_true_eq, decide_eq_false_iff_not, Bool.not_eq_true', Bool.not_eq_false', Bool.not_true, Bool.not_false] at hc1
    have hrd := rd_f hcut (by assumption)
    refine W_sr rfl (fun K hK => ?_)
    refine sv hF (v_build (cs := nmz.cells.toArray) rfl (by kernel_rfl)) rfl ?_; clear hF a; intro a hF
    refine s_storeN (D := FDx) (B := B) hF (by kernel_rfl) rfl rfl (rfl) (by rfl) hT hS.inv ?_; intro w' hm hI' hrc'
    replace hs := hs.mb hm (by simp; omega)
    replace hn := hn.mb hm (by simp; omega)
    replace hS := hS.mb hm (fun k h => by cases h; exact hT.low)
    replace hT := hrc'
    clear hm hI' hrc'
    refine sv hF (v_assign rfl) rfl ?_; clear hF a; intro a hF
    refine WL_nil (hK _ _ ?_)
    clear hK K
    replace hF := hF.sub _ (c_ 3 rfl (c_ 9 rfl (c_ 8 rfl (c_ 2 rfl (n_)))))
    refine W_ret ?_
    refine ⟨_, _, _, _, hF, rfl, (ld_rec Tryd.underlying24 rfl (by kernel_rfl) hT), rfl, ?_⟩
    exact ⟨by first | (rw [hrdS]; rfl) | (rw [hrd]; rfl), hS⟩
  · skip
    try simp only [decide_eq_true_eq, decide_eq_false_iff_not, Bool.not_eq_true', Bool.not_eq_false', Bool.not_true, Bool.not_false] at hc1
    have hrd0 := rd_t hcut (by assumption)
    refine W_sr rfl (fun K hK => ?_)
    refine sv hF (v_load sc9 rfl hs.at) rfl ?_; clear hF a; intro a hF
    refine sv hF (v_eqlT (b := [115, 105, 100, 101]) rfl rfl) rfl ?_; clear hF a; intro a hF
    refine sv hF (v_assign rfl) rfl ?_; clear hF a; intro a hF
    refine WL_nil (hK _ _ ?_)
    clear hK K
    replace hF := hF.sub _ (c_ 37 rfl (c_ 10 rfl (c_ 9 rfl (c_ 8 rfl (c_ 7 rfl (c_ 3 rfl (c_ 2 rfl (n_))))))))
    refine W_if hF rfl (fun hc2 => ?_) (fun hc2 => ?_)
    · skip
      try simp only [decide_eq_true_eq, decide_eq_false_iff_not, Bool.not_eq_true', Bool.not_eq_false', Bool.not_true, Bool.not_false] at hc2
      have hrdS : rd f = some ⟨o, 3, 0, [], 0, 0, 0, tempOf f⟩ := by rw [hrd0, show [c, y, kb, ib] = sideL by assumption]; exact rdS_side _ _
      refine W_reg rfl (fun K hK => ?_)
      refine sv hF (v_fieldAddr fa24_1 rfl) rfl ?_; clear hF a; intro a hF
      refine s_storeF (D := FDx) (B := B) hF on3 rfl rfl (rfl) (i := 1) (by simp [Nm.cells]) hn hS.inv ?_; intro w' hm hI' hrc'
      replace hT := hT.mb hm (by simp; omega)
      replace hs := hs.mb hm (by simp; omega)
      replace hS := hS.mb hm (fun k h => by cases h; exact hn.low)
      replace hn := hrc'
      clear hm hI' hrc'
      refine WL_nil (hK _ _ ?_)
      clear hK K
      replace hF := hF.sub _ (c_ 9 rfl (c_ 8 rfl (c_ 3 rfl (c_ 2 rfl (n_)))))
      refine W_seq ?_
      refine W_sr rfl (fun K hK => ?_)
      refine sv hF (v_move rfl) rfl ?_; clear hF a; intro a hF
      refine sv hF (v_not rfl) rfl ?_; clear hF a; intro a hF
      refine WL_nil (hK _ _ ?_)
      clear hK K
      refine W_ifF hF rfl ?_
      refine W_skip ?_
      try (have hrd : rd f = some ⟨o, 1, y, [], dg kb, 0, dg ib, tempOf f⟩ := hrd0.trans ((rdS_4 hs1).trans (by unfold rdD; rw [if_pos ⟨⟨by simp_all, by assumption⟩, ⟨by omega, by omega⟩, by omega, by omega⟩])))
      refine W_sr rfl (fun K hK => ?_)
      refine sv hF (v_loadN Tryd.underlying24 rfl (by kernel_rfl) rfl hn.blk) rfl ?_; clear hF a; intro a hF
      refine s_storeN (D := FDx) (B := B) hF (by kernel_rfl) rfl rfl (rfl) (by rfl) hT hS.inv ?_; intro w' hm hI' hrc'
      replace hs := hs.mb hm (by simp; omega)
      replace hn := hn.mb hm (by simp; omega)
      replace hS := hS.mb hm (fun k h => by cases h; exact hT.low)
      replace hT := hrc'
      clear hm hI' hrc'
      refine sv hF (v_assign rfl) rfl ?_; clear hF a; intro a hF
      refine WL_nil (hK _ _ ?_)
      clear hK K
      refine W_ret ?_
      refine ⟨_, _, _, _, hF, rfl, (ld_rec Tryd.underlying24 rfl (by kernel_rfl) hT), rfl, ?_⟩
      exact ⟨by first | (rw [hrdS]; rfl) | (rw [hrd]; rfl), hS⟩
    · skip
      try simp only [decide_eq_true_eq, decide_eq_false_iff_not, Bool.not_eq_true', Bool.not_eq_false', Bool.not_true, Bool.not_false] at hc2
      have hs1 : ¬ [c, y, kb, ib] = sideL := by assumption
      refine W_sr rfl (fun K hK => ?_)
      refine sv hF (v_load sc9 rfl hs.at) rfl ?_; clear hF a; intro a hF
      refine sv hF (v_lenT rfl Tryd.underlying9 rfl) rfl ?_; clear hF a; intro a hF
      refine sv hF ((v_eql rfl rfl).as (congrArg Value.bool (rfl))) rfl ?_; clear hF a; intro a hF
      refine sv hF (v_move rfl) rfl ?_; clear hF a; intro a hF
      refine svg hF rfl ?_
      refine sv hF (v_load sc9 rfl hs.at) rfl ?_; clear hF a; intro a hF
      refine svg hF rfl ?_
      refine sv hF (v_slHiT (h := 1) Tryd.underlying9 rfl rfl (by simp)) rfl ?_; clear hF a; intro a hF
      refine svg hF rfl ?_
      refine sb hF (v_eqlT (b := [100]) rfl rfl) rfl ?_ ?_
      · clear hF a; intro hc3 a hF
        try simp only [decide_eq_true_eq, decide_eq_false_iff_not, Bool.not_eq_true', Bool.not_eq_false', Bool.not_true, Bool.not_false] at hc3
        refine sv hF (v_pickT rfl rfl) rfl ?_; clear hF a; intro a hF
        refine sv hF (v_move rfl) rfl ?_; clear hF a; intro a hF
        refine svg hF rfl ?_
        refine sv hF (v_load sc9 rfl hs.at) rfl ?_; clear hF a; intro a hF
        refine svg hF rfl ?_
        refine sv hF (v_ixT (b := y) Tryd.underlying9 rfl rfl (by decide) rfl) rfl ?_; clear hF a; intro a hF
        refine svg hF rfl ?_
        refine sc hF rfl rfl rfl en28 rfl (laid_ok B y _ hS.inv) ?_; clear hF a; intro v w' a hv hF
        obtain ⟨rfl, hS'⟩ := hv
        replace hT := hT.st hS'
        replace hs := hs.st hS'
        replace hn := hn.st hS'
        replace hS := hS.trans hS'
        clear hS'
        refine sv hF (v_pickT rfl rfl) rfl ?_; clear hF a; intro a hF
        refine sv hF (v_assign rfl) rfl ?_; clear hF a; intro a hF
        refine WL_nil (hK _ _ ?_)
        clear hK K
        replace hF := hF.sub _ (c_ 41 rfl (c_ 10 rfl (c_ 9 rfl (c_ 8 rfl (c_ 7 rfl (c_ 3 rfl (c_ 2 rfl (n_))))))))
        refine W_if hF rfl (fun hc4 => ?_) (fun hc4 => ?_)
        · skip
          try simp only [decide_eq_true_eq, decide_eq_false_iff_not, Bool.not_eq_true', Bool.not_eq_false', Bool.not_true, Bool.not_false] at hc4
          refine W_seq ?_
          refine W_dS (fun (w2 : World) => w2.cell? ⟨gs, 0, none⟩ = some (.string (str [c, y, kb, ib]))) (m := 14) rfl hmix (fun K hK => ?_)
          have hS' := St.drew hS.inv
          replace hT := hT.st hS'
          replace hs := hs.st hS'
          replace hn := hn.st hS'
          replace hS := hS.trans hS'
          clear hS'
          have hSS : (fun (w2 : World) => w2.cell? ⟨gs, 0, none⟩ = some (.string (str [c, y, kb, ib]))) _ := hs.at
          refine b_v (i := 0) rfl (by kernel_rfl) hF (fun w2 hx => v_load sc9 rfl hx) rfl hSS ?_; clear hF a; intro a hF
          refine b_v (i := 1) rfl (by kernel_rfl) hF (fun w2 hx => v_ixT (b := y) Tryd.underlying9 rfl rfl (by decide) rfl) rfl hSS ?_; clear hF a; intro a hF
          refine b_v (i := 2) rfl (by kernel_rfl) hF (fun w2 hx => v_move rfl) rfl hSS ?_; clear hF a; intro a hF
          refine b_v (i := 4) rfl (by kernel_rfl) hF (fun w2 hx => v_move rfl) rfl hSS ?_; clear hF a; intro a hF
          refine b_v (i := 6) rfl (by kernel_rfl) hF (fun w2 hx => v_fieldAddr fa24_1 rfl) rfl hSS ?_; clear hF a; intro a hF
          refine b_e (i := 3) (by kernel_rfl) rfl ?_
          refine sc hF rfl rfl rfl en27 rfl (Read1_ok gs 2 [c, y, kb, ib] kb _ hs.at rfl) ?_; clear hF a; intro v w' a hv hF
          obtain ⟨rfl, hw⟩ := hv
          obtain rfl := hw.symm
          have hS' := St.refl hS.inv
          replace hT := hT.st hS'
          replace hs := hs.st hS'
          replace hn := hn.st hS'
          replace hS := hS.trans hS'
          clear hS'
          clear hSS
          have hSS : (fun (w2 : World) => w2.cell? ⟨gs, 0, none⟩ = some (.string (str [c, y, kb, ib]))) _ := hs.at
          refine WL_nil ⟨hSS, ?_⟩
          refine b_e (i := 5) (by kernel_rfl) rfl ?_
          refine sc hF rfl rfl rfl en27 rfl (Read1_ok gs 3 [c, y, kb, ib] ib _ hs.at rfl) ?_; clear hF a; intro v w' a hv hF
          obtain ⟨rfl, hw⟩ := hv
          obtain rfl := hw.symm
          have hS' := St.refl hS.inv
          replace hT := hT.st hS'
          replace hs := hs.st hS'
          replace hn := hn.st hS'
          replace hS := hS.trans hS'
          clear hS'
          clear hSS
          have hSS : (fun (w2 : World) => w2.cell? ⟨gs, 0, none⟩ = some (.string (str [c, y, kb, ib]))) _ := hs.at
          refine WL_nil ⟨hSS, ?_⟩
          refine b_e (i := 7) (by kernel_rfl) rfl ?_
          refine s_storeF (D := FDx) (B := B) hF on3 rfl rfl (rfl) (i := 1) (by simp [Nm.cells]) hn hS.inv ?_; intro w' hm hI' hrc'
          replace hT := hT.mb hm (by simp; omega)
          replace hs := hs.mb hm (by simp; omega)
          replace hS := hS.mb hm (fun k h => by cases h; exact hn.low)
          replace hn := hrc'
          clear hm hI' hrc'
          clear hSS
          have hSS : (fun (w2 : World) => w2.cell? ⟨gs, 0, none⟩ = some (.string (str [c, y, kb, ib]))) _ := hs.at
          refine WL_nil ⟨hSS, ?_⟩
          refine b_v (i := 8) rfl (by kernel_rfl) hF (fun w2 hx => v_fieldAddr fa24_2 rfl) rfl hSS ?_; clear hF a; intro a hF
          refine b_e (i := 9) (by kernel_rfl) rfl ?_
          refine s_storeF (D := FDx) (B := B) hF on5 rfl rfl (rfl) (i := 2) (by simp [Nm.cells]) hn hS.inv ?_; intro w' hm hI' hrc'
          replace hT := hT.mb hm (by simp; omega)
          replace hs := hs.mb hm (by simp; omega)
          replace hS := hS.mb hm (fun k h => by cases h; exact hn.low)
          replace hn := hrc'
          clear hm hI' hrc'
          clear hSS
          have hSS : (fun (w2 : World) => w2.cell? ⟨gs, 0, none⟩ = some (.string (str [c, y, kb, ib]))) _ := hs.at
          refine WL_nil ⟨hSS, ?_⟩
          refine b_v (i := 10) rfl (by kernel_rfl) hF (fun w2 hx => v_fieldAddr fa24_4 rfl) rfl hSS ?_; clear hF a; intro a hF
          refine b_e (i := 11) (by kernel_rfl) rfl ?_
          refine s_storeF (D := FDx) (B := B) hF on3 rfl rfl (rfl) (i := 4) (by simp [Nm.cells]) hn hS.inv ?_; intro w' hm hI' hrc'
          replace hT := hT.mb hm (by simp; omega)
          replace hs := hs.mb hm (by simp; omega)
          replace hS := hS.mb hm (fun k h => by cases h; exact hn.low)
          replace hn := hrc'
          clear hm hI' hrc'
          clear hSS
          have hSS : (fun (w2 : World) => w2.cell? ⟨gs, 0, none⟩ = some (.string (str [c, y, kb, ib]))) _ := hs.at
          refine WL_nil ⟨hSS, ?_⟩
          refine b_v (i := 12) rfl (by kernel_rfl) hF (fun w2 hx => v_fieldAddr fa24_6 rfl) rfl hSS ?_; clear hF a; intro a hF
          refine b_e (i := 13) (by kernel_rfl) rfl ?_
          refine s_storeF (D := FDx) (B := B) hF on3 rfl rfl (rfl) (i := 6) (by simp [Nm.cells]) hn hS.inv ?_; intro w' hm hI' hrc'
          replace hT := hT.mb hm (by simp; omega)
          replace hs := hs.mb hm (by simp; omega)
          replace hS := hS.mb hm (fun k h => by cases h; exact hn.low)
          replace hn := hrc'
          clear hm hI' hrc'
          clear hSS
          have hSS : (fun (w2 : World) => w2.cell? ⟨gs, 0, none⟩ = some (.string (str [c, y, kb, ib]))) _ := hs.at
          refine WL_nil ⟨hSS, ?_⟩
          refine b_done (by kernel_rfl) (hK _ _ ?_)
          clear hK K
          replace hF := hF.sub _ (c_ 9 rfl (c_ 8 rfl (c_ 3 rfl (c_ 2 rfl (n_)))))
          refine W_reg rfl (fun K hK => ?_)
          refine sv hF (v_fieldAddr fa24_4 rfl) rfl ?_; clear hF a; intro a hF
          refine sv hF (v_load sc3 rfl (hn.blk.at 4 rfl)) rfl ?_; clear hF a; intro a hF
          refine sb hF (v_geq rfl rfl) rfl ?_ ?_
          · clear hF a; intro hc5 a hF
            try simp only [decide_eq_true_eq, decide_eq_false_iff_not, Bool.not_eq_true', Bool.not_eq_false', Bool.not_true, Bool.not_false] at hc5
            refine sv hF (v_move rfl) rfl ?_; clear hF a; intro a hF
            refine svg hF rfl ?_
            refine sv hF (v_fieldAddr fa24_4 rfl) rfl ?_; clear hF a; intro a hF
            refine svg hF rfl ?_
            refine sv hF (v_load sc3 rfl (hn.blk.at 4 rfl)) rfl ?_; clear hF a; intro a hF
            refine svg hF rfl ?_
            refine sb hF (v_leq rfl rfl) rfl ?_ ?_
            · clear hF a; intro hc6 a hF
              try simp only [decide_eq_true_eq, decide_eq_false_iff_not, Bool.not_eq_true', Bool.not_eq_false', Bool.not_true, Bool.not_false] at hc6
              refine sv hF (v_pickT rfl rfl) rfl ?_; clear hF a; intro a hF
              refine sv hF (v_move rfl) rfl ?_; clear hF a; intro a hF
              refine svg hF rfl ?_
              refine sv hF (v_fieldAddr fa24_6 rfl) rfl ?_; clear hF a; intro a hF
              refine svg hF rfl ?_
              refine sv hF (v_load sc3 rfl (hn.blk.at 6 rfl)) rfl ?_; clear hF a; intro a hF
              refine svg hF rfl ?_
              refine sb hF (v_geq rfl rfl) rfl ?_ ?_
              · clear hF a; intro hc7 a hF
                try simp only [decide_eq_true_eq, decide_eq_false_iff_not, Bool.not_eq_true', Bool.not_eq_false', Bool.not_true, Bool.not_false] at hc7
                refine sv hF (v_pickT rfl rfl) rfl ?_; clear hF a; intro a hF
                refine sv hF (v_move rfl) rfl ?_; clear hF a; intro a hF
                refine svg hF rfl ?_
                refine sv hF (v_fieldAddr fa24_6 rfl) rfl ?_; clear hF a; intro a hF
                refine svg hF rfl ?_
                refine sv hF (v_load sc3 rfl (hn.blk.at 6 rfl)) rfl ?_; clear hF a; intro a hF
                refine svg hF rfl ?_
                refine sv hF (v_fieldAddr fa24_4 rfl) rfl ?_; clear hF a; intro a hF
                refine svg hF rfl ?_
                refine sv hF (v_load sc3 rfl (hn.blk.at 4 rfl)) rfl ?_; clear hF a; intro a hF
                refine svg hF rfl ?_
                refine sv hF (v_lss rfl rfl) rfl ?_; clear hF a; intro a hF
                refine sv hF (v_pickT rfl rfl) rfl ?_; clear hF a; intro a hF
                refine sv hF (v_assign rfl) rfl ?_; clear hF a; intro a hF
                refine WL_nil (hK _ _ ?_)
                clear hK K
                replace hF := hF.sub _ (c_ 8 rfl (c_ 9 rfl (c_ 3 rfl (c_ 2 rfl (n_)))))
                refine W_seq ?_
                refine W_sr rfl (fun K hK => ?_)
                refine sv hF (v_move rfl) rfl ?_; clear hF a; intro a hF
                refine sv hF (v_not rfl) rfl ?_; clear hF a; intro a hF
                refine WL_nil (hK _ _ ?_)
                clear hK K
                refine W_if hF rfl (fun hc8 => ?_) (fun hc8 => ?_)
                · skip
                  try simp only [decide_eq_true_eq, decide_eq_false_iff_not, Bool.not_eq_true', Bool.not_eq_false', Bool.not_true, Bool.not_false] at hc8
                  have hrd : rd f = none := hrd0.trans ((rdS_4 hs1).trans (by unfold rdD; rw [if_neg (by rintro ⟨⟨h1, h2⟩, h3, h4, h5⟩; first | omega | (subst h1; simp_all))]))
                  refine W_sr rfl (fun K hK => ?_)
                  refine sv hF (v_build (cs := nmz.cells.toArray) rfl (by kernel_rfl)) rfl ?_; clear hF a; intro a hF
                  refine s_storeN (D := FDx) (B := B) hF (by kernel_rfl) rfl rfl (rfl) (by rfl) hT hS.inv ?_; intro w' hm hI' hrc'
                  replace hs := hs.mb hm (by simp; omega)
                  replace hn := hn.mb hm (by simp; omega)
                  replace hS := hS.mb hm (fun k h => by cases h; exact hT.low)
                  replace hT := hrc'
                  clear hm hI' hrc'
                  refine sv hF (v_assign rfl) rfl ?_; clear hF a; intro a hF
                  refine WL_nil (hK _ _ ?_)
                  clear hK K
                  refine W_ret ?_
                  refine ⟨_, _, _, _, hF, rfl, (ld_rec Tryd.underlying24 rfl (by kernel_rfl) hT), rfl, ?_⟩
                  exact ⟨by first | (rw [hrdS]; rfl) | (rw [hrd]; rfl), hS⟩
                · skip
                  try simp only [decide_eq_true_eq, decide_eq_false_iff_not, Bool.not_eq_true', Bool.not_eq_false', Bool.not_true, Bool.not_false] at hc8
                  refine W_skip ?_
                  try (have hrd : rd f = some ⟨o, 1, y, [], dg kb, 0, dg ib, tempOf f⟩ := hrd0.trans ((rdS_4 hs1).trans (by unfold rdD; rw [if_pos ⟨⟨by simp_all, by assumption⟩, ⟨by omega, by omega⟩, by omega, by omega⟩])))
                  refine W_sr rfl (fun K hK => ?_)
                  refine sv hF (v_loadN Tryd.underlying24 rfl (by kernel_rfl) rfl hn.blk) rfl ?_; clear hF a; intro a hF
                  refine s_storeN (D := FDx) (B := B) hF (by kernel_rfl) rfl rfl (rfl) (by rfl) hT hS.inv ?_; intro w' hm hI' hrc'
                  replace hs := hs.mb hm (by simp; omega)
                  replace hn := hn.mb hm (by simp; omega)
                  replace hS := hS.mb hm (fun k h => by cases h; exact hT.low)
                  replace hT := hrc'
                  clear hm hI' hrc'
                  refine sv hF (v_assign rfl) rfl ?_; clear hF a; intro a hF
                  refine WL_nil (hK _ _ ?_)
                  clear hK K
                  refine W_ret ?_
                  refine ⟨_, _, _, _, hF, rfl, (ld_rec Tryd.underlying24 rfl (by kernel_rfl) hT), rfl, ?_⟩
                  exact ⟨by first | (rw [hrdS]; rfl) | (rw [hrd]; rfl), hS⟩
              · clear hF a; intro hc7 a hF
                try simp only [decide_eq_true_eq, decide_eq_false_iff_not, Bool.not_eq_true', Bool.not_eq_false', Bool.not_true, Bool.not_false] at hc7
                refine sv hF (v_pickT rfl rfl) rfl ?_; clear hF a; intro a hF
                refine sv hF (v_move rfl) rfl ?_; clear hF a; intro a hF
                refine svn hF rfl rfl rfl ?_; clear hF a; intro a hF
                refine svn hF rfl rfl rfl ?_; clear hF a; intro a hF
                refine svn hF rfl rfl rfl ?_; clear hF a; intro a hF
                refine svn hF rfl rfl rfl ?_; clear hF a; intro a hF
                refine svn hF rfl rfl rfl ?_; clear hF a; intro a hF
                refine sv hF (v_pickF rfl rfl) rfl ?_; clear hF a; intro a hF
                refine sv hF (v_assign rfl) rfl ?_; clear hF a; intro a hF
                refine WL_nil (hK _ _ ?_)
                clear hK K
                replace hF := hF.sub _ (c_ 8 rfl (c_ 9 rfl (c_ 3 rfl (c_ 2 rfl (n_)))))
                refine W_seq ?_
                refine W_sr rfl (fun K hK => ?_)
                refine sv hF (v_move rfl) rfl ?_; clear hF a; intro a hF
                refine sv hF (v_not rfl) rfl ?_; clear hF a; intro a hF
                refine WL_nil (hK _ _ ?_)
                clear hK K
                refine W_ifT hF rfl ?_
                have hrd : rd f = none := hrd0.trans ((rdS_4 hs1).trans (by unfold rdD; rw [if_neg (by rintro ⟨⟨h1, h2⟩, h3, h4, h5⟩; first | omega | (subst h1; simp_all))]))
                refine W_sr rfl (fun K hK => ?_)
                refine sv hF (v_build (cs := nmz.cells.toArray) rfl (by kernel_rfl)) rfl ?_; clear hF a; intro a hF
                refine s_storeN (D := FDx) (B := B) hF (by kernel_rfl) rfl rfl (rfl) (by rfl) hT hS.inv ?_; intro w' hm hI' hrc'
                replace hs := hs.mb hm (by simp; omega)
                replace hn := hn.mb hm (by simp; omega)
                replace hS := hS.mb hm (fun k h => by cases h; exact hT.low)
                replace hT := hrc'
                clear hm hI' hrc'
                refine sv hF (v_assign rfl) rfl ?_; clear hF a; intro a hF
                refine WL_nil (hK _ _ ?_)
                clear hK K
                refine W_ret ?_
                refine ⟨_, _, _, _, hF, rfl, (ld_rec Tryd.underlying24 rfl (by kernel_rfl) hT), rfl, ?_⟩
                exact ⟨by first | (rw [hrdS]; rfl) | (rw [hrd]; rfl), hS⟩
            · clear hF a; intro hc6 a hF
              try simp only [decide_eq_true_eq, decide_eq_false_iff_not, Bool.not_eq_true', Bool.not_eq_false', Bool.not_true, Bool.not_false] at hc6
              refine sv hF (v_pickT rfl rfl) rfl ?_; clear hF a; intro a hF
              refine sv hF (v_move rfl) rfl ?_; clear hF a; intro a hF
              refine svn hF rfl rfl rfl ?_; clear hF a; intro a hF
              refine svn hF rfl rfl rfl ?_; clear hF a; intro a hF
              refine svn hF rfl rfl rfl ?_; clear hF a; intro a hF
              refine sv hF (v_pickF rfl rfl) rfl ?_; clear hF a; intro a hF
              refine sv hF (v_move rfl) rfl ?_; clear hF a; intro a hF
              refine svn hF rfl rfl rfl ?_; clear hF a; intro a hF
              refine svn hF rfl rfl rfl ?_; clear hF a; intro a hF
              refine svn hF rfl rfl rfl ?_; clear hF a; intro a hF
              refine svn hF rfl rfl rfl ?_; clear hF a; intro a hF
              refine svn hF rfl rfl rfl ?_; clear hF a; intro a hF
              refine sv hF (v_pickF rfl rfl) rfl ?_; clear hF a; intro a hF
              refine sv hF (v_assign rfl) rfl ?_; clear hF a; intro a hF
              refine WL_nil (hK _ _ ?_)
              clear hK K
              replace hF := hF.sub _ (c_ 8 rfl (c_ 9 rfl (c_ 3 rfl (c_ 2 rfl (n_)))))
              refine W_seq ?_
              refine W_sr rfl (fun K hK => ?_)
              refine sv hF (v_move rfl) rfl ?_; clear hF a; intro a hF
              refine sv hF (v_not rfl) rfl ?_; clear hF a; intro a hF
              refine WL_nil (hK _ _ ?_)
              clear hK K
              refine W_ifT hF rfl ?_
              have hrd : rd f = none := hrd0.trans ((rdS_4 hs1).trans (by unfold rdD; rw [if_neg (by rintro ⟨⟨h1, h2⟩, h3, h4, h5⟩; first | omega | (subst h1; simp_all))]))
              refine W_sr rfl (fun K hK => ?_)
              refine sv hF (v_build (cs := nmz.cells.toArray) rfl (by kernel_rfl)) rfl ?_; clear hF a; intro a hF
              refine s_storeN (D := FDx) (B := B) hF (by kernel_rfl) rfl rfl (rfl) (by rfl) hT hS.inv ?_; intro w' hm hI' hrc'
              replace hs := hs.mb hm (by simp; omega)
              replace hn := hn.mb hm (by simp; omega)
              replace hS := hS.mb hm (fun k h => by cases h; exact hT.low)
              replace hT := hrc'
              clear hm hI' hrc'
              refine sv hF (v_assign rfl) rfl ?_; clear hF a; intro a hF
              refine WL_nil (hK _ _ ?_)
              clear hK K
              refine W_ret ?_
              refine ⟨_, _, _, _, hF, rfl, (ld_rec Tryd.underlying24 rfl (by kernel_rfl) hT), rfl, ?_⟩
              exact ⟨by first | (rw [hrdS]; rfl) | (rw [hrd]; rfl), hS⟩
          · clear hF a; intro hc5 a hF
            try simp only [decide_eq_true_eq, decide_eq_false_iff_not, Bool.not_eq_true', Bool.not_eq_false', Bool.not_true, Bool.not_false] at hc5
            refine sv hF (v_move rfl) rfl ?_; clear hF a; intro a hF
            refine svn hF rfl rfl rfl ?_; clear hF a; intro a hF
            refine svn hF rfl rfl rfl ?_; clear hF a; intro a hF
            refine svn hF rfl rfl rfl ?_; clear hF a; intro a hF
            refine sv hF (v_pickF rfl rfl) rfl ?_; clear hF a; intro a hF
            refine sv hF (v_move rfl) rfl ?_; clear hF a; intro a hF
            refine svn hF rfl rfl rfl ?_; clear hF a; intro a hF
            refine svn hF rfl rfl rfl ?_; clear hF a; intro a hF
            refine svn hF rfl rfl rfl ?_; clear hF a; intro a hF
            refine sv hF (v_pickF rfl rfl) rfl ?_; clear hF a; intro a hF
            refine sv hF (v_move rfl) rfl ?_; clear hF a; intro a hF
            refine svn hF rfl rfl rfl ?_; clear hF a; intro a hF
            refine svn hF rfl rfl rfl ?_; clear hF a; intro a hF
            refine svn hF rfl rfl rfl ?_; clear hF a; intro a hF
            refine svn hF rfl rfl rfl ?_; clear hF a; intro a hF
            refine svn hF rfl rfl rfl ?_; clear hF a; intro a hF
            refine sv hF (v_pickF rfl rfl) rfl ?_; clear hF a; intro a hF
            refine sv hF (v_assign rfl) rfl ?_; clear hF a; intro a hF
            refine WL_nil (hK _ _ ?_)
            clear hK K
            replace hF := hF.sub _ (c_ 8 rfl (c_ 9 rfl (c_ 3 rfl (c_ 2 rfl (n_)))))
            refine W_seq ?_
            refine W_sr rfl (fun K hK => ?_)
            refine sv hF (v_move rfl) rfl ?_; clear hF a; intro a hF
            refine sv hF (v_not rfl) rfl ?_; clear hF a; intro a hF
            refine WL_nil (hK _ _ ?_)
            clear hK K
            refine W_ifT hF rfl ?_
            have hrd : rd f = none := hrd0.trans ((rdS_4 hs1).trans (by unfold rdD; rw [if_neg (by rintro ⟨⟨h1, h2⟩, h3, h4, h5⟩; first | omega | (subst h1; simp_all))]))
            refine W_sr rfl (fun K hK => ?_)
            refine sv hF (v_build (cs := nmz.cells.toArray) rfl (by kernel_rfl)) rfl ?_; clear hF a; intro a hF
            refine s_storeN (D := FDx) (B := B) hF (by kernel_rfl) rfl rfl (rfl) (by rfl) hT hS.inv ?_; intro w' hm hI' hrc'
            replace hs := hs.mb hm (by simp; omega)
            replace hn := hn.mb hm (by simp; omega)
            replace hS := hS.mb hm (fun k h => by cases h; exact hT.low)
            replace hT := hrc'
            clear hm hI' hrc'
            refine sv hF (v_assign rfl) rfl ?_; clear hF a; intro a hF
            refine WL_nil (hK _ _ ?_)
            clear hK K
            refine W_ret ?_
            refine ⟨_, _, _, _, hF, rfl, (ld_rec Tryd.underlying24 rfl (by kernel_rfl) hT), rfl, ?_⟩
            exact ⟨by first | (rw [hrdS]; rfl) | (rw [hrd]; rfl), hS⟩
        · skip
          try simp only [decide_eq_true_eq, decide_eq_false_iff_not, Bool.not_eq_true', Bool.not_eq_false', Bool.not_true, Bool.not_false] at hc4
          refine W_sr rfl (fun K hK => ?_)
          refine sv hF (v_load sc9 rfl hs.at) rfl ?_; clear hF a; intro a hF
          refine sv hF (v_lenT rfl Tryd.underlying9 rfl) rfl ?_; clear hF a; intro a hF
          refine sv hF ((v_eql rfl rfl).as (congrArg Value.bool (decide_eq_false (by simp)))) rfl ?_; clear hF a; intro a hF
          refine sv hF (v_move rfl) rfl ?_; clear hF a; intro a hF
          refine svn hF rfl rfl rfl ?_; clear hF a; intro a hF
          refine svn hF rfl rfl rfl ?_; clear hF a; intro a hF
          refine svn hF rfl rfl rfl ?_; clear hF a; intro a hF
          refine sv hF (v_pickF rfl rfl) rfl ?_; clear hF a; intro a hF
          refine sv hF (v_assign rfl) rfl ?_; clear hF a; intro a hF
          refine WL_nil (hK _ _ ?_)
          clear hK K
          replace hF := hF.sub _ (c_ 85 rfl (c_ 10 rfl (c_ 9 rfl (c_ 8 rfl (c_ 7 rfl (c_ 3 rfl (c_ 2 rfl (n_))))))))
          refine W_ifF hF rfl ?_
          refine W_reg rfl (fun K hK => ?_)
          refine sv hF (v_assign rfl) rfl ?_; clear hF a; intro a hF
          refine WL_nil (hK _ _ ?_)
          clear hK K
          replace hF := hF.sub _ (c_ 8 rfl (c_ 9 rfl (c_ 3 rfl (c_ 2 rfl (n_)))))
          refine W_seq ?_
          refine W_sr rfl (fun K hK => ?_)
          refine sv hF (v_move rfl) rfl ?_; clear hF a; intro a hF
          refine sv hF (v_not rfl) rfl ?_; clear hF a; intro a hF
          refine WL_nil (hK _ _ ?_)
          clear hK K
          refine W_ifT hF rfl ?_
          have hrd : rd f = none := hrd0.trans ((rdS_4 hs1).trans (by unfold rdD; rw [if_neg (by rintro ⟨⟨h1, h2⟩, h3, h4, h5⟩; first | omega | (subst h1; simp_all))]))
          refine W_sr rfl (fun K hK => ?_)
          refine sv hF (v_build (cs := nmz.cells.toArray) rfl (by kernel_rfl)) rfl ?_; clear hF a; intro a hF
          refine s_storeN (D := FDx) (B := B) hF (by kernel_rfl) rfl rfl (rfl) (by rfl) hT hS.inv ?_; intro w' hm hI' hrc'
          replace hs := hs.mb hm (by simp; omega)
          replace hn := hn.mb hm (by simp; omega)
          replace hS := hS.mb hm (fun k h => by cases h; exact hT.low)
          replace hT := hrc'
          clear hm hI' hrc'
          refine sv hF (v_assign rfl) rfl ?_; clear hF a; intro a hF
          refine WL_nil (hK _ _ ?_)
          clear hK K
          refine W_ret ?_
          refine ⟨_, _, _, _, hF, rfl, (ld_rec Tryd.underlying24 rfl (by kernel_rfl) hT), rfl, ?_⟩
          exact ⟨by first | (rw [hrdS]; rfl) | (rw [hrd]; rfl), hS⟩
      · clear hF a; intro hc3 a hF
        try simp only [decide_eq_true_eq, decide_eq_false_iff_not, Bool.not_eq_true', Bool.not_eq_false', Bool.not_true, Bool.not_false] at hc3
        refine sv hF (v_pickT rfl rfl) rfl ?_; clear hF a; intro a hF
        refine sv hF (v_move rfl) rfl ?_; clear hF a; intro a hF
        refine svn hF rfl rfl rfl ?_; clear hF a; intro a hF
        refine svn hF rfl rfl rfl ?_; clear hF a; intro a hF
        refine svn hF rfl rfl rfl ?_; clear hF a; intro a hF
        refine sv hF (v_pickF rfl rfl) rfl ?_; clear hF a; intro a hF
        refine sv hF (v_assign rfl) rfl ?_; clear hF a; intro a hF
        refine WL_nil (hK _ _ ?_)
        clear hK K
        replace hF := hF.sub _ (c_ 41 rfl (c_ 10 rfl (c_ 9 rfl (c_ 8 rfl (c_ 7 rfl (c_ 3 rfl (c_ 2 rfl (n_))))))))
        refine W_ifF hF rfl ?_
        refine W_sr rfl (fun K hK => ?_)
        refine sv hF (v_load sc9 rfl hs.at) rfl ?_; clear hF a; intro a hF
        refine sv hF (v_lenT rfl Tryd.underlying9 rfl) rfl ?_; clear hF a; intro a hF
        refine sv hF ((v_eql rfl rfl).as (congrArg Value.bool (decide_eq_false (by simp)))) rfl ?_; clear hF a; intro a hF
        refine sv hF (v_move rfl) rfl ?_; clear hF a; intro a hF
        refine svn hF rfl rfl rfl ?_; clear hF a; intro a hF
        refine svn hF rfl rfl rfl ?_; clear hF a; intro a hF
        refine svn hF rfl rfl rfl ?_; clear hF a; intro a hF
        refine sv hF (v_pickF rfl rfl) rfl ?_; clear hF a; intro a hF
        refine sv hF (v_assign rfl) rfl ?_; clear hF a; intro a hF
        refine WL_nil (hK _ _ ?_)
        clear hK K
        replace hF := hF.sub _ (c_ 85 rfl (c_ 10 rfl (c_ 9 rfl (c_ 8 rfl (c_ 7 rfl (c_ 3 rfl (c_ 2 rfl (n_))))))))
        refine W_ifF hF rfl ?_
        refine W_reg rfl (fun K hK => ?_)
        refine sv hF (v_assign rfl) rfl ?_; clear hF a; intro a hF
        refine WL_nil (hK _ _ ?_)
        clear hK K
        replace hF := hF.sub _ (c_ 8 rfl (c_ 9 rfl (c_ 3 rfl (c_ 2 rfl (n_)))))
        refine W_seq ?_
        refine W_sr rfl (fun K hK => ?_)
        refine sv hF (v_move rfl) rfl ?_; clear hF a; intro a hF
        refine sv hF (v_not rfl) rfl ?_; clear hF a; intro a hF
        refine WL_nil (hK _ _ ?_)
        clear hK K
        refine W_ifT hF rfl ?_
        have hrd : rd f = none := hrd0.trans ((rdS_4 hs1).trans (by unfold rdD; rw [if_neg (by rintro ⟨⟨h1, h2⟩, h3, h4, h5⟩; first | omega | (subst h1; simp_all))]))
        refine W_sr rfl (fun K hK => ?_)
        refine sv hF (v_build (cs := nmz.cells.toArray) rfl (by kernel_rfl)) rfl ?_; clear hF a; intro a hF
        refine s_storeN (D := FDx) (B := B) hF (by kernel_rfl) rfl rfl (rfl) (by rfl) hT hS.inv ?_; intro w' hm hI' hrc'
        replace hs := hs.mb hm (by simp; omega)
        replace hn := hn.mb hm (by simp; omega)
        replace hS := hS.mb hm (fun k h => by cases h; exact hT.low)
        replace hT := hrc'
        clear hm hI' hrc'
        refine sv hF (v_assign rfl) rfl ?_; clear hF a; intro a hF
        refine WL_nil (hK _ _ ?_)
        clear hK K
        refine W_ret ?_
        refine ⟨_, _, _, _, hF, rfl, (ld_rec Tryd.underlying24 rfl (by kernel_rfl) hT), rfl, ?_⟩
        exact ⟨by first | (rw [hrdS]; rfl) | (rw [hrd]; rfl), hS⟩

set_option maxRecDepth 100000 in
set_option maxHeartbeats 1000000 in
theorem Read_par (B : Nat) (f o : List UInt8) (c y z kb mb ib : UInt8) (w : World) (hI : Inv FDx B w) (hfl : f.length ≤ 1000) (hcut : cutP (bareOf f) = some (o, [c, y, z, kb, mb, ib])) : Ret Tryd.prog 10 [.string (str f)] w fun v w' => v = .tuple #[.agg ((rd f).getD nmz).cells.toArray, .bool (rd f).isSome] ∧ St FDx B w w' := by
  refine enterCT 139 [(0, .string (str f))] 2 24 3 Tryd.func10 rfl rfl rfl rfl rfl ?_; intro a hF
  have hS := St.refl hI
  have hbl : (bareOf f).length ≤ 1000 := by have h := congrArg List.length (bare_is f); rw [List.length_append] at h; omega
  refine W_sr rfl (fun K hK => ?_)
  refine s_allocN (D := FDx) (B := B) (z := .agg nmz.cells.toArray) hF (by kernel_rfl) (by decide) hS.inv rfl ?_; clear hF a; intro gT w' a hm hI' hT hF
  replace hS := hS.mb0 hm
  clear hm hI'
  refine sv hF (v_assign rfl) rfl ?_; clear hF a; intro a hF
  refine WL_nil (hK _ _ ?_)
  clear hK K
  refine W_sr rfl (fun K hK => ?_)
  refine sv hF (v_move rfl) rfl ?_; clear hF a; intro a hF
  refine sc hF rfl rfl rfl en25 rfl (cutS_ok f _ (Nat.le_trans hfl (by decide))) ?_; clear hF a; intro v w' a hv hF
  obtain ⟨rfl, hw⟩ := hv
  obtain rfl := hw.symm
  have hS' := St.refl hS.inv
  replace hT := hT.st hS'
  replace hS := hS.trans hS'
  clear hS'
  refine sv hF (v_move rfl) rfl ?_; clear hF a; intro a hF
  refine sv hF (v_ext rfl rfl) rfl ?_; clear hF a; intro a hF
  refine sv hF (v_ext rfl rfl) rfl ?_; clear hF a; intro a hF
  refine sv hF (v_assign rfl) rfl ?_; clear hF a; intro a hF
  refine sv hF (v_assign rfl) rfl ?_; clear hF a; intro a hF
  refine WL_nil (hK _ _ ?_)
  clear hK K
  replace hF := hF.sub _ (c_ 5 rfl (c_ 4 rfl (c_ 3 rfl (c_ 2 rfl (n_)))))
  refine W_sr rfl (fun K hK => ?_)
  refine sv hF (v_move rfl) rfl ?_; clear hF a; intro a hF
  refine sc hF rfl rfl rfl en26 rfl (Cut_ok B (bareOf f) o [c, y, z, kb, mb, ib] true _ hS.inv hbl (by unfold cutV; rw [hcut])) ?_; clear hF a; intro v w' a hv hF
  obtain ⟨rfl, hS'⟩ := hv
  replace hT := hT.st hS'
  replace hS := hS.trans hS'
  clear hS'
  refine sv hF (v_move rfl) rfl ?_; clear hF a; intro a hF
  refine sv hF (v_ext rfl rfl) rfl ?_; clear hF a; intro a hF
  refine sv hF (v_ext rfl rfl) rfl ?_; clear hF a; intro a hF
  refine sv hF ((v_ext rfl rfl).as (congrArg Value.bool (rfl))) rfl ?_; clear hF a; intro a hF
  obtain ⟨gs, hgs⟩ : ∃ g, g = w'.heap.size := ⟨_, rfl⟩
  have ss := hS.ext.size
  have tT := heap_lt hT.blk
  rw [← hgs] at ss tT
  refine s_alloc (D := FDx) (B := B) hF zv9 (by decide) hS.inv rfl ?_; clear hF a; intro w' a hm hI' hs hsz hF
  replace hT := hT.mb hm (by simp)
  replace hS := hS.mb0 hm
  clear hm hI' hsz
  rw [← hgs] at hs hF
  clear hgs
  refine sv hF (v_assign rfl) rfl ?_; clear hF a; intro a hF
  refine s_stb (D := FDx) (B := B) hF on9 rfl rfl (rfl) hs hS.inv ?_; intro w' hm hI' hbx'
  replace hT := hT.mb hm (by simp; omega)
  replace hS := hS.mb hm (fun k h => by cases h; omega)
  replace hs := hbx'
  clear hm hI' hbx'
  refine sv hF (v_assign rfl) rfl ?_; clear hF a; intro a hF
  refine WL_nil (hK _ _ ?_)
  clear hK K
  replace hF := hF.sub _ (c_ 8 rfl (c_ 6 rfl (c_ 7 rfl (c_ 5 rfl (c_ 3 rfl (c_ 2 rfl (n_)))))))
  refine W_sr rfl (fun K hK => ?_)
  refine sv hF (v_move rfl) rfl ?_; clear hF a; intro a hF
  refine sv hF (v_move rfl) rfl ?_; clear hF a; intro a hF
  refine sv hF (v_build (cs := (Nm.cells ⟨o, 0, 0, [], 0, 0, 0, tempOf f⟩).toArray) rfl (by kernel_rfl)) rfl ?_; clear hF a; intro a hF
  have hs0 := hS.ext.size
  have tT2 := heap_lt hT.blk
  have ts2 := heap_lt hs.blk
  refine s_allocN (D := FDx) (B := B) (z := .agg nmz.cells.toArray) hF (by kernel_rfl) (by decide) hS.inv rfl ?_; clear hF a; intro gn w' a hm hI' hn hF
  replace hT := hT.mb hm (by simp)
  replace hs := hs.mb hm (by simp)
  replace hS := hS.mb0 hm
  clear hm hI'
  have hgn := hn.low
  replace hn := hn.le hs0
  clear hs0
  refine s_storeN (D := FDx) (B := B) hF (by kernel_rfl) rfl rfl (rfl) (by rfl) hn hS.inv ?_; intro w' hm hI' hrc'
  replace hT := hT.mb hm (by simp; omega)
  replace hs := hs.mb hm (by simp; omega)
  replace hS := hS.mb hm (fun k h => by cases h; exact hn.low)
  replace hn := hrc'
  clear hm hI' hrc'
  refine WL_nil (hK _ _ ?_)
  clear hK K
  replace hF := hF.sub _ (c_ 9 rfl (c_ 8 rfl (c_ 6 rfl (c_ 7 rfl (c_ 3 rfl (c_ 2 rfl (n_)))))))
  refine W_sr rfl (fun K hK => ?_)
  refine sv hF (v_mkf rfl) rfl ?_; clear hF a; intro a hF
  refine sv hF (v_assign rfl) rfl ?_; clear hF a; intro a hF
  refine WL_nil (hK _ _ ?_)
  clear hK K
  replace hF := hF.sub _ (c_ 10 rfl (c_ 9 rfl (c_ 8 rfl (c_ 6 rfl (c_ 7 rfl (c_ 3 rfl (c_ 2 rfl (n_))))))))
  refine W_seq ?_
  refine W_block ?_
  refine W_sr rfl (fun K hK => ?_)
  refine sv hF (v_move rfl) rfl ?_; clear hF a; intro a hF
  refine sv hF (v_not rfl) rfl ?_; clear hF a; intro a hF
  refine sv hF (v_move rfl) rfl ?_; clear hF a; intro a hF
  refine svg hF rfl ?_
  refine sv hF (v_move rfl) rfl ?_; clear hF a; intro a hF
  refine svg hF rfl ?_
  refine sc hF rfl rfl rfl en23 rfl (May_ok B o _ hS.inv) ?_; clear hF a; intro v w' a hv hF
  obtain ⟨rfl, hS'⟩ := hv
  replace hT := hT.st hS'
  replace hs := hs.st hS'
  replace hn := hn.st hS'
  replace hS := hS.trans hS'
  clear hS'
  refine svg hF rfl ?_
  refine sv hF (v_not rfl) rfl ?_; clear hF a; intro a hF
  refine sv hF (v_pickF rfl rfl) rfl ?_; clear hF a; intro a hF
  refine sv hF (v_assign rfl) rfl ?_; clear hF a; intro a hF
  refine WL_nil (hK _ _ ?_)
  clear hK K
  replace hF := hF.sub _ (c_ 28 rfl (c_ 10 rfl (c_ 9 rfl (c_ 8 rfl (c_ 7 rfl (c_ 3 rfl (c_ 2 rfl (n_))))))))
  refine W_if hF rfl (fun hc1 => ?_) (fun hc1 => ?_)
  · skip
    try simp only [decide_eq_true_eq, decide_eq_false_iff_not, Bool.not_eq_true', Bool.not_eq_false', Bool.not_true, Bool.not_false] at hc1
    have hrd := rd_f hcut (by assumption)
    refine W_sr rfl (fun K hK => ?_)
    refine sv hF (v_build (cs := nmz.cells.toArray) rfl (by kernel_rfl)) rfl ?_; clear hF a; intro a hF
    refine s_storeN (D := FDx) (B := B) hF (by kernel_rfl) rfl rfl (rfl) (by rfl) hT hS.inv ?_; intro w' hm hI' hrc'
    replace hs := hs.mb hm (by simp; omega)
    replace hn := hn.mb hm (by simp; omega)
    replace hS := hS.mb hm (fun k h => by cases h; exact hT.low)
    replace hT := hrc'
    clear hm hI' hrc'
    refine sv hF (v_assign rfl) rfl ?_; clear hF a; intro a hF
    refine WL_nil (hK _ _ ?_)
    clear hK K
    replace hF := hF.sub _ (c_ 3 rfl (c_ 9 rfl (c_ 8 rfl (c_ 2 rfl (n_)))))
    refine W_ret ?_
    refine ⟨_, _, _, _, hF, rfl, (ld_rec Tryd.underlying24 rfl (by kernel_rfl) hT), rfl, ?_⟩
    exact ⟨by rw [hrd]; rfl, hS⟩
  · skip
    try simp only [decide_eq_true_eq, decide_eq_false_iff_not, Bool.not_eq_true', Bool.not_eq_false', Bool.not_true, Bool.not_false] at hc1
    have hrd0 := rd_t hcut (by assumption)
    refine W_sr rfl (fun K hK => ?_)
    refine sv hF (v_load sc9 rfl hs.at) rfl ?_; clear hF a; intro a hF
    refine sv hF ((v_eqlT (b := [115, 105, 100, 101]) rfl rfl).as (congrArg Value.bool (decide_eq_false (fun e => by have := congrArg List.length e; simp [sideL] at this)))) rfl ?_; clear hF a; intro a hF
    refine sv hF (v_assign rfl) rfl ?_; clear hF a; intro a hF
    refine WL_nil (hK _ _ ?_)
    clear hK K
    replace hF := hF.sub _ (c_ 37 rfl (c_ 10 rfl (c_ 9 rfl (c_ 8 rfl (c_ 7 rfl (c_ 3 rfl (c_ 2 rfl (n_))))))))
    refine W_ifF hF rfl ?_
    refine W_sr rfl (fun K hK => ?_)
    refine sv hF (v_load sc9 rfl hs.at) rfl ?_; clear hF a; intro a hF
    refine sv hF (v_lenT rfl Tryd.underlying9 rfl) rfl ?_; clear hF a; intro a hF
    refine sv hF ((v_eql rfl rfl).as (congrArg Value.bool (decide_eq_false (by simp)))) rfl ?_; clear hF a; intro a hF
    refine sv hF (v_move rfl) rfl ?_; clear hF a; intro a hF
    refine svn hF rfl rfl rfl ?_; clear hF a; intro a hF
    refine svn hF rfl rfl rfl ?_; clear hF a; intro a hF
    refine svn hF rfl rfl rfl ?_; clear hF a; intro a hF
    refine sv hF (v_pickF rfl rfl) rfl ?_; clear hF a; intro a hF
    refine sv hF (v_move rfl) rfl ?_; clear hF a; intro a hF
    refine svn hF rfl rfl rfl ?_; clear hF a; intro a hF
    refine svn hF rfl rfl rfl ?_; clear hF a; intro a hF
    refine svn hF rfl rfl rfl ?_; clear hF a; intro a hF
    refine sv hF (v_pickF rfl rfl) rfl ?_; clear hF a; intro a hF
    refine sv hF (v_assign rfl) rfl ?_; clear hF a; intro a hF
    refine WL_nil (hK _ _ ?_)
    clear hK K
    replace hF := hF.sub _ (c_ 41 rfl (c_ 10 rfl (c_ 9 rfl (c_ 8 rfl (c_ 7 rfl (c_ 3 rfl (c_ 2 rfl (n_))))))))
    refine W_ifF hF rfl ?_
    refine W_sr rfl (fun K hK => ?_)
    refine sv hF (v_load sc9 rfl hs.at) rfl ?_; clear hF a; intro a hF
    refine sv hF (v_lenT rfl Tryd.underlying9 rfl) rfl ?_; clear hF a; intro a hF
    refine sv hF ((v_eql rfl rfl).as (congrArg Value.bool (rfl))) rfl ?_; clear hF a; intro a hF
    refine sv hF (v_move rfl) rfl ?_; clear hF a; intro a hF
    refine svg hF rfl ?_
    refine sv hF (v_load sc9 rfl hs.at) rfl ?_; clear hF a; intro a hF
    refine svg hF rfl ?_
    refine sv hF (v_slHiT (h := 1) Tryd.underlying9 rfl rfl (by simp)) rfl ?_; clear hF a; intro a hF
    refine svg hF rfl ?_
    refine sv hF (v_eqlT (b := [112]) rfl rfl) rfl ?_; clear hF a; intro a hF
    refine sv hF (v_pickT rfl rfl) rfl ?_; clear hF a; intro a hF
    refine sv hF (v_assign rfl) rfl ?_; clear hF a; intro a hF
    refine WL_nil (hK _ _ ?_)
    clear hK K
    replace hF := hF.sub _ (c_ 85 rfl (c_ 10 rfl (c_ 9 rfl (c_ 8 rfl (c_ 7 rfl (c_ 3 rfl (c_ 2 rfl (n_))))))))
    refine W_if hF rfl (fun hc2 => ?_) (fun hc2 => ?_)
    · skip
      try simp only [decide_eq_true_eq, decide_eq_false_iff_not, Bool.not_eq_true', Bool.not_eq_false', Bool.not_true, Bool.not_false] at hc2
      refine W_seq ?_
      refine W_dS (fun (w2 : World) => w2.cell? ⟨gs, 0, none⟩ = some (.string (str [c, y, z, kb, mb, ib]))) (m := 18) rfl hmix (fun K hK => ?_)
      have hS' := St.drew hS.inv
      replace hT := hT.st hS'
      replace hs := hs.st hS'
      replace hn := hn.st hS'
      replace hS := hS.trans hS'
      clear hS'
      have hSS : (fun (w2 : World) => w2.cell? ⟨gs, 0, none⟩ = some (.string (str [c, y, z, kb, mb, ib]))) _ := hs.at
      refine b_v (i := 0) rfl (by kernel_rfl) hF (fun w2 hx => v_load sc9 rfl hx) rfl hSS ?_; clear hF a; intro a hF
      refine b_v (i := 1) rfl (by kernel_rfl) hF (fun w2 hx => v_slLoHiT (l := 1) (h := 3) Tryd.underlying9 rfl rfl rfl (by omega) (by simp)) rfl hSS ?_; clear hF a; intro a hF
      refine b_v (i := 2) rfl (by kernel_rfl) hF (fun w2 hx => v_move rfl) rfl hSS ?_; clear hF a; intro a hF
      refine b_v (i := 4) rfl (by kernel_rfl) hF (fun w2 hx => v_move rfl) rfl hSS ?_; clear hF a; intro a hF
      refine b_v (i := 6) rfl (by kernel_rfl) hF (fun w2 hx => v_move rfl) rfl hSS ?_; clear hF a; intro a hF
      refine b_v (i := 8) rfl (by kernel_rfl) hF (fun w2 hx => v_fieldAddr fa24_1 rfl) rfl hSS ?_; clear hF a; intro a hF
      refine b_e (i := 3) (by kernel_rfl) rfl ?_
      refine sc hF rfl rfl rfl en27 rfl (Read1_ok gs 3 [c, y, z, kb, mb, ib] kb _ hs.at rfl) ?_; clear hF a; intro v w' a hv hF
      obtain ⟨rfl, hw⟩ := hv
      obtain rfl := hw.symm
      have hS' := St.refl hS.inv
      replace hT := hT.st hS'
      replace hs := hs.st hS'
      replace hn := hn.st hS'
      replace hS := hS.trans hS'
      clear hS'
      clear hSS
      have hSS : (fun (w2 : World) => w2.cell? ⟨gs, 0, none⟩ = some (.string (str [c, y, z, kb, mb, ib]))) _ := hs.at
      refine WL_nil ⟨hSS, ?_⟩
      refine b_e (i := 5) (by kernel_rfl) rfl ?_
      refine sc hF rfl rfl rfl en27 rfl (Read1_ok gs 4 [c, y, z, kb, mb, ib] mb _ hs.at rfl) ?_; clear hF a; intro v w' a hv hF
      obtain ⟨rfl, hw⟩ := hv
      obtain rfl := hw.symm
      have hS' := St.refl hS.inv
      replace hT := hT.st hS'
      replace hs := hs.st hS'
      replace hn := hn.st hS'
      replace hS := hS.trans hS'
      clear hS'
      clear hSS
      have hSS : (fun (w2 : World) => w2.cell? ⟨gs, 0, none⟩ = some (.string (str [c, y, z, kb, mb, ib]))) _ := hs.at
      refine WL_nil ⟨hSS, ?_⟩
      refine b_e (i := 7) (by kernel_rfl) rfl ?_
      refine sc hF rfl rfl rfl en27 rfl (Read1_ok gs 5 [c, y, z, kb, mb, ib] ib _ hs.at rfl) ?_; clear hF a; intro v w' a hv hF
      obtain ⟨rfl, hw⟩ := hv
      obtain rfl := hw.symm
      have hS' := St.refl hS.inv
      replace hT := hT.st hS'
      replace hs := hs.st hS'
      replace hn := hn.st hS'
      replace hS := hS.trans hS'
      clear hS'
      clear hSS
      have hSS : (fun (w2 : World) => w2.cell? ⟨gs, 0, none⟩ = some (.string (str [c, y, z, kb, mb, ib]))) _ := hs.at
      refine WL_nil ⟨hSS, ?_⟩
      refine b_e (i := 9) (by kernel_rfl) rfl ?_
      refine s_storeF (D := FDx) (B := B) hF on3 rfl rfl (rfl) (i := 1) (by simp [Nm.cells]) hn hS.inv ?_; intro w' hm hI' hrc'
      replace hT := hT.mb hm (by simp; omega)
      replace hs := hs.mb hm (by simp; omega)
      replace hS := hS.mb hm (fun k h => by cases h; exact hn.low)
      replace hn := hrc'
      clear hm hI' hrc'
      clear hSS
      have hSS : (fun (w2 : World) => w2.cell? ⟨gs, 0, none⟩ = some (.string (str [c, y, z, kb, mb, ib]))) _ := hs.at
      refine WL_nil ⟨hSS, ?_⟩
      refine b_v (i := 10) rfl (by kernel_rfl) hF (fun w2 hx => v_fieldAddr fa24_3 rfl) rfl hSS ?_; clear hF a; intro a hF
      refine b_e (i := 11) (by kernel_rfl) rfl ?_
      refine s_storeF (D := FDx) (B := B) hF on9 rfl rfl (rfl) (i := 3) (by simp [Nm.cells]) hn hS.inv ?_; intro w' hm hI' hrc'
      replace hT := hT.mb hm (by simp; omega)
      replace hs := hs.mb hm (by simp; omega)
      replace hS := hS.mb hm (fun k h => by cases h; exact hn.low)
      replace hn := hrc'
      clear hm hI' hrc'
      clear hSS
      have hSS : (fun (w2 : World) => w2.cell? ⟨gs, 0, none⟩ = some (.string (str [c, y, z, kb, mb, ib]))) _ := hs.at
      refine WL_nil ⟨hSS, ?_⟩
      refine b_v (i := 12) rfl (by kernel_rfl) hF (fun w2 hx => v_fieldAddr fa24_4 rfl) rfl hSS ?_; clear hF a; intro a hF
      refine b_e (i := 13) (by kernel_rfl) rfl ?_
      refine s_storeF (D := FDx) (B := B) hF on3 rfl rfl (rfl) (i := 4) (by simp [Nm.cells]) hn hS.inv ?_; intro w' hm hI' hrc'
      replace hT := hT.mb hm (by simp; omega)
      replace hs := hs.mb hm (by simp; omega)
      replace hS := hS.mb hm (fun k h => by cases h; exact hn.low)
      replace hn := hrc'
      clear hm hI' hrc'
      clear hSS
      have hSS : (fun (w2 : World) => w2.cell? ⟨gs, 0, none⟩ = some (.string (str [c, y, z, kb, mb, ib]))) _ := hs.at
      refine WL_nil ⟨hSS, ?_⟩
      refine b_v (i := 14) rfl (by kernel_rfl) hF (fun w2 hx => v_fieldAddr fa24_5 rfl) rfl hSS ?_; clear hF a; intro a hF
      refine b_e (i := 15) (by kernel_rfl) rfl ?_
      refine s_storeF (D := FDx) (B := B) hF on3 rfl rfl (rfl) (i := 5) (by simp [Nm.cells]) hn hS.inv ?_; intro w' hm hI' hrc'
      replace hT := hT.mb hm (by simp; omega)
      replace hs := hs.mb hm (by simp; omega)
      replace hS := hS.mb hm (fun k h => by cases h; exact hn.low)
      replace hn := hrc'
      clear hm hI' hrc'
      clear hSS
      have hSS : (fun (w2 : World) => w2.cell? ⟨gs, 0, none⟩ = some (.string (str [c, y, z, kb, mb, ib]))) _ := hs.at
      refine WL_nil ⟨hSS, ?_⟩
      refine b_v (i := 16) rfl (by kernel_rfl) hF (fun w2 hx => v_fieldAddr fa24_6 rfl) rfl hSS ?_; clear hF a; intro a hF
      refine b_e (i := 17) (by kernel_rfl) rfl ?_
      refine s_storeF (D := FDx) (B := B) hF on3 rfl rfl (rfl) (i := 6) (by simp [Nm.cells]) hn hS.inv ?_; intro w' hm hI' hrc'
      replace hT := hT.mb hm (by simp; omega)
      replace hs := hs.mb hm (by simp; omega)
      replace hS := hS.mb hm (fun k h => by cases h; exact hn.low)
      replace hn := hrc'
      clear hm hI' hrc'
      clear hSS
      have hSS : (fun (w2 : World) => w2.cell? ⟨gs, 0, none⟩ = some (.string (str [c, y, z, kb, mb, ib]))) _ := hs.at
      refine WL_nil ⟨hSS, ?_⟩
      refine b_done (by kernel_rfl) (hK _ _ ?_)
      clear hK K
      replace hF := hF.sub _ (c_ 9 rfl (c_ 8 rfl (c_ 3 rfl (c_ 2 rfl (n_)))))
      refine W_sr rfl (fun K hK => ?_)
      refine sv hF (v_fieldAddr fa24_3 rfl) rfl ?_; clear hF a; intro a hF
      refine sv hF (v_load sc9 rfl (hn.blk.at 3 rfl)) rfl ?_; clear hF a; intro a hF
      refine sc hF rfl rfl rfl en29 rfl (Tagged_ok B (str [y, z]) _ hS.inv) ?_; clear hF a; intro v w' a hv hF
      obtain ⟨rfl, hS'⟩ := hv
      replace hT := hT.st hS'
      replace hs := hs.st hS'
      replace hn := hn.st hS'
      replace hS := hS.trans hS'
      clear hS'
      rw [show tagR (str [y, z]) 0 6 = tagP [y, z] from rfl] at hF
      refine sv hF (v_move rfl) rfl ?_; clear hF a; intro a hF
      refine sv hF (v_ext rfl rfl) rfl ?_; clear hF a; intro a hF
      refine sv hF (v_ext rfl rfl) rfl ?_; clear hF a; intro a hF
      refine sv hF (v_assign rfl) rfl ?_; clear hF a; intro a hF
      refine sv hF (v_assign rfl) rfl ?_; clear hF a; intro a hF
      refine WL_nil (hK _ _ ?_)
      clear hK K
      replace hF := hF.sub _ (c_ 12 rfl (c_ 11 rfl (c_ 9 rfl (c_ 8 rfl (c_ 3 rfl (c_ 2 rfl (n_)))))))
      obtain hcs3 | hcs3 : ((tagP [y, z]).2) = true ∨ ((tagP [y, z]).2) = false := by cases ((tagP [y, z]).2) <;> simp
      · rw [hcs3] at hF
        refine W_reg rfl (fun K hK => ?_)
        refine sv hF (v_move rfl) rfl ?_; clear hF a; intro a hF
        refine sv hF (v_move rfl) rfl ?_; clear hF a; intro a hF
        refine svg hF rfl ?_
        refine sv hF (v_move rfl) rfl ?_; clear hF a; intro a hF
        refine svg hF rfl ?_
        refine sv hF (v_fieldAddr fa24_4 rfl) rfl ?_; clear hF a; intro a hF
        refine svg hF rfl ?_
        refine sv hF (v_load sc3 rfl (hn.blk.at 4 rfl)) rfl ?_; clear hF a; intro a hF
        refine svg hF rfl ?_
        refine sv hF (v_fieldAddr fa24_5 rfl) rfl ?_; clear hF a; intro a hF
        refine svg hF rfl ?_
        refine sv hF (v_load sc3 rfl (hn.blk.at 5 rfl)) rfl ?_; clear hF a; intro a hF
        refine svg hF rfl ?_
        refine sv hF (v_build (cs := #[.int .i64 (tagP [y, z]).1, .int .i64 (dg kb), .int .i64 (dg mb)]) rfl (by kernel_rfl)) rfl ?_; clear hF a; intro a hF
        refine svg hF rfl ?_
        refine sc hF rfl rfl rfl en30 rfl (PMay_ok B (tagP [y, z]).1 (dg kb) (dg mb) _ hS.inv) ?_; clear hF a; intro v w' a hv hF
        obtain ⟨rfl, hS'⟩ := hv
        replace hT := hT.st hS'
        replace hs := hs.st hS'
        replace hn := hn.st hS'
        replace hS := hS.trans hS'
        clear hS'
        obtain hc4 | hc4 : (mayP (tagP [y, z]).1 (dg kb) (dg mb)) = true ∨ (mayP (tagP [y, z]).1 (dg kb) (dg mb)) = false := by cases (mayP (tagP [y, z]).1 (dg kb) (dg mb)) <;> simp
        · rw [hc4] at hF
          refine sv hF (v_pickT rfl rfl) rfl ?_; clear hF a; intro a hF
          refine sv hF (v_move rfl) rfl ?_; clear hF a; intro a hF
          refine svg hF rfl ?_
          refine sv hF (v_fieldAddr fa24_6 rfl) rfl ?_; clear hF a; intro a hF
          refine svg hF rfl ?_
          refine sv hF (v_load sc3 rfl (hn.blk.at 6 rfl)) rfl ?_; clear hF a; intro a hF
          refine svg hF rfl ?_
          refine sb hF (v_geq rfl rfl) rfl ?_ ?_
          · clear hF a; intro hc5 a hF
            try simp only [decide_eq_true_eq, decide_eq_false_iff_not, Bool.not_eq_true', Bool.not_eq_false', Bool.not_true, Bool.not_false] at hc5
            refine sv hF (v_pickT rfl rfl) rfl ?_; clear hF a; intro a hF
            refine sv hF (v_move rfl) rfl ?_; clear hF a; intro a hF
            refine svg hF rfl ?_
            refine sv hF (v_fieldAddr fa24_6 rfl) rfl ?_; clear hF a; intro a hF
            refine svg hF rfl ?_
            refine sv hF (v_load sc3 rfl (hn.blk.at 6 rfl)) rfl ?_; clear hF a; intro a hF
            refine svg hF rfl ?_
            refine sv hF (v_fieldAddr fa24_5 rfl) rfl ?_; clear hF a; intro a hF
            refine svg hF rfl ?_
            refine sv hF (v_load sc3 rfl (hn.blk.at 5 rfl)) rfl ?_; clear hF a; intro a hF
            refine svg hF rfl ?_
            refine sv hF (v_lss rfl rfl) rfl ?_; clear hF a; intro a hF
            refine sv hF (v_pickT rfl rfl) rfl ?_; clear hF a; intro a hF
            refine sv hF (v_assign rfl) rfl ?_; clear hF a; intro a hF
            refine WL_nil (hK _ _ ?_)
            clear hK K
            replace hF := hF.sub _ (c_ 8 rfl (c_ 9 rfl (c_ 3 rfl (c_ 2 rfl (n_)))))
            refine W_seq ?_
            refine W_sr rfl (fun K hK => ?_)
            refine sv hF (v_move rfl) rfl ?_; clear hF a; intro a hF
            refine sv hF (v_not rfl) rfl ?_; clear hF a; intro a hF
            refine WL_nil (hK _ _ ?_)
            clear hK K
            refine W_if hF rfl (fun hc6 => ?_) (fun hc6 => ?_)
            · skip
              try simp only [decide_eq_true_eq, decide_eq_false_iff_not, Bool.not_eq_true', Bool.not_eq_false', Bool.not_true, Bool.not_false] at hc6
              have hrd : rd f = none := hrd0.trans (rdS_6.trans (by unfold rdP; rw [if_neg (by rintro ⟨⟨h1, h2⟩, h3, h4, h5⟩; first | omega | (subst h1; simp_all))]))
              refine W_sr rfl (fun K hK => ?_)
              refine sv hF (v_build (cs := nmz.cells.toArray) rfl (by kernel_rfl)) rfl ?_; clear hF a; intro a hF
              refine s_storeN (D := FDx) (B := B) hF (by kernel_rfl) rfl rfl (rfl) (by rfl) hT hS.inv ?_; intro w' hm hI' hrc'
              replace hs := hs.mb hm (by simp; omega)
              replace hn := hn.mb hm (by simp; omega)
              replace hS := hS.mb hm (fun k h => by cases h; exact hT.low)
              replace hT := hrc'
              clear hm hI' hrc'
              refine sv hF (v_assign rfl) rfl ?_; clear hF a; intro a hF
              refine WL_nil (hK _ _ ?_)
              clear hK K
              refine W_ret ?_
              refine ⟨_, _, _, _, hF, rfl, (ld_rec Tryd.underlying24 rfl (by kernel_rfl) hT), rfl, ?_⟩
              exact ⟨by rw [hrd]; rfl, hS⟩
            · skip
              try simp only [decide_eq_true_eq, decide_eq_false_iff_not, Bool.not_eq_true', Bool.not_eq_false', Bool.not_true, Bool.not_false] at hc6
              refine W_skip ?_
              have hrd : rd f = some ⟨o, 2, 0, [y, z], dg kb, dg mb, dg ib, tempOf f⟩ := hrd0.trans (rdS_6.trans (by unfold rdP; rw [if_pos ⟨⟨by simp_all, by assumption⟩, by assumption, by omega, by omega⟩]))
              refine W_sr rfl (fun K hK => ?_)
              refine sv hF (v_loadN Tryd.underlying24 rfl (by kernel_rfl) rfl hn.blk) rfl ?_; clear hF a; intro a hF
              refine s_storeN (D := FDx) (B := B) hF (by kernel_rfl) rfl rfl (rfl) (by rfl) hT hS.inv ?_; intro w' hm hI' hrc'
              replace hs := hs.mb hm (by simp; omega)
              replace hn := hn.mb hm (by simp; omega)
              replace hS := hS.mb hm (fun k h => by cases h; exact hT.low)
              replace hT := hrc'
              clear hm hI' hrc'
              refine sv hF (v_assign rfl) rfl ?_; clear hF a; intro a hF
              refine WL_nil (hK _ _ ?_)
              clear hK K
              refine W_ret ?_
              refine ⟨_, _, _, _, hF, rfl, (ld_rec Tryd.underlying24 rfl (by kernel_rfl) hT), rfl, ?_⟩
              exact ⟨by rw [hrd]; rfl, hS⟩
          · clear hF a; intro hc5 a hF
            try simp only [decide_eq_true_eq, decide_eq_false_iff_not, Bool.not_eq_true', Bool.not_eq_false', Bool.not_true, Bool.not_false] at hc5
            refine sv hF (v_pickT rfl rfl) rfl ?_; clear hF a; intro a hF
            refine sv hF (v_move rfl) rfl ?_; clear hF a; intro a hF
            refine svn hF rfl rfl rfl ?_; clear hF a; intro a hF
            refine svn hF rfl rfl rfl ?_; clear hF a; intro a hF
            refine svn hF rfl rfl rfl ?_; clear hF a; intro a hF
            refine svn hF rfl rfl rfl ?_; clear hF a; intro a hF
            refine svn hF rfl rfl rfl ?_; clear hF a; intro a hF
            refine sv hF (v_pickF rfl rfl) rfl ?_; clear hF a; intro a hF
            refine sv hF (v_assign rfl) rfl ?_; clear hF a; intro a hF
            refine WL_nil (hK _ _ ?_)
            clear hK K
            replace hF := hF.sub _ (c_ 8 rfl (c_ 9 rfl (c_ 3 rfl (c_ 2 rfl (n_)))))
            refine W_seq ?_
            refine W_sr rfl (fun K hK => ?_)
            refine sv hF (v_move rfl) rfl ?_; clear hF a; intro a hF
            refine sv hF (v_not rfl) rfl ?_; clear hF a; intro a hF
            refine WL_nil (hK _ _ ?_)
            clear hK K
            refine W_ifT hF rfl ?_
            have hrd : rd f = none := hrd0.trans (rdS_6.trans (by unfold rdP; rw [if_neg (by rintro ⟨⟨h1, h2⟩, h3, h4, h5⟩; first | omega | (subst h1; simp_all))]))
            refine W_sr rfl (fun K hK => ?_)
            refine sv hF (v_build (cs := nmz.cells.toArray) rfl (by kernel_rfl)) rfl ?_; clear hF a; intro a hF
            refine s_storeN (D := FDx) (B := B) hF (by kernel_rfl) rfl rfl (rfl) (by rfl) hT hS.inv ?_; intro w' hm hI' hrc'
            replace hs := hs.mb hm (by simp; omega)
            replace hn := hn.mb hm (by simp; omega)
            replace hS := hS.mb hm (fun k h => by cases h; exact hT.low)
            replace hT := hrc'
            clear hm hI' hrc'
            refine sv hF (v_assign rfl) rfl ?_; clear hF a; intro a hF
            refine WL_nil (hK _ _ ?_)
            clear hK K
            refine W_ret ?_
            refine ⟨_, _, _, _, hF, rfl, (ld_rec Tryd.underlying24 rfl (by kernel_rfl) hT), rfl, ?_⟩
            exact ⟨by rw [hrd]; rfl, hS⟩
        · rw [hc4] at hF
          refine sv hF (v_pickT rfl rfl) rfl ?_; clear hF a; intro a hF
          refine sv hF (v_move rfl) rfl ?_; clear hF a; intro a hF
          refine svn hF rfl rfl rfl ?_; clear hF a; intro a hF
          refine svn hF rfl rfl rfl ?_; clear hF a; intro a hF
          refine svn hF rfl rfl rfl ?_; clear hF a; intro a hF
          refine sv hF (v_pickF rfl rfl) rfl ?_; clear hF a; intro a hF
          refine sv hF (v_move rfl) rfl ?_; clear hF a; intro a hF
          refine svn hF rfl rfl rfl ?_; clear hF a; intro a hF
          refine svn hF rfl rfl rfl ?_; clear hF a; intro a hF
          refine svn hF rfl rfl rfl ?_; clear hF a; intro a hF
          refine svn hF rfl rfl rfl ?_; clear hF a; intro a hF
          refine svn hF rfl rfl rfl ?_; clear hF a; intro a hF
          refine sv hF (v_pickF rfl rfl) rfl ?_; clear hF a; intro a hF
          refine sv hF (v_assign rfl) rfl ?_; clear hF a; intro a hF
          refine WL_nil (hK _ _ ?_)
          clear hK K
          replace hF := hF.sub _ (c_ 8 rfl (c_ 9 rfl (c_ 3 rfl (c_ 2 rfl (n_)))))
          refine W_seq ?_
          refine W_sr rfl (fun K hK => ?_)
          refine sv hF (v_move rfl) rfl ?_; clear hF a; intro a hF
          refine sv hF (v_not rfl) rfl ?_; clear hF a; intro a hF
          refine WL_nil (hK _ _ ?_)
          clear hK K
          refine W_ifT hF rfl ?_
          have hrd : rd f = none := hrd0.trans (rdS_6.trans (by unfold rdP; rw [if_neg (by rintro ⟨⟨h1, h2⟩, h3, h4, h5⟩; first | omega | (subst h1; simp_all))]))
          refine W_sr rfl (fun K hK => ?_)
          refine sv hF (v_build (cs := nmz.cells.toArray) rfl (by kernel_rfl)) rfl ?_; clear hF a; intro a hF
          refine s_storeN (D := FDx) (B := B) hF (by kernel_rfl) rfl rfl (rfl) (by rfl) hT hS.inv ?_; intro w' hm hI' hrc'
          replace hs := hs.mb hm (by simp; omega)
          replace hn := hn.mb hm (by simp; omega)
          replace hS := hS.mb hm (fun k h => by cases h; exact hT.low)
          replace hT := hrc'
          clear hm hI' hrc'
          refine sv hF (v_assign rfl) rfl ?_; clear hF a; intro a hF
          refine WL_nil (hK _ _ ?_)
          clear hK K
          refine W_ret ?_
          refine ⟨_, _, _, _, hF, rfl, (ld_rec Tryd.underlying24 rfl (by kernel_rfl) hT), rfl, ?_⟩
          exact ⟨by rw [hrd]; rfl, hS⟩
      · rw [hcs3] at hF
        refine W_reg rfl (fun K hK => ?_)
        refine sv hF (v_move rfl) rfl ?_; clear hF a; intro a hF
        refine sv hF (v_move rfl) rfl ?_; clear hF a; intro a hF
        refine svn hF rfl rfl rfl ?_; clear hF a; intro a hF
        refine svn hF rfl rfl rfl ?_; clear hF a; intro a hF
        refine svn hF rfl rfl rfl ?_; clear hF a; intro a hF
        refine svn hF rfl rfl rfl ?_; clear hF a; intro a hF
        refine svn hF rfl rfl rfl ?_; clear hF a; intro a hF
        refine svn hF rfl rfl rfl ?_; clear hF a; intro a hF
        refine svn hF rfl rfl rfl ?_; clear hF a; intro a hF
        refine sv hF (v_pickF rfl rfl) rfl ?_; clear hF a; intro a hF
        refine sv hF (v_move rfl) rfl ?_; clear hF a; intro a hF
        refine svn hF rfl rfl rfl ?_; clear hF a; intro a hF
        refine svn hF rfl rfl rfl ?_; clear hF a; intro a hF
        refine svn hF rfl rfl rfl ?_; clear hF a; intro a hF
        refine sv hF (v_pickF rfl rfl) rfl ?_; clear hF a; intro a hF
        refine sv hF (v_move rfl) rfl ?_; clear hF a; intro a hF
        refine svn hF rfl rfl rfl ?_; clear hF a; intro a hF
        refine svn hF rfl rfl rfl ?_; clear hF a; intro a hF
        refine svn hF rfl rfl rfl ?_; clear hF a; intro a hF
        refine svn hF rfl rfl rfl ?_; clear hF a; intro a hF
        refine svn hF rfl rfl rfl ?_; clear hF a; intro a hF
        refine sv hF (v_pickF rfl rfl) rfl ?_; clear hF a; intro a hF
        refine sv hF (v_assign rfl) rfl ?_; clear hF a; intro a hF
        refine WL_nil (hK _ _ ?_)
        clear hK K
        replace hF := hF.sub _ (c_ 8 rfl (c_ 9 rfl (c_ 3 rfl (c_ 2 rfl (n_)))))
        refine W_seq ?_
        refine W_sr rfl (fun K hK => ?_)
        refine sv hF (v_move rfl) rfl ?_; clear hF a; intro a hF
        refine sv hF (v_not rfl) rfl ?_; clear hF a; intro a hF
        refine WL_nil (hK _ _ ?_)
        clear hK K
        refine W_ifT hF rfl ?_
        have hrd : rd f = none := hrd0.trans (rdS_6.trans (by unfold rdP; rw [if_neg (by rintro ⟨⟨h1, h2⟩, h3, h4, h5⟩; first | omega | (subst h1; simp_all))]))
        refine W_sr rfl (fun K hK => ?_)
        refine sv hF (v_build (cs := nmz.cells.toArray) rfl (by kernel_rfl)) rfl ?_; clear hF a; intro a hF
        refine s_storeN (D := FDx) (B := B) hF (by kernel_rfl) rfl rfl (rfl) (by rfl) hT hS.inv ?_; intro w' hm hI' hrc'
        replace hs := hs.mb hm (by simp; omega)
        replace hn := hn.mb hm (by simp; omega)
        replace hS := hS.mb hm (fun k h => by cases h; exact hT.low)
        replace hT := hrc'
        clear hm hI' hrc'
        refine sv hF (v_assign rfl) rfl ?_; clear hF a; intro a hF
        refine WL_nil (hK _ _ ?_)
        clear hK K
        refine W_ret ?_
        refine ⟨_, _, _, _, hF, rfl, (ld_rec Tryd.underlying24 rfl (by kernel_rfl) hT), rfl, ?_⟩
        exact ⟨by rw [hrd]; rfl, hS⟩
    · skip
      try simp only [decide_eq_true_eq, decide_eq_false_iff_not, Bool.not_eq_true', Bool.not_eq_false', Bool.not_true, Bool.not_false] at hc2
      refine W_reg rfl (fun K hK => ?_)
      refine sv hF (v_assign rfl) rfl ?_; clear hF a; intro a hF
      refine WL_nil (hK _ _ ?_)
      clear hK K
      replace hF := hF.sub _ (c_ 8 rfl (c_ 9 rfl (c_ 3 rfl (c_ 2 rfl (n_)))))
      refine W_seq ?_
      refine W_sr rfl (fun K hK => ?_)
      refine sv hF (v_move rfl) rfl ?_; clear hF a; intro a hF
      refine sv hF (v_not rfl) rfl ?_; clear hF a; intro a hF
      refine WL_nil (hK _ _ ?_)
      clear hK K
      refine W_ifT hF rfl ?_
      have hrd : rd f = none := hrd0.trans (rdS_6.trans (by unfold rdP; rw [if_neg (by rintro ⟨⟨h1, h2⟩, h3, h4, h5⟩; first | omega | (subst h1; simp_all))]))
      refine W_sr rfl (fun K hK => ?_)
      refine sv hF (v_build (cs := nmz.cells.toArray) rfl (by kernel_rfl)) rfl ?_; clear hF a; intro a hF
      refine s_storeN (D := FDx) (B := B) hF (by kernel_rfl) rfl rfl (rfl) (by rfl) hT hS.inv ?_; intro w' hm hI' hrc'
      replace hs := hs.mb hm (by simp; omega)
      replace hn := hn.mb hm (by simp; omega)
      replace hS := hS.mb hm (fun k h => by cases h; exact hT.low)
      replace hT := hrc'
      clear hm hI' hrc'
      refine sv hF (v_assign rfl) rfl ?_; clear hF a; intro a hF
      refine WL_nil (hK _ _ ?_)
      clear hK K
      refine W_ret ?_
      refine ⟨_, _, _, _, hF, rfl, (ld_rec Tryd.underlying24 rfl (by kernel_rfl) hT), rfl, ?_⟩
      exact ⟨by rw [hrd]; rfl, hS⟩

theorem Read_ok (B : Nat) (f : List UInt8) (w : World) (hI : Inv FDx B w) (hfl : f.length ≤ 1000) : Ret Tryd.prog 10 [.string (str f)] w fun v w' => v = .tuple #[.agg ((rd f).getD nmz).cells.toArray, .bool (rd f).isSome] ∧ St FDx B w w' := by
  cases hc : cutP (bareOf f) with
  | none => exact Read_none B f w hI hfl hc
  | some x =>
    obtain ⟨o, s⟩ := x
    by_cases h4 : s.length = 4
    · match s, h4 with
      | [c, y, kb, ib], _ => exact Read_data B f o c y kb ib w hI hfl hc
    · by_cases h6 : s.length = 6
      · match s, h6 with
        | [c, y, z, kb, mb, ib], _ => exact Read_par B f o c y z kb mb ib w hI hfl hc
      · exact Read_oth B f o s (fun e => h4 (by rw [e]; rfl)) h4 h6 w hI hfl hc

end Go.Proofs.YtkoiolamnnmokaaDoor
