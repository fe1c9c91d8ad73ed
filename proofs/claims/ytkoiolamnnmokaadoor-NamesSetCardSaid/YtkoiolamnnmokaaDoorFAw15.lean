/- What the statements of layer 15 call first. -/
import Derived.Test.YtkoiolamnnmokaaDoorFNames3
import Derived.Test.YtkoiolamnnmokaaDoorFNames4
import Derived.Test.YtkoiolamnnmokaaDoorFRef15b
import Derived.Test.YtkoiolamnnmokaaDoorFRef15c
set_option linter.unusedVariables false
set_option linter.unusedSimpArgs false
namespace Go.Proofs.YtkoiolamnnmokaaDoor
open Go Go.Gam


namespace FxFAw15
theorem en10 : Ent Tryd.prog 10 := ent Tryd.func10 (by kernel_rfl) (by kernel_rfl)
theorem en14 : Ent Tryd.prog 14 := ent Tryd.func14 (by kernel_rfl) (by kernel_rfl)
theorem en17 : Ent Tryd.prog 17 := ent Tryd.func17 (by kernel_rfl) (by kernel_rfl)
theorem en23 : Ent Tryd.prog 23 := ent Tryd.func23 (by kernel_rfl) (by kernel_rfl)
theorem fa24_0 : FieldFact Tryd.prog 24 0 0 := ff_of (sz := 0) Tryd.underlying24 (by kernel_rfl)
theorem fa24_1 : FieldFact Tryd.prog 24 1 1 := ff_of (sz := 0) Tryd.underlying24 (by kernel_rfl)
theorem fa24_2 : FieldFact Tryd.prog 24 2 2 := ff_of (sz := 0) Tryd.underlying24 (by kernel_rfl)
theorem fa24_3 : FieldFact Tryd.prog 24 3 3 := ff_of (sz := 0) Tryd.underlying24 (by kernel_rfl)
theorem fa24_4 : FieldFact Tryd.prog 24 4 4 := ff_of (sz := 0) Tryd.underlying24 (by kernel_rfl)
theorem fa24_5 : FieldFact Tryd.prog 24 5 5 := ff_of (sz := 0) Tryd.underlying24 (by kernel_rfl)
theorem fa24_6 : FieldFact Tryd.prog 24 6 6 := ff_of (sz := 0) Tryd.underlying24 (by kernel_rfl)
theorem fa24_7 : FieldFact Tryd.prog 24 7 7 := ff_of (sz := 0) Tryd.underlying24 (by kernel_rfl)
theorem fa27_0 : FieldFact Tryd.prog 27 0 0 := ff_of (sz := 0) Tryd.underlying27 (by kernel_rfl)
theorem fa27_1 : FieldFact Tryd.prog 27 1 1 := ff_of (sz := 0) Tryd.underlying27 (by kernel_rfl)
theorem fa27_2 : FieldFact Tryd.prog 27 2 2 := ff_of (sz := 0) Tryd.underlying27 (by kernel_rfl)
theorem fa27_3 : FieldFact Tryd.prog 27 3 3 := ff_of (sz := 0) Tryd.underlying27 (by kernel_rfl)
theorem fa27_4 : FieldFact Tryd.prog 27 4 4 := ff_of (sz := 0) Tryd.underlying27 (by kernel_rfl)
theorem fa27_5 : FieldFact Tryd.prog 27 5 5 := ff_of (sz := 0) Tryd.underlying27 (by kernel_rfl)
theorem fa27_6 : FieldFact Tryd.prog 27 6 6 := ff_of (sz := 0) Tryd.underlying27 (by kernel_rfl)
theorem fa27_7 : FieldFact Tryd.prog 27 7 7 := ff_of (sz := 0) Tryd.underlying27 (by kernel_rfl)
theorem sc3 : Scalar Tryd.prog 3 := ⟨_, Tryd.underlying3, by simp, by simp⟩
theorem sc4 : Scalar Tryd.prog 4 := ⟨_, Tryd.underlying4, by simp, by simp⟩
theorem sc5 : Scalar Tryd.prog 5 := ⟨_, Tryd.underlying5, by simp, by simp⟩
theorem sc9 : Scalar Tryd.prog 9 := ⟨_, Tryd.underlying9, by simp, by simp⟩
end FxFAw15
open FxFAw15

theorem aw15_rd : rd [97, 46, 112, 106, 118, 50, 49, 48, 126] = some ⟨[97], 2, 0, [106, 118], 2, 1, 0, true⟩ := by kernel_rfl

set_option maxRecDepth 100000 in
set_option maxHeartbeats 1000000 in
theorem aw15_ok (B : Nat) (w : World) (hI : Inv FDx B w) : Ret Tryd.prog 9 [] w fun v w' => v = .bool true ∧ St FDx B w w' := by
  refine enter 59 [] 0 Tryd.func9 rfl rfl rfl rfl rfl ?_; intro a hF
  have hS := St.refl hI
  refine W_sr rfl (fun K hK => ?_)
  refine sv hF (v_assign rfl) rfl ?_; clear hF a; intro a hF
  refine WL_nil (hK _ _ ?_)
  clear hK K
  refine W_sr rfl (fun K hK => ?_)
  refine sv hF (v_build (cs := #[.int .i64 1, .int .i64 2, .int .i64 1]) rfl (by kernel_rfl)) rfl ?_; clear hF a; intro a hF
  refine sc hF rfl rfl rfl en14 rfl (Shard_ok B [97] 1 2 1 0 _ hS.inv) ?_; clear hF a; intro v w' a hv hF
  obtain ⟨rfl, hS'⟩ := hv
  replace hS := hS.trans hS'
  clear hS'
  rw [show shardR [97] 1 2 1 0 = ([97, 46, 100, 106, 50, 48], 0) by decide +kernel] at hF
  refine sv hF (v_move rfl) rfl ?_; clear hF a; intro a hF
  refine sv hF (v_ext rfl rfl) rfl ?_; clear hF a; intro a hF
  refine sv hF (v_ext rfl rfl) rfl ?_; clear hF a; intro a hF
  refine sv hF (v_assign rfl) rfl ?_; clear hF a; intro a hF
  refine sv hF (v_assign rfl) rfl ?_; clear hF a; intro a hF
  refine WL_nil (hK _ _ ?_)
  clear hK K
  replace hF := hF.sub _ (c_ 2 rfl (c_ 1 rfl (c_ 0 rfl (n_))))
  refine W_sr rfl (fun K hK => ?_)
  refine sv hF (v_build (cs := #[.int .i64 1, .int .i64 2, .int .i64 1]) rfl (by kernel_rfl)) rfl ?_; clear hF a; intro a hF
  refine sc hF rfl rfl rfl en14 rfl (Shard_ok B [97] 1 2 1 2 _ hS.inv) ?_; clear hF a; intro v w' a hv hF
  obtain ⟨rfl, hS'⟩ := hv
  replace hS := hS.trans hS'
  clear hS'
  rw [show shardR [97] 1 2 1 2 = ([97, 46, 112, 106, 118, 50, 49, 48], 0) by decide +kernel] at hF
  refine sv hF (v_move rfl) rfl ?_; clear hF a; intro a hF
  refine sv hF (v_ext rfl rfl) rfl ?_; clear hF a; intro a hF
  refine sv hF (v_ext rfl rfl) rfl ?_; clear hF a; intro a hF
  refine sv hF (v_assign rfl) rfl ?_; clear hF a; intro a hF
  refine sv hF (v_assign rfl) rfl ?_; clear hF a; intro a hF
  refine WL_nil (hK _ _ ?_)
  clear hK K
  replace hF := hF.sub _ (c_ 4 rfl (c_ 3 rfl (c_ 2 rfl (c_ 1 rfl (c_ 0 rfl (n_))))))
  refine W_sr rfl (fun K hK => ?_)
  refine sc hF rfl rfl rfl en10 rfl (Read_ok B [97, 46, 112, 106, 118, 50, 49, 48, 126] _ hS.inv (by decide)) ?_; clear hF a; intro v w' a hv hF
  obtain ⟨rfl, hS'⟩ := hv
  replace hS := hS.trans hS'
  clear hS'
  rw [aw15_rd] at hF
  refine sv hF (v_move rfl) rfl ?_; clear hF a; intro a hF
  refine sv hF (v_ext rfl rfl) rfl ?_; clear hF a; intro a hF
  refine sv hF ((v_ext rfl rfl).as (congrArg Value.bool (rfl))) rfl ?_; clear hF a; intro a hF
  have hs0 := hS.ext.size
  refine s_allocN (D := FDx) (B := B) (z := .agg nmz.cells.toArray) hF (by kernel_rfl) (by decide) hS.inv rfl ?_; clear hF a; intro gn w' a hm hI' hn hF
  replace hS := hS.mb0 hm
  clear hm hI'
  replace hn := hn.le hs0
  clear hs0
  refine s_storeN (D := FDx) (B := B) hF (by kernel_rfl) rfl rfl (rfl) (by rfl) hn hS.inv ?_; intro w' hm hI' hrc'
  replace hS := hS.mb hm (fun k h => by cases h; exact hn.low)
  replace hn := hrc'
  clear hm hI' hrc'
  refine sv hF (v_assign rfl) rfl ?_; clear hF a; intro a hF
  refine WL_nil (hK _ _ ?_)
  clear hK K
  replace hF := hF.sub _ (c_ 6 rfl (c_ 5 rfl (c_ 4 rfl (c_ 3 rfl (c_ 2 rfl (c_ 1 rfl (c_ 0 rfl (n_))))))))
  refine W_sr rfl (fun K hK => ?_)
  refine sv hF (v_move rfl) rfl ?_; clear hF a; intro a hF
  refine sv hF ((v_eql rfl rfl).as (congrArg Value.bool (decide_eq_true (rfl)))) rfl ?_; clear hF a; intro a hF
  refine sv hF (v_move rfl) rfl ?_; clear hF a; intro a hF
  refine svg hF rfl ?_
  refine sv hF (v_move rfl) rfl ?_; clear hF a; intro a hF
  refine svg hF rfl ?_
  refine sv hF ((v_eqlT (b := [97, 46, 100, 106, 50, 48]) rfl rfl).as (congrArg Value.bool (decide_eq_true (rfl)))) rfl ?_; clear hF a; intro a hF
  refine sv hF (v_pickT rfl rfl) rfl ?_; clear hF a; intro a hF
  refine sv hF (v_move rfl) rfl ?_; clear hF a; intro a hF
  refine svg hF rfl ?_
  refine sv hF (v_move rfl) rfl ?_; clear hF a; intro a hF
  refine svg hF rfl ?_
  refine sv hF ((v_eql rfl rfl).as (congrArg Value.bool (decide_eq_true (rfl)))) rfl ?_; clear hF a; intro a hF
  refine sv hF (v_pickT rfl rfl) rfl ?_; clear hF a; intro a hF
  refine sv hF (v_move rfl) rfl ?_; clear hF a; intro a hF
  refine svg hF rfl ?_
  refine sv hF (v_move rfl) rfl ?_; clear hF a; intro a hF
  refine svg hF rfl ?_
  refine sv hF ((v_eqlT (b := [97, 46, 112, 106, 118, 50, 49, 48]) rfl rfl).as (congrArg Value.bool (decide_eq_true (rfl)))) rfl ?_; clear hF a; intro a hF
  refine sv hF (v_pickT rfl rfl) rfl ?_; clear hF a; intro a hF
  refine sv hF (v_move rfl) rfl ?_; clear hF a; intro a hF
  refine svg hF rfl ?_
  refine sv hF (v_move rfl) rfl ?_; clear hF a; intro a hF
  refine sv hF (v_pickT rfl rfl) rfl ?_; clear hF a; intro a hF
  refine sv hF (v_move rfl) rfl ?_; clear hF a; intro a hF
  refine svg hF rfl ?_
  refine sv hF (v_fieldAddr fa24_3 rfl) rfl ?_; clear hF a; intro a hF
  refine svg hF rfl ?_
  refine sv hF (v_load sc9 rfl (hn.blk.at 3 rfl)) rfl ?_; clear hF a; intro a hF
  refine svg hF rfl ?_
  refine sv hF ((v_eqlT (b := [106, 118]) rfl rfl).as (congrArg Value.bool (decide_eq_true (rfl)))) rfl ?_; clear hF a; intro a hF
  refine sv hF (v_pickT rfl rfl) rfl ?_; clear hF a; intro a hF
  refine sv hF (v_move rfl) rfl ?_; clear hF a; intro a hF
  refine svg hF rfl ?_
  refine sv hF (v_fieldAddr fa24_7 rfl) rfl ?_; clear hF a; intro a hF
  refine svg hF rfl ?_
  refine sv hF ((v_load sc4 rfl (hn.blk.at 7 rfl)).as (congrArg Value.bool (rfl))) rfl ?_; clear hF a; intro a hF
  refine sv hF (v_pickT rfl rfl) rfl ?_; clear hF a; intro a hF
  refine sv hF (v_move rfl) rfl ?_; clear hF a; intro a hF
  refine svg hF rfl ?_
  refine sv hF (v_fieldAddr fa24_1 rfl) rfl ?_; clear hF a; intro a hF
  refine svg hF rfl ?_
  refine sv hF (v_load sc3 rfl (hn.blk.at 1 rfl)) rfl ?_; clear hF a; intro a hF
  refine svg hF rfl ?_
  refine sv hF ((v_eql rfl rfl).as (congrArg Value.bool (decide_eq_true (rfl)))) rfl ?_; clear hF a; intro a hF
  refine sv hF (v_pickT rfl rfl) rfl ?_; clear hF a; intro a hF
  refine sv hF (v_move rfl) rfl ?_; clear hF a; intro a hF
  refine svg hF rfl ?_
  refine sc hF rfl rfl rfl en23 rfl (May_ok B [97, 98, 99] _ hS.inv) ?_; clear hF a; intro v w' a hv hF
  obtain ⟨rfl, hS'⟩ := hv
  replace hn := hn.st hS'
  replace hS := hS.trans hS'
  clear hS'
  rw [show mayS [97, 98, 99] = true by decide] at hF
  refine sv hF (v_pickT rfl rfl) rfl ?_; clear hF a; intro a hF
  refine sv hF (v_move rfl) rfl ?_; clear hF a; intro a hF
  refine svg hF rfl ?_
  refine sc hF rfl rfl rfl en17 rfl (Temp_ok B [120] _ hS.inv (by decide)) ?_; clear hF a; intro v w' a hv hF
  obtain ⟨rfl, hS'⟩ := hv
  replace hn := hn.st hS'
  replace hS := hS.trans hS'
  clear hS'
  refine svg hF rfl ?_
  refine sv hF ((v_eqlT (b := [120, 126]) rfl rfl).as (congrArg Value.bool (decide_eq_true (rfl)))) rfl ?_; clear hF a; intro a hF
  refine sv hF (v_pickT rfl rfl) rfl ?_; clear hF a; intro a hF
  refine sv hF (v_assign rfl) rfl ?_; clear hF a; intro a hF
  refine WL_nil (hK _ _ ?_)
  clear hK K
  replace hF := hF.sub _ (c_ 0 rfl (n_))
  refine W_ret ?_
  refine ⟨_, _, hF, rfl, ?_⟩
  exact ⟨rfl, hS⟩

set_option maxRecDepth 100000 in
set_option maxHeartbeats 1000000 in
theorem same_ok (B : Nat) (nn : Nm) (w : World) (hI : Inv FDx B w) : Ret Tryd.prog 12 [.agg nn.cells.toArray, .agg nn.cells.toArray] w fun v w' => v = .bool true ∧ St FDx B w w' := by
  refine enter 59 [(0, .agg nn.cells.toArray), (1, .agg nn.cells.toArray)] 4 Tryd.func12 rfl rfl rfl rfl rfl ?_; intro a hF
  have hS := St.refl hI
  refine W_sr rfl (fun K hK => ?_)
  refine s_box (D := FDx) (B := B) hF rfl (by decide) hS.inv rfl ?_; clear hF a; intro w' a hm hb2 hsz hF
  replace hS := hS.mb0 hm
  clear hm
  refine s_box (D := FDx) (B := B) hF rfl (by decide) hS.inv rfl ?_; clear hF a; intro w' a hm hb3 hsz hF
  replace hb2 := hb2.mb hm (by simp)
  replace hS := hS.mb0 hm
  clear hm
  refine sv hF (v_assign rfl) rfl ?_; clear hF a; intro a hF
  refine WL_nil (hK _ _ ?_)
  clear hK K
  replace hF := hF.sub _ (c_ 4 rfl (c_ 3 rfl (c_ 2 rfl (n_))))
  refine W_sr rfl (fun K hK => ?_)
  refine sv hF (v_fieldAddr fa24_0 rfl) rfl ?_; clear hF a; intro a hF
  refine sv hF (v_load sc9 rfl (hb2.at 0 rfl)) rfl ?_; clear hF a; intro a hF
  refine sv hF (v_fieldAddr fa27_0 rfl) rfl ?_; clear hF a; intro a hF
  refine sv hF (v_load sc9 rfl (hb3.at 0 rfl)) rfl ?_; clear hF a; intro a hF
  refine sv hF ((v_eqlT rfl rfl).as (congrArg Value.bool (decide_eq_true (rfl)))) rfl ?_; clear hF a; intro a hF
  refine sv hF (v_move rfl) rfl ?_; clear hF a; intro a hF
  refine svg hF rfl ?_
  refine sv hF (v_fieldAddr fa24_1 rfl) rfl ?_; clear hF a; intro a hF
  refine svg hF rfl ?_
  refine sv hF (v_load sc3 rfl (hb2.at 1 rfl)) rfl ?_; clear hF a; intro a hF
  refine svg hF rfl ?_
  refine sv hF (v_fieldAddr fa27_1 rfl) rfl ?_; clear hF a; intro a hF
  refine svg hF rfl ?_
  refine sv hF (v_load sc3 rfl (hb3.at 1 rfl)) rfl ?_; clear hF a; intro a hF
  refine svg hF rfl ?_
  refine sv hF ((v_eql rfl rfl).as (congrArg Value.bool (decide_eq_true (rfl)))) rfl ?_; clear hF a; intro a hF
  refine sv hF (v_pickT rfl rfl) rfl ?_; clear hF a; intro a hF
  refine sv hF (v_move rfl) rfl ?_; clear hF a; intro a hF
  refine svg hF rfl ?_
  refine sv hF (v_fieldAddr fa24_2 rfl) rfl ?_; clear hF a; intro a hF
  refine svg hF rfl ?_
  refine sv hF (v_load sc5 rfl (hb2.at 2 rfl)) rfl ?_; clear hF a; intro a hF
  refine svg hF rfl ?_
  refine sv hF (v_fieldAddr fa27_2 rfl) rfl ?_; clear hF a; intro a hF
  refine svg hF rfl ?_
  refine sv hF (v_load sc5 rfl (hb3.at 2 rfl)) rfl ?_; clear hF a; intro a hF
  refine svg hF rfl ?_
  refine sv hF ((v_eql rfl rfl).as (congrArg Value.bool (decide_eq_true (rfl)))) rfl ?_; clear hF a; intro a hF
  refine sv hF (v_pickT rfl rfl) rfl ?_; clear hF a; intro a hF
  refine sv hF (v_move rfl) rfl ?_; clear hF a; intro a hF
  refine svg hF rfl ?_
  refine sv hF (v_fieldAddr fa24_3 rfl) rfl ?_; clear hF a; intro a hF
  refine svg hF rfl ?_
  refine sv hF (v_load sc9 rfl (hb2.at 3 rfl)) rfl ?_; clear hF a; intro a hF
  refine svg hF rfl ?_
  refine sv hF (v_fieldAddr fa27_3 rfl) rfl ?_; clear hF a; intro a hF
  refine svg hF rfl ?_
  refine sv hF (v_load sc9 rfl (hb3.at 3 rfl)) rfl ?_; clear hF a; intro a hF
  refine svg hF rfl ?_
  refine sv hF ((v_eqlT rfl rfl).as (congrArg Value.bool (decide_eq_true (rfl)))) rfl ?_; clear hF a; intro a hF
  refine sv hF (v_pickT rfl rfl) rfl ?_; clear hF a; intro a hF
  refine sv hF (v_move rfl) rfl ?_; clear hF a; intro a hF
  refine svg hF rfl ?_
  refine sv hF (v_fieldAddr fa24_4 rfl) rfl ?_; clear hF a; intro a hF
  refine svg hF rfl ?_
  refine sv hF (v_load sc3 rfl (hb2.at 4 rfl)) rfl ?_; clear hF a; intro a hF
  refine svg hF rfl ?_
  refine sv hF (v_fieldAddr fa27_4 rfl) rfl ?_; clear hF a; intro a hF
  refine svg hF rfl ?_
  refine sv hF (v_load sc3 rfl (hb3.at 4 rfl)) rfl ?_; clear hF a; intro a hF
  refine svg hF rfl ?_
  refine sv hF ((v_eql rfl rfl).as (congrArg Value.bool (decide_eq_true (rfl)))) rfl ?_; clear hF a; intro a hF
  refine sv hF (v_pickT rfl rfl) rfl ?_; clear hF a; intro a hF
  refine sv hF (v_move rfl) rfl ?_; clear hF a; intro a hF
  refine svg hF rfl ?_
  refine sv hF (v_fieldAddr fa24_5 rfl) rfl ?_; clear hF a; intro a hF
  refine svg hF rfl ?_
  refine sv hF (v_load sc3 rfl (hb2.at 5 rfl)) rfl ?_; clear hF a; intro a hF
  refine svg hF rfl ?_
  refine sv hF (v_fieldAddr fa27_5 rfl) rfl ?_; clear hF a; intro a hF
  refine svg hF rfl ?_
  refine sv hF (v_load sc3 rfl (hb3.at 5 rfl)) rfl ?_; clear hF a; intro a hF
  refine svg hF rfl ?_
  refine sv hF ((v_eql rfl rfl).as (congrArg Value.bool (decide_eq_true (rfl)))) rfl ?_; clear hF a; intro a hF
  refine sv hF (v_pickT rfl rfl) rfl ?_; clear hF a; intro a hF
  refine sv hF (v_move rfl) rfl ?_; clear hF a; intro a hF
  refine svg hF rfl ?_
  refine sv hF (v_fieldAddr fa24_6 rfl) rfl ?_; clear hF a; intro a hF
  refine svg hF rfl ?_
  refine sv hF (v_load sc3 rfl (hb2.at 6 rfl)) rfl ?_; clear hF a; intro a hF
  refine svg hF rfl ?_
  refine sv hF (v_fieldAddr fa27_6 rfl) rfl ?_; clear hF a; intro a hF
  refine svg hF rfl ?_
  refine sv hF (v_load sc3 rfl (hb3.at 6 rfl)) rfl ?_; clear hF a; intro a hF
  refine svg hF rfl ?_
  refine sv hF ((v_eql rfl rfl).as (congrArg Value.bool (decide_eq_true (rfl)))) rfl ?_; clear hF a; intro a hF
  refine sv hF (v_pickT rfl rfl) rfl ?_; clear hF a; intro a hF
  refine sv hF (v_move rfl) rfl ?_; clear hF a; intro a hF
  refine svg hF rfl ?_
  refine sv hF (v_fieldAddr fa24_7 rfl) rfl ?_; clear hF a; intro a hF
  refine svg hF rfl ?_
  refine sv hF (v_load sc4 rfl (hb2.at 7 rfl)) rfl ?_; clear hF a; intro a hF
  refine svg hF rfl ?_
  refine sv hF (v_fieldAddr fa27_7 rfl) rfl ?_; clear hF a; intro a hF
  refine svg hF rfl ?_
  refine sv hF (v_load sc4 rfl (hb3.at 7 rfl)) rfl ?_; clear hF a; intro a hF
  refine svg hF rfl ?_
  refine sv hF ((v_eqlB Tryd.underlying4 rfl rfl).as (congrArg Value.bool (decide_eq_true (rfl)))) rfl ?_; clear hF a; intro a hF
  refine sv hF (v_pickT rfl rfl) rfl ?_; clear hF a; intro a hF
  refine sv hF (v_assign rfl) rfl ?_; clear hF a; intro a hF
  refine WL_nil (hK _ _ ?_)
  clear hK K
  replace hF := hF.sub _ (c_ 4 rfl (n_))
  refine W_ret ?_
  refine ⟨_, _, hF, rfl, ?_⟩
  exact ⟨rfl, hS⟩

end Go.Proofs.YtkoiolamnnmokaaDoor
