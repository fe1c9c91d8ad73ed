/- Texts of the claim ProfileAny (part 10), put together in the order of their imports. -/
import Derived.Test.YtkoiolamnnmokaaGreatKProfileAny9
/- The walk of package profile: parity rows, one text for each profile. -/
set_option linter.unusedVariables false
set_option linter.unusedSimpArgs false
namespace Go.Proofs.YtkoiolamnnmokaaGreat
open Go Go.Gam


namespace FxFProf2
theorem en13 : Ent Tryz.prog 13 := ent Tryz.func13 (by kernel_rfl) (by kernel_rfl)
theorem en14 : Ent Tryz.prog 14 := ent Tryz.func14 (by kernel_rfl) (by kernel_rfl)
theorem en26 : Ent Tryz.prog 26 := ent Tryz.func26 (by kernel_rfl) (by kernel_rfl)
theorem en27 : Ent Tryz.prog 27 := ent Tryz.func27 (by kernel_rfl) (by kernel_rfl)
theorem en28 : Ent Tryz.prog 28 := ent Tryz.func28 (by kernel_rfl) (by kernel_rfl)
theorem en29 : Ent Tryz.prog 29 := ent Tryz.func29 (by kernel_rfl) (by kernel_rfl)
theorem en30 : Ent Tryz.prog 30 := ent Tryz.func30 (by kernel_rfl) (by kernel_rfl)
theorem ar65 : ArrOf Tryz.prog 65 6 := ar_of Tryz.underlying65 (by kernel_rfl)
theorem fa23_0 : FieldFact Tryz.prog 23 0 0 := ff_of (sz := 0) Tryz.underlying23 (by kernel_rfl)
theorem fa23_1 : FieldFact Tryz.prog 23 1 1 := ff_of (sz := 0) Tryz.underlying23 (by kernel_rfl)
theorem fa23_2 : FieldFact Tryz.prog 23 2 2 := ff_of (sz := 0) Tryz.underlying23 (by kernel_rfl)
theorem hmix : Tryz.prog.follows .mixedOrders = true := by kernel_rfl
theorem sc3 : Scalar Tryz.prog 3 := ⟨_, Tryz.underlying3, by simp, by simp⟩
theorem sc64 : Scalar Tryz.prog 64 := ⟨_, Tryz.underlying64, by simp, by simp⟩
end FxFProf2
open FxFProf2

theorem PMay_ok (B : Nat) (p k m : Int) (w : World) (hI : Inv FDx B w) : Ret Tryz.prog 14 [.agg #[.int .i64 p, .int .i64 k, .int .i64 m]] w fun v w' => v = .bool (mayP p k m) ∧ St FDx B w w' := by
 by_cases h : 1 ≤ p ∧ p ≤ 6
 ·
  exact PMay_in B p k m w hI h
 ·
  exact PMay_out B p k m w hI h

set_option maxRecDepth 100000 in
set_option maxHeartbeats 1000000 in
theorem PPar_1 (B kn mn : Nat) (w : World) (hI : Inv FDx B w) (h1 : 1 ≤ kn ∧ kn ≤ 8) (h2 : 1 ≤ mn ∧ mn ≤ 4) : Ret Tryz.prog 11 [.agg #[.int .i64 1, .int .i64 (kn : Int), .int .i64 (mn : Int)]] w fun v w' => ∃ sa cap, v = .tuple #[.slice sa mn cap, .int .i64 0] ∧ Mat FDx B w'.heap.size w' sa cap (tab mn kn (prT 1 kn mn)) ∧ St FDx B w w' := by
 refine enter2 24 [(0, .agg #[.int .i64 1, .int .i64 (kn : Int), .int .i64 (mn : Int)])] 2 3 Tryz.func11 rfl rfl rfl rfl rfl ?_; intro a hF
 have hS := St.refl hI
 refine W_sr rfl (fun K hK => ?_)
 refine s_box (D := FDx) (B := B) hF rfl (by decide) hS.inv rfl ?_; clear hF a; intro w' a hm hbx hsz hF
 replace hS := hS.mb0 hm
 clear hm
 refine sv2 hF (v_assign rfl) (v_assign rfl) rfl rfl ?_; clear hF a; intro a hF
 refine WL_nil (hK _ _ ?_)
 clear hK K
 replace hF := hF.sub _ (c_ 3 rfl (c_ 2 rfl (c_ 1 rfl (n_))))
 refine W_seq ?_
 refine W_sr rfl (fun K hK => ?_)
 refine sv hF (v_loadN Tryz.underlying23 rfl (by kernel_rfl) rfl hbx) rfl ?_; clear hF a; intro a hF
 refine sc hF rfl rfl rfl en14 rfl (PMay_ok B 1 kn mn _ hS.inv) ?_; clear hF a; intro v w' a hv hF
 obtain ⟨rfl, hS'⟩ := hv
 replace hbx := hbx.st (by decide) hS'
 replace hS := hS.trans hS'
 clear hS'
 rw [mayP_is (by omega) h1 h2 (by omega)] at hF
 refine sv hF (v_not rfl) rfl ?_; clear hF a; intro a hF
 refine WL_nil (hK _ _ ?_)
 clear hK K
 replace hF := hF.sub _ (c_ 7 rfl (c_ 3 rfl (c_ 2 rfl (c_ 1 rfl (n_)))))
 refine W_ifF hF rfl ?_
 refine W_skip ?_
 refine W_sr rfl (fun K hK => ?_)
 refine sv hF (v_build (cs := (fns 26 27 28 29 30 30).toArray) rfl (by kernel_rfl)) rfl ?_; clear hF a; intro a hF
 have hs0 := hS.ext.size
 refine s_allocN (D := FDx) (B := B) (z := .agg (#[.nilFunc, .nilFunc, .nilFunc, .nilFunc, .nilFunc, .nilFunc])) hF (by kernel_rfl) (by decide) hS.inv rfl ?_; clear hF a; intro gT w' a hm hI' hT hF
 replace hbx := hbx.mb hm (by simp)
 replace hS := hS.mb0 hm
 clear hm hI'
 replace hT := hT.le hs0
 clear hs0
 refine s_storeN (D := FDx) (B := B) hF (by kernel_rfl) rfl rfl (rfl) (by rfl) hT hS.inv ?_; intro w' hm hI' hrc'
 replace hbx := hbx.mb hm (by intro e; cases e; exact absurd hT.blk (by intro e2; have := hbx.symm.trans e2; cases this))
 replace hS := hS.mb hm (fun k h => by cases h; exact hT.low)
 replace hT := hrc'
 clear hm hI' hrc'
 refine WL_nil (hK _ _ ?_)
 clear hK K
 replace hF := hF.sub _ (c_ 4 rfl (c_ 3 rfl (c_ 2 rfl (c_ 1 rfl (n_)))))
 refine W_sd (m := 17) rfl hmix hS.inv (fun K hK w1 hS' hh => ?_)
 replace hbx := hbx.st (by decide) hS'
 replace hT := hT.st hS'
 replace hS := hS.trans hS'
 clear hS'
 clear hh
 refine a_v (i := 0) rfl (by kernel_rfl) hF (fun w2 hx => v_fieldAddr fa23_0 rfl) rfl ?_; clear hF a; intro a hF
 refine a_v (i := 1) rfl (by kernel_rfl) hF (fun w2 hx => v_load sc3 rfl (hbx.ld (by decide) hx 0 rfl)) rfl ?_; clear hF a; intro a hF
 refine a_v (i := 2) rfl (by kernel_rfl) hF (fun w2 hx => (v_subI rfl rfl (by omega)).as (show Value.int .i64 (1 - 1) = .int .i64 ((0 : Nat) : Int) from rfl)) rfl ?_; clear hF a; intro a hF
 refine a_v (i := 3) rfl (by kernel_rfl) hF (fun w2 hx => v_ixA ar65 rfl rfl (by omega) (by omega)) rfl ?_; clear hF a; intro a hF
 refine a_v (i := 4) rfl (by kernel_rfl) hF (fun w2 hx => v_load sc64 rfl ((hT.kc 0 rfl).ld hx)) rfl ?_; clear hF a; intro a hF
 refine a_v (i := 5) rfl (by kernel_rfl) hF (fun w2 hx => v_fieldAddr fa23_0 rfl) rfl ?_; clear hF a; intro a hF
 refine a_v (i := 6) rfl (by kernel_rfl) hF (fun w2 hx => v_load sc3 rfl (hbx.ld (by decide) hx 0 rfl)) rfl ?_; clear hF a; intro a hF
 refine a_v (i := 8) rfl (by kernel_rfl) hF (fun w2 hx => v_fieldAddr fa23_1 rfl) rfl ?_; clear hF a; intro a hF
 refine a_v (i := 9) rfl (by kernel_rfl) hF (fun w2 hx => v_load sc3 rfl (hbx.ld (by decide) hx 1 rfl)) rfl ?_; clear hF a; intro a hF
 refine a_v (i := 10) rfl (by kernel_rfl) hF (fun w2 hx => v_fieldAddr fa23_2 rfl) rfl ?_; clear hF a; intro a hF
 refine a_v (i := 11) rfl (by kernel_rfl) hF (fun w2 hx => v_load sc3 rfl (hbx.ld (by decide) hx 2 rfl)) rfl ?_; clear hF a; intro a hF
 refine a_e (i := 7) rfl (by kernel_rfl) ?_
 refine sc hF rfl rfl rfl en13 rfl (PField_in B 1 _ hS.inv (by omega)) ?_; clear hF a; intro v w' a hv hF
 obtain ⟨fv, hfv⟩ : ∃ x, x = v := ⟨_, rfl⟩
 subst hfv
 obtain ⟨hf, hS'⟩ := hv
 replace hf : Fo FDx B _ fv (some (8, 285)) := hf
 refine WL_nil ⟨hS'.ext, ?_⟩
 replace hbx := hbx.st (by decide) hS'
 replace hT := hT.st hS'
 replace hS := hS.trans hS'
 clear hS'
 refine a_e (i := 12) rfl (by kernel_rfl) ?_
 refine sc hF rfl rfl rfl en26 rfl (Parity_fit B 8 285 prm_285 fv kn mn _ hS.inv hf (fitB_ok rfl (by omega) (by omega) (by omega))) ?_; clear hF a; intro v w' a hv hF
 obtain ⟨sX, cX, rfl, hX, hS'⟩ := hv
 refine WL_nil ⟨hS'.ext, ?_⟩
 replace hbx := hbx.st (by decide) hS'
 replace hT := hT.st hS'
 replace hf := hf.st hS'
 replace hS := hS.trans hS'
 clear hS'
 refine a_v (i := 13) rfl (by kernel_rfl) hF (fun w2 hx => v_ext rfl rfl) rfl ?_; clear hF a; intro a hF
 refine a_v (i := 14) rfl (by kernel_rfl) hF (fun w2 hx => v_ext rfl rfl) rfl ?_; clear hF a; intro a hF
 refine a_v (i := 15) rfl (by kernel_rfl) hF (fun w2 hx => v_assign rfl) rfl ?_; clear hF a; intro a hF
 refine a_v (i := 16) rfl (by kernel_rfl) hF (fun w2 hx => v_assign rfl) rfl ?_; clear hF a; intro a hF
 refine a_done (by kernel_rfl) (hK _ _ ?_)
 clear hK K
 replace hF := hF.sub _ (c_ 3 rfl (c_ 2 rfl (n_)))
 refine W_ret ?_
 refine ⟨_, _, _, hF, rfl, rfl, ?_⟩
 exact ⟨_, _, by first | rfl | (rw [tab_length]; rfl), by unfold prT; simpa using hX, hS⟩

set_option maxRecDepth 100000 in
set_option maxHeartbeats 1000000 in
theorem PPar_2 (B kn mn : Nat) (w : World) (hI : Inv FDx B w) (h1 : 1 ≤ kn ∧ kn ≤ 8) (h2 : 1 ≤ mn ∧ mn ≤ 4) : Ret Tryz.prog 11 [.agg #[.int .i64 2, .int .i64 (kn : Int), .int .i64 (mn : Int)]] w fun v w' => ∃ sa cap, v = .tuple #[.slice sa mn cap, .int .i64 0] ∧ Mat FDx B w'.heap.size w' sa cap (tab mn kn (prT 2 kn mn)) ∧ St FDx B w w' := by
 refine enter2 24 [(0, .agg #[.int .i64 2, .int .i64 (kn : Int), .int .i64 (mn : Int)])] 2 3 Tryz.func11 rfl rfl rfl rfl rfl ?_; intro a hF
 have hS := St.refl hI
 refine W_sr rfl (fun K hK => ?_)
 refine s_box (D := FDx) (B := B) hF rfl (by decide) hS.inv rfl ?_; clear hF a; intro w' a hm hbx hsz hF
 replace hS := hS.mb0 hm
 clear hm
 refine sv2 hF (v_assign rfl) (v_assign rfl) rfl rfl ?_; clear hF a; intro a hF
 refine WL_nil (hK _ _ ?_)
 clear hK K
 replace hF := hF.sub _ (c_ 3 rfl (c_ 2 rfl (c_ 1 rfl (n_))))
 refine W_seq ?_
 refine W_sr rfl (fun K hK => ?_)
 refine sv hF (v_loadN Tryz.underlying23 rfl (by kernel_rfl) rfl hbx) rfl ?_; clear hF a; intro a hF
 refine sc hF rfl rfl rfl en14 rfl (PMay_ok B 2 kn mn _ hS.inv) ?_; clear hF a; intro v w' a hv hF
 obtain ⟨rfl, hS'⟩ := hv
 replace hbx := hbx.st (by decide) hS'
 replace hS := hS.trans hS'
 clear hS'
 rw [mayP_is (by omega) h1 h2 (by omega)] at hF
 refine sv hF (v_not rfl) rfl ?_; clear hF a; intro a hF
 refine WL_nil (hK _ _ ?_)
 clear hK K
 replace hF := hF.sub _ (c_ 7 rfl (c_ 3 rfl (c_ 2 rfl (c_ 1 rfl (n_)))))
 refine W_ifF hF rfl ?_
 refine W_skip ?_
 refine W_sr rfl (fun K hK => ?_)
 refine sv hF (v_build (cs := (fns 26 27 28 29 30 30).toArray) rfl (by kernel_rfl)) rfl ?_; clear hF a; intro a hF
 have hs0 := hS.ext.size
 refine s_allocN (D := FDx) (B := B) (z := .agg (#[.nilFunc, .nilFunc, .nilFunc, .nilFunc, .nilFunc, .nilFunc])) hF (by kernel_rfl) (by decide) hS.inv rfl ?_; clear hF a; intro gT w' a hm hI' hT hF
 replace hbx := hbx.mb hm (by simp)
 replace hS := hS.mb0 hm
 clear hm hI'
 replace hT := hT.le hs0
 clear hs0
 refine s_storeN (D := FDx) (B := B) hF (by kernel_rfl) rfl rfl (rfl) (by rfl) hT hS.inv ?_; intro w' hm hI' hrc'
 replace hbx := hbx.mb hm (by intro e; cases e; exact absurd hT.blk (by intro e2; have := hbx.symm.trans e2; cases this))
 replace hS := hS.mb hm (fun k h => by cases h; exact hT.low)
 replace hT := hrc'
 clear hm hI' hrc'
 refine WL_nil (hK _ _ ?_)
 clear hK K
 replace hF := hF.sub _ (c_ 4 rfl (c_ 3 rfl (c_ 2 rfl (c_ 1 rfl (n_)))))
 refine W_sd (m := 17) rfl hmix hS.inv (fun K hK w1 hS' hh => ?_)
 replace hbx := hbx.st (by decide) hS'
 replace hT := hT.st hS'
 replace hS := hS.trans hS'
 clear hS'
 clear hh
 refine a_v (i := 0) rfl (by kernel_rfl) hF (fun w2 hx => v_fieldAddr fa23_0 rfl) rfl ?_; clear hF a; intro a hF
 refine a_v (i := 1) rfl (by kernel_rfl) hF (fun w2 hx => v_load sc3 rfl (hbx.ld (by decide) hx 0 rfl)) rfl ?_; clear hF a; intro a hF
 refine a_v (i := 2) rfl (by kernel_rfl) hF (fun w2 hx => (v_subI rfl rfl (by omega)).as (show Value.int .i64 (2 - 1) = .int .i64 ((1 : Nat) : Int) from rfl)) rfl ?_; clear hF a; intro a hF
 refine a_v (i := 3) rfl (by kernel_rfl) hF (fun w2 hx => v_ixA ar65 rfl rfl (by omega) (by omega)) rfl ?_; clear hF a; intro a hF
 refine a_v (i := 4) rfl (by kernel_rfl) hF (fun w2 hx => v_load sc64 rfl ((hT.kc 1 rfl).ld hx)) rfl ?_; clear hF a; intro a hF
 refine a_v (i := 5) rfl (by kernel_rfl) hF (fun w2 hx => v_fieldAddr fa23_0 rfl) rfl ?_; clear hF a; intro a hF
 refine a_v (i := 6) rfl (by kernel_rfl) hF (fun w2 hx => v_load sc3 rfl (hbx.ld (by decide) hx 0 rfl)) rfl ?_; clear hF a; intro a hF
 refine a_v (i := 8) rfl (by kernel_rfl) hF (fun w2 hx => v_fieldAddr fa23_1 rfl) rfl ?_; clear hF a; intro a hF
 refine a_v (i := 9) rfl (by kernel_rfl) hF (fun w2 hx => v_load sc3 rfl (hbx.ld (by decide) hx 1 rfl)) rfl ?_; clear hF a; intro a hF
 refine a_v (i := 10) rfl (by kernel_rfl) hF (fun w2 hx => v_fieldAddr fa23_2 rfl) rfl ?_; clear hF a; intro a hF
 refine a_v (i := 11) rfl (by kernel_rfl) hF (fun w2 hx => v_load sc3 rfl (hbx.ld (by decide) hx 2 rfl)) rfl ?_; clear hF a; intro a hF
 refine a_e (i := 7) rfl (by kernel_rfl) ?_
 refine sc hF rfl rfl rfl en13 rfl (PField_in B 2 _ hS.inv (by omega)) ?_; clear hF a; intro v w' a hv hF
 obtain ⟨fv, hfv⟩ : ∃ x, x = v := ⟨_, rfl⟩
 subst hfv
 obtain ⟨hf, hS'⟩ := hv
 replace hf : Fo FDx B _ fv (some (16, 69643)) := hf
 refine WL_nil ⟨hS'.ext, ?_⟩
 replace hbx := hbx.st (by decide) hS'
 replace hT := hT.st hS'
 replace hS := hS.trans hS'
 clear hS'
 refine a_e (i := 12) rfl (by kernel_rfl) ?_
 refine sc hF rfl rfl rfl en27 rfl (Orig_ok B 16 69643 prm_69643 fv (kn : Int) (mn : Int) _ hS.inv hf) ?_; clear hF a; intro v w' a hv hF
 obtain ⟨obX, uX, rfl, hoX, hS'⟩ := hv
 rw [(origM_is prm_69643 (k := kn) (m := mn) (by omega) (by omega) (by omega))] at hoX hF
 try simp only [Option.getD_some, Option.getD_none] at hoX
 obtain ⟨sX, cX, rfl, hX⟩ := hoX.mat (by decide) (Nat.zero_le _)
 clear hoX
 refine WL_nil ⟨hS'.ext, ?_⟩
 replace hbx := hbx.st (by decide) hS'
 replace hT := hT.st hS'
 replace hf := hf.st hS'
 replace hS := hS.trans hS'
 clear hS'
 refine a_v (i := 13) rfl (by kernel_rfl) hF (fun w2 hx => v_ext rfl rfl) rfl ?_; clear hF a; intro a hF
 refine a_v (i := 14) rfl (by kernel_rfl) hF (fun w2 hx => v_ext rfl rfl) rfl ?_; clear hF a; intro a hF
 refine a_v (i := 15) rfl (by kernel_rfl) hF (fun w2 hx => v_assign rfl) rfl ?_; clear hF a; intro a hF
 refine a_v (i := 16) rfl (by kernel_rfl) hF (fun w2 hx => v_assign rfl) rfl ?_; clear hF a; intro a hF
 refine a_done (by kernel_rfl) (hK _ _ ?_)
 clear hK K
 replace hF := hF.sub _ (c_ 3 rfl (c_ 2 rfl (n_)))
 refine W_ret ?_
 refine ⟨_, _, _, hF, rfl, rfl, ?_⟩
 exact ⟨_, _, by first | rfl | (rw [tab_length]; rfl), by unfold prT; simpa using hX, hS⟩

set_option maxRecDepth 100000 in
set_option maxHeartbeats 1000000 in
theorem PPar_3 (B kn mn : Nat) (w : World) (hI : Inv FDx B w) (h1 : 1 ≤ kn ∧ kn ≤ 8) (h2 : 1 ≤ mn ∧ mn ≤ 4) (h3 : mn ≤ 3) : Ret Tryz.prog 11 [.agg #[.int .i64 3, .int .i64 (kn : Int), .int .i64 (mn : Int)]] w fun v w' => ∃ sa cap, v = .tuple #[.slice sa mn cap, .int .i64 0] ∧ Mat FDx B w'.heap.size w' sa cap (tab mn kn (prT 3 kn mn)) ∧ St FDx B w w' := by
 refine enter2 24 [(0, .agg #[.int .i64 3, .int .i64 (kn : Int), .int .i64 (mn : Int)])] 2 3 Tryz.func11 rfl rfl rfl rfl rfl ?_; intro a hF
 have hS := St.refl hI
 refine W_sr rfl (fun K hK => ?_)
 refine s_box (D := FDx) (B := B) hF rfl (by decide) hS.inv rfl ?_; clear hF a; intro w' a hm hbx hsz hF
 replace hS := hS.mb0 hm
 clear hm
 refine sv2 hF (v_assign rfl) (v_assign rfl) rfl rfl ?_; clear hF a; intro a hF
 refine WL_nil (hK _ _ ?_)
 clear hK K
 replace hF := hF.sub _ (c_ 3 rfl (c_ 2 rfl (c_ 1 rfl (n_))))
 refine W_seq ?_
 refine W_sr rfl (fun K hK => ?_)
 refine sv hF (v_loadN Tryz.underlying23 rfl (by kernel_rfl) rfl hbx) rfl ?_; clear hF a; intro a hF
 refine sc hF rfl rfl rfl en14 rfl (PMay_ok B 3 kn mn _ hS.inv) ?_; clear hF a; intro v w' a hv hF
 obtain ⟨rfl, hS'⟩ := hv
 replace hbx := hbx.st (by decide) hS'
 replace hS := hS.trans hS'
 clear hS'
 rw [mayP_is (by omega) h1 h2 (by omega)] at hF
 refine sv hF (v_not rfl) rfl ?_; clear hF a; intro a hF
 refine WL_nil (hK _ _ ?_)
 clear hK K
 replace hF := hF.sub _ (c_ 7 rfl (c_ 3 rfl (c_ 2 rfl (c_ 1 rfl (n_)))))
 refine W_ifF hF rfl ?_
 refine W_skip ?_
 refine W_sr rfl (fun K hK => ?_)
 refine sv hF (v_build (cs := (fns 26 27 28 29 30 30).toArray) rfl (by kernel_rfl)) rfl ?_; clear hF a; intro a hF
 have hs0 := hS.ext.size
 refine s_allocN (D := FDx) (B := B) (z := .agg (#[.nilFunc, .nilFunc, .nilFunc, .nilFunc, .nilFunc, .nilFunc])) hF (by kernel_rfl) (by decide) hS.inv rfl ?_; clear hF a; intro gT w' a hm hI' hT hF
 replace hbx := hbx.mb hm (by simp)
 replace hS := hS.mb0 hm
 clear hm hI'
 replace hT := hT.le hs0
 clear hs0
 refine s_storeN (D := FDx) (B := B) hF (by kernel_rfl) rfl rfl (rfl) (by rfl) hT hS.inv ?_; intro w' hm hI' hrc'
 replace hbx := hbx.mb hm (by intro e; cases e; exact absurd hT.blk (by intro e2; have := hbx.symm.trans e2; cases this))
 replace hS := hS.mb hm (fun k h => by cases h; exact hT.low)
 replace hT := hrc'
 clear hm hI' hrc'
 refine WL_nil (hK _ _ ?_)
 clear hK K
 replace hF := hF.sub _ (c_ 4 rfl (c_ 3 rfl (c_ 2 rfl (c_ 1 rfl (n_)))))
 refine W_sd (m := 17) rfl hmix hS.inv (fun K hK w1 hS' hh => ?_)
 replace hbx := hbx.st (by decide) hS'
 replace hT := hT.st hS'
 replace hS := hS.trans hS'
 clear hS'
 clear hh
 refine a_v (i := 0) rfl (by kernel_rfl) hF (fun w2 hx => v_fieldAddr fa23_0 rfl) rfl ?_; clear hF a; intro a hF
 refine a_v (i := 1) rfl (by kernel_rfl) hF (fun w2 hx => v_load sc3 rfl (hbx.ld (by decide) hx 0 rfl)) rfl ?_; clear hF a; intro a hF
 refine a_v (i := 2) rfl (by kernel_rfl) hF (fun w2 hx => (v_subI rfl rfl (by omega)).as (show Value.int .i64 (3 - 1) = .int .i64 ((2 : Nat) : Int) from rfl)) rfl ?_; clear hF a; intro a hF
 refine a_v (i := 3) rfl (by kernel_rfl) hF (fun w2 hx => v_ixA ar65 rfl rfl (by omega) (by omega)) rfl ?_; clear hF a; intro a hF
 refine a_v (i := 4) rfl (by kernel_rfl) hF (fun w2 hx => v_load sc64 rfl ((hT.kc 2 rfl).ld hx)) rfl ?_; clear hF a; intro a hF
 refine a_v (i := 5) rfl (by kernel_rfl) hF (fun w2 hx => v_fieldAddr fa23_0 rfl) rfl ?_; clear hF a; intro a hF
 refine a_v (i := 6) rfl (by kernel_rfl) hF (fun w2 hx => v_load sc3 rfl (hbx.ld (by decide) hx 0 rfl)) rfl ?_; clear hF a; intro a hF
 refine a_v (i := 8) rfl (by kernel_rfl) hF (fun w2 hx => v_fieldAddr fa23_1 rfl) rfl ?_; clear hF a; intro a hF
 refine a_v (i := 9) rfl (by kernel_rfl) hF (fun w2 hx => v_load sc3 rfl (hbx.ld (by decide) hx 1 rfl)) rfl ?_; clear hF a; intro a hF
 refine a_v (i := 10) rfl (by kernel_rfl) hF (fun w2 hx => v_fieldAddr fa23_2 rfl) rfl ?_; clear hF a; intro a hF
 refine a_v (i := 11) rfl (by kernel_rfl) hF (fun w2 hx => v_load sc3 rfl (hbx.ld (by decide) hx 2 rfl)) rfl ?_; clear hF a; intro a hF
 refine a_e (i := 7) rfl (by kernel_rfl) ?_
 refine sc hF rfl rfl rfl en13 rfl (PField_in B 3 _ hS.inv (by omega)) ?_; clear hF a; intro v w' a hv hF
 obtain ⟨fv, hfv⟩ : ∃ x, x = v := ⟨_, rfl⟩
 subst hfv
 obtain ⟨hf, hS'⟩ := hv
 replace hf : Fo FDx B _ fv (some (8, 285)) := hf
 refine WL_nil ⟨hS'.ext, ?_⟩
 replace hbx := hbx.st (by decide) hS'
 replace hT := hT.st hS'
 replace hS := hS.trans hS'
 clear hS'
 refine a_e (i := 12) rfl (by kernel_rfl) ?_
 refine sc hF rfl rfl rfl en28 rfl (Isal_ok B (some (8, 285)) fv (kn : Int) (mn : Int) _ hS.inv hf) ?_; clear hF a; intro v w' a hv hF
 obtain ⟨obX, uX, rfl, hoX, hS'⟩ := hv
 rw [(isalM_is (o := some (8, 285)) rfl (k := kn) (m := mn) (by omega) (by omega) (by omega))] at hoX hF
 try simp only [Option.getD_some, Option.getD_none] at hoX
 obtain ⟨sX, cX, rfl, hX⟩ := hoX.mat (by decide) (Nat.zero_le _)
 clear hoX
 refine WL_nil ⟨hS'.ext, ?_⟩
 replace hbx := hbx.st (by decide) hS'
 replace hT := hT.st hS'
 replace hf := hf.st hS'
 replace hS := hS.trans hS'
 clear hS'
 refine a_v (i := 13) rfl (by kernel_rfl) hF (fun w2 hx => v_ext rfl rfl) rfl ?_; clear hF a; intro a hF
 refine a_v (i := 14) rfl (by kernel_rfl) hF (fun w2 hx => v_ext rfl rfl) rfl ?_; clear hF a; intro a hF
 refine a_v (i := 15) rfl (by kernel_rfl) hF (fun w2 hx => v_assign rfl) rfl ?_; clear hF a; intro a hF
 refine a_v (i := 16) rfl (by kernel_rfl) hF (fun w2 hx => v_assign rfl) rfl ?_; clear hF a; intro a hF
 refine a_done (by kernel_rfl) (hK _ _ ?_)
 clear hK K
 replace hF := hF.sub _ (c_ 3 rfl (c_ 2 rfl (n_)))
 refine W_ret ?_
 refine ⟨_, _, _, hF, rfl, rfl, ?_⟩
 exact ⟨_, _, by first | rfl | (rw [tab_length]; rfl), by unfold prT; simpa using hX, hS⟩

set_option maxRecDepth 100000 in
set_option maxHeartbeats 1000000 in
theorem PPar_4 (B kn mn : Nat) (w : World) (hI : Inv FDx B w) (h1 : 1 ≤ kn ∧ kn ≤ 8) (h2 : 1 ≤ mn ∧ mn ≤ 4) : Ret Tryz.prog 11 [.agg #[.int .i64 4, .int .i64 (kn : Int), .int .i64 (mn : Int)]] w fun v w' => ∃ sa cap, v = .tuple #[.slice sa mn cap, .int .i64 0] ∧ Mat FDx B w'.heap.size w' sa cap (tab mn kn (prT 4 kn mn)) ∧ St FDx B w w' := by
 refine enter2 24 [(0, .agg #[.int .i64 4, .int .i64 (kn : Int), .int .i64 (mn : Int)])] 2 3 Tryz.func11 rfl rfl rfl rfl rfl ?_; intro a hF
 have hS := St.refl hI
 refine W_sr rfl (fun K hK => ?_)
 refine s_box (D := FDx) (B := B) hF rfl (by decide) hS.inv rfl ?_; clear hF a; intro w' a hm hbx hsz hF
 replace hS := hS.mb0 hm
 clear hm
 refine sv2 hF (v_assign rfl) (v_assign rfl) rfl rfl ?_; clear hF a; intro a hF
 refine WL_nil (hK _ _ ?_)
 clear hK K
 replace hF := hF.sub _ (c_ 3 rfl (c_ 2 rfl (c_ 1 rfl (n_))))
 refine W_seq ?_
 refine W_sr rfl (fun K hK => ?_)
 refine sv hF (v_loadN Tryz.underlying23 rfl (by kernel_rfl) rfl hbx) rfl ?_; clear hF a; intro a hF
 refine sc hF rfl rfl rfl en14 rfl (PMay_ok B 4 kn mn _ hS.inv) ?_; clear hF a; intro v w' a hv hF
 obtain ⟨rfl, hS'⟩ := hv
 replace hbx := hbx.st (by decide) hS'
 replace hS := hS.trans hS'
 clear hS'
 rw [mayP_is (by omega) h1 h2 (by omega)] at hF
 refine sv hF (v_not rfl) rfl ?_; clear hF a; intro a hF
 refine WL_nil (hK _ _ ?_)
 clear hK K
 replace hF := hF.sub _ (c_ 7 rfl (c_ 3 rfl (c_ 2 rfl (c_ 1 rfl (n_)))))
 refine W_ifF hF rfl ?_
 refine W_skip ?_
 refine W_sr rfl (fun K hK => ?_)
 refine sv hF (v_build (cs := (fns 26 27 28 29 30 30).toArray) rfl (by kernel_rfl)) rfl ?_; clear hF a; intro a hF
 have hs0 := hS.ext.size
 refine s_allocN (D := FDx) (B := B) (z := .agg (#[.nilFunc, .nilFunc, .nilFunc, .nilFunc, .nilFunc, .nilFunc])) hF (by kernel_rfl) (by decide) hS.inv rfl ?_; clear hF a; intro gT w' a hm hI' hT hF
 replace hbx := hbx.mb hm (by simp)
 replace hS := hS.mb0 hm
 clear hm hI'
 replace hT := hT.le hs0
 clear hs0
 refine s_storeN (D := FDx) (B := B) hF (by kernel_rfl) rfl rfl (rfl) (by rfl) hT hS.inv ?_; intro w' hm hI' hrc'
 replace hbx := hbx.mb hm (by intro e; cases e; exact absurd hT.blk (by intro e2; have := hbx.symm.trans e2; cases this))
 replace hS := hS.mb hm (fun k h => by cases h; exact hT.low)
 replace hT := hrc'
 clear hm hI' hrc'
 refine WL_nil (hK _ _ ?_)
 clear hK K
 replace hF := hF.sub _ (c_ 4 rfl (c_ 3 rfl (c_ 2 rfl (c_ 1 rfl (n_)))))
 refine W_sd (m := 17) rfl hmix hS.inv (fun K hK w1 hS' hh => ?_)
 replace hbx := hbx.st (by decide) hS'
 replace hT := hT.st hS'
 replace hS := hS.trans hS'
 clear hS'
 clear hh
 refine a_v (i := 0) rfl (by kernel_rfl) hF (fun w2 hx => v_fieldAddr fa23_0 rfl) rfl ?_; clear hF a; intro a hF
 refine a_v (i := 1) rfl (by kernel_rfl) hF (fun w2 hx => v_load sc3 rfl (hbx.ld (by decide) hx 0 rfl)) rfl ?_; clear hF a; intro a hF
 refine a_v (i := 2) rfl (by kernel_rfl) hF (fun w2 hx => (v_subI rfl rfl (by omega)).as (show Value.int .i64 (4 - 1) = .int .i64 ((3 : Nat) : Int) from rfl)) rfl ?_; clear hF a; intro a hF
 refine a_v (i := 3) rfl (by kernel_rfl) hF (fun w2 hx => v_ixA ar65 rfl rfl (by omega) (by omega)) rfl ?_; clear hF a; intro a hF
 refine a_v (i := 4) rfl (by kernel_rfl) hF (fun w2 hx => v_load sc64 rfl ((hT.kc 3 rfl).ld hx)) rfl ?_; clear hF a; intro a hF
 refine a_v (i := 5) rfl (by kernel_rfl) hF (fun w2 hx => v_fieldAddr fa23_0 rfl) rfl ?_; clear hF a; intro a hF
 refine a_v (i := 6) rfl (by kernel_rfl) hF (fun w2 hx => v_load sc3 rfl (hbx.ld (by decide) hx 0 rfl)) rfl ?_; clear hF a; intro a hF
 refine a_v (i := 8) rfl (by kernel_rfl) hF (fun w2 hx => v_fieldAddr fa23_1 rfl) rfl ?_; clear hF a; intro a hF
 refine a_v (i := 9) rfl (by kernel_rfl) hF (fun w2 hx => v_load sc3 rfl (hbx.ld (by decide) hx 1 rfl)) rfl ?_; clear hF a; intro a hF
 refine a_v (i := 10) rfl (by kernel_rfl) hF (fun w2 hx => v_fieldAddr fa23_2 rfl) rfl ?_; clear hF a; intro a hF
 refine a_v (i := 11) rfl (by kernel_rfl) hF (fun w2 hx => v_load sc3 rfl (hbx.ld (by decide) hx 2 rfl)) rfl ?_; clear hF a; intro a hF
 refine a_e (i := 7) rfl (by kernel_rfl) ?_
 refine sc hF rfl rfl rfl en13 rfl (PField_in B 4 _ hS.inv (by omega)) ?_; clear hF a; intro v w' a hv hF
 obtain ⟨fv, hfv⟩ : ∃ x, x = v := ⟨_, rfl⟩
 subst hfv
 obtain ⟨hf, hS'⟩ := hv
 replace hf : Fo FDx B _ fv (some (8, 285)) := hf
 refine WL_nil ⟨hS'.ext, ?_⟩
 replace hbx := hbx.st (by decide) hS'
 replace hT := hT.st hS'
 replace hS := hS.trans hS'
 clear hS'
 refine a_e (i := 12) rfl (by kernel_rfl) ?_
 refine sc hF rfl rfl rfl en29 rfl (CIsal_ok B 8 285 prm_285 fv (kn : Int) (mn : Int) _ hS.inv hf) ?_; clear hF a; intro v w' a hv hF
 obtain ⟨obX, uX, rfl, hoX, hS'⟩ := hv
 rw [(cisaM_is prm_285 (k := kn) (m := mn) (by omega) (by omega) (by omega))] at hoX hF
 try simp only [Option.getD_some, Option.getD_none] at hoX
 obtain ⟨sX, cX, rfl, hX⟩ := hoX.mat (by decide) (Nat.zero_le _)
 clear hoX
 refine WL_nil ⟨hS'.ext, ?_⟩
 replace hbx := hbx.st (by decide) hS'
 replace hT := hT.st hS'
 replace hf := hf.st hS'
 replace hS := hS.trans hS'
 clear hS'
 refine a_v (i := 13) rfl (by kernel_rfl) hF (fun w2 hx => v_ext rfl rfl) rfl ?_; clear hF a; intro a hF
 refine a_v (i := 14) rfl (by kernel_rfl) hF (fun w2 hx => v_ext rfl rfl) rfl ?_; clear hF a; intro a hF
 refine a_v (i := 15) rfl (by kernel_rfl) hF (fun w2 hx => v_assign rfl) rfl ?_; clear hF a; intro a hF
 refine a_v (i := 16) rfl (by kernel_rfl) hF (fun w2 hx => v_assign rfl) rfl ?_; clear hF a; intro a hF
 refine a_done (by kernel_rfl) (hK _ _ ?_)
 clear hK K
 replace hF := hF.sub _ (c_ 3 rfl (c_ 2 rfl (n_)))
 refine W_ret ?_
 refine ⟨_, _, _, hF, rfl, rfl, ?_⟩
 exact ⟨_, _, by first | rfl | (rw [tab_length]; rfl), by unfold prT; simpa using hX, hS⟩

set_option maxRecDepth 100000 in
set_option maxHeartbeats 1000000 in
theorem PPar_5 (B kn mn : Nat) (w : World) (hI : Inv FDx B w) (h1 : 1 ≤ kn ∧ kn ≤ 8) (h2 : 1 ≤ mn ∧ mn ≤ 4) : Ret Tryz.prog 11 [.agg #[.int .i64 5, .int .i64 (kn : Int), .int .i64 (mn : Int)]] w fun v w' => ∃ sa cap, v = .tuple #[.slice sa mn cap, .int .i64 0] ∧ Mat FDx B w'.heap.size w' sa cap (tab mn kn (prT 5 kn mn)) ∧ St FDx B w w' := by
 refine enter2 24 [(0, .agg #[.int .i64 5, .int .i64 (kn : Int), .int .i64 (mn : Int)])] 2 3 Tryz.func11 rfl rfl rfl rfl rfl ?_; intro a hF
 have hS := St.refl hI
 refine W_sr rfl (fun K hK => ?_)
 refine s_box (D := FDx) (B := B) hF rfl (by decide) hS.inv rfl ?_; clear hF a; intro w' a hm hbx hsz hF
 replace hS := hS.mb0 hm
 clear hm
 refine sv2 hF (v_assign rfl) (v_assign rfl) rfl rfl ?_; clear hF a; intro a hF
 refine WL_nil (hK _ _ ?_)
 clear hK K
 replace hF := hF.sub _ (c_ 3 rfl (c_ 2 rfl (c_ 1 rfl (n_))))
 refine W_seq ?_
 refine W_sr rfl (fun K hK => ?_)
 refine sv hF (v_loadN Tryz.underlying23 rfl (by kernel_rfl) rfl hbx) rfl ?_; clear hF a; intro a hF
 refine sc hF rfl rfl rfl en14 rfl (PMay_ok B 5 kn mn _ hS.inv) ?_; clear hF a; intro v w' a hv hF
 obtain ⟨rfl, hS'⟩ := hv
 replace hbx := hbx.st (by decide) hS'
 replace hS := hS.trans hS'
 clear hS'
 rw [mayP_is (by omega) h1 h2 (by omega)] at hF
 refine sv hF (v_not rfl) rfl ?_; clear hF a; intro a hF
 refine WL_nil (hK _ _ ?_)
 clear hK K
 replace hF := hF.sub _ (c_ 7 rfl (c_ 3 rfl (c_ 2 rfl (c_ 1 rfl (n_)))))
 refine W_ifF hF rfl ?_
 refine W_skip ?_
 refine W_sr rfl (fun K hK => ?_)
 refine sv hF (v_build (cs := (fns 26 27 28 29 30 30).toArray) rfl (by kernel_rfl)) rfl ?_; clear hF a; intro a hF
 have hs0 := hS.ext.size
 refine s_allocN (D := FDx) (B := B) (z := .agg (#[.nilFunc, .nilFunc, .nilFunc, .nilFunc, .nilFunc, .nilFunc])) hF (by kernel_rfl) (by decide) hS.inv rfl ?_; clear hF a; intro gT w' a hm hI' hT hF
 replace hbx := hbx.mb hm (by simp)
 replace hS := hS.mb0 hm
 clear hm hI'
 replace hT := hT.le hs0
 clear hs0
 refine s_storeN (D := FDx) (B := B) hF (by kernel_rfl) rfl rfl (rfl) (by rfl) hT hS.inv ?_; intro w' hm hI' hrc'
 replace hbx := hbx.mb hm (by intro e; cases e; exact absurd hT.blk (by intro e2; have := hbx.symm.trans e2; cases this))
 replace hS := hS.mb hm (fun k h => by cases h; exact hT.low)
 replace hT := hrc'
 clear hm hI' hrc'
 refine WL_nil (hK _ _ ?_)
 clear hK K
 replace hF := hF.sub _ (c_ 4 rfl (c_ 3 rfl (c_ 2 rfl (c_ 1 rfl (n_)))))
 refine W_sd (m := 17) rfl hmix hS.inv (fun K hK w1 hS' hh => ?_)
 replace hbx := hbx.st (by decide) hS'
 replace hT := hT.st hS'
 replace hS := hS.trans hS'
 clear hS'
 clear hh
 refine a_v (i := 0) rfl (by kernel_rfl) hF (fun w2 hx => v_fieldAddr fa23_0 rfl) rfl ?_; clear hF a; intro a hF
 refine a_v (i := 1) rfl (by kernel_rfl) hF (fun w2 hx => v_load sc3 rfl (hbx.ld (by decide) hx 0 rfl)) rfl ?_; clear hF a; intro a hF
 refine a_v (i := 2) rfl (by kernel_rfl) hF (fun w2 hx => (v_subI rfl rfl (by omega)).as (show Value.int .i64 (5 - 1) = .int .i64 ((4 : Nat) : Int) from rfl)) rfl ?_; clear hF a; intro a hF
 refine a_v (i := 3) rfl (by kernel_rfl) hF (fun w2 hx => v_ixA ar65 rfl rfl (by omega) (by omega)) rfl ?_; clear hF a; intro a hF
 refine a_v (i := 4) rfl (by kernel_rfl) hF (fun w2 hx => v_load sc64 rfl ((hT.kc 4 rfl).ld hx)) rfl ?_; clear hF a; intro a hF
 refine a_v (i := 5) rfl (by kernel_rfl) hF (fun w2 hx => v_fieldAddr fa23_0 rfl) rfl ?_; clear hF a; intro a hF
 refine a_v (i := 6) rfl (by kernel_rfl) hF (fun w2 hx => v_load sc3 rfl (hbx.ld (by decide) hx 0 rfl)) rfl ?_; clear hF a; intro a hF
 refine a_v (i := 8) rfl (by kernel_rfl) hF (fun w2 hx => v_fieldAddr fa23_1 rfl) rfl ?_; clear hF a; intro a hF
 refine a_v (i := 9) rfl (by kernel_rfl) hF (fun w2 hx => v_load sc3 rfl (hbx.ld (by decide) hx 1 rfl)) rfl ?_; clear hF a; intro a hF
 refine a_v (i := 10) rfl (by kernel_rfl) hF (fun w2 hx => v_fieldAddr fa23_2 rfl) rfl ?_; clear hF a; intro a hF
 refine a_v (i := 11) rfl (by kernel_rfl) hF (fun w2 hx => v_load sc3 rfl (hbx.ld (by decide) hx 2 rfl)) rfl ?_; clear hF a; intro a hF
 refine a_e (i := 7) rfl (by kernel_rfl) ?_
 refine sc hF rfl rfl rfl en13 rfl (PField_in B 5 _ hS.inv (by omega)) ?_; clear hF a; intro v w' a hv hF
 obtain ⟨fv, hfv⟩ : ∃ x, x = v := ⟨_, rfl⟩
 subst hfv
 obtain ⟨hf, hS'⟩ := hv
 replace hf : Fo FDx B _ fv (some (8, 285)) := hf
 refine WL_nil ⟨hS'.ext, ?_⟩
 replace hbx := hbx.st (by decide) hS'
 replace hT := hT.st hS'
 replace hS := hS.trans hS'
 clear hS'
 refine a_e (i := 12) rfl (by kernel_rfl) ?_
 refine sc hF rfl rfl rfl en30 rfl (behind_fit B 8 285 prm_285 fv kn mn _ hS.inv hf (by omega) (by omega) (by omega)) ?_; clear hF a; intro v w' a hv hF
 obtain ⟨sX, cX, rfl, hX, hS'⟩ := hv
 refine WL_nil ⟨hS'.ext, ?_⟩
 replace hbx := hbx.st (by decide) hS'
 replace hT := hT.st hS'
 replace hf := hf.st hS'
 replace hS := hS.trans hS'
 clear hS'
 refine a_v (i := 13) rfl (by kernel_rfl) hF (fun w2 hx => v_ext rfl rfl) rfl ?_; clear hF a; intro a hF
 refine a_v (i := 14) rfl (by kernel_rfl) hF (fun w2 hx => v_ext rfl rfl) rfl ?_; clear hF a; intro a hF
 refine a_v (i := 15) rfl (by kernel_rfl) hF (fun w2 hx => v_assign rfl) rfl ?_; clear hF a; intro a hF
 refine a_v (i := 16) rfl (by kernel_rfl) hF (fun w2 hx => v_assign rfl) rfl ?_; clear hF a; intro a hF
 refine a_done (by kernel_rfl) (hK _ _ ?_)
 clear hK K
 replace hF := hF.sub _ (c_ 3 rfl (c_ 2 rfl (n_)))
 refine W_ret ?_
 refine ⟨_, _, _, hF, rfl, rfl, ?_⟩
 exact ⟨_, _, by first | rfl | (rw [tab_length]; rfl), by unfold prT; simpa using hX, hS⟩

set_option maxRecDepth 100000 in
set_option maxHeartbeats 1000000 in
theorem PPar_6 (B kn mn : Nat) (w : World) (hI : Inv FDx B w) (h1 : 1 ≤ kn ∧ kn ≤ 8) (h2 : 1 ≤ mn ∧ mn ≤ 4) : Ret Tryz.prog 11 [.agg #[.int .i64 6, .int .i64 (kn : Int), .int .i64 (mn : Int)]] w fun v w' => ∃ sa cap, v = .tuple #[.slice sa mn cap, .int .i64 0] ∧ Mat FDx B w'.heap.size w' sa cap (tab mn kn (prT 6 kn mn)) ∧ St FDx B w w' := by
 refine enter2 24 [(0, .agg #[.int .i64 6, .int .i64 (kn : Int), .int .i64 (mn : Int)])] 2 3 Tryz.func11 rfl rfl rfl rfl rfl ?_; intro a hF
 have hS := St.refl hI
 refine W_sr rfl (fun K hK => ?_)
 refine s_box (D := FDx) (B := B) hF rfl (by decide) hS.inv rfl ?_; clear hF a; intro w' a hm hbx hsz hF
 replace hS := hS.mb0 hm
 clear hm
 refine sv2 hF (v_assign rfl) (v_assign rfl) rfl rfl ?_; clear hF a; intro a hF
 refine WL_nil (hK _ _ ?_)
 clear hK K
 replace hF := hF.sub _ (c_ 3 rfl (c_ 2 rfl (c_ 1 rfl (n_))))
 refine W_seq ?_
 refine W_sr rfl (fun K hK => ?_)
 refine sv hF (v_loadN Tryz.underlying23 rfl (by kernel_rfl) rfl hbx) rfl ?_; clear hF a; intro a hF
 refine sc hF rfl rfl rfl en14 rfl (PMay_ok B 6 kn mn _ hS.inv) ?_; clear hF a; intro v w' a hv hF
 obtain ⟨rfl, hS'⟩ := hv
 replace hbx := hbx.st (by decide) hS'
 replace hS := hS.trans hS'
 clear hS'
 rw [mayP_is (by omega) h1 h2 (by omega)] at hF
 refine sv hF (v_not rfl) rfl ?_; clear hF a; intro a hF
 refine WL_nil (hK _ _ ?_)
 clear hK K
 replace hF := hF.sub _ (c_ 7 rfl (c_ 3 rfl (c_ 2 rfl (c_ 1 rfl (n_)))))
 refine W_ifF hF rfl ?_
 refine W_skip ?_
 refine W_sr rfl (fun K hK => ?_)
 refine sv hF (v_build (cs := (fns 26 27 28 29 30 30).toArray) rfl (by kernel_rfl)) rfl ?_; clear hF a; intro a hF
 have hs0 := hS.ext.size
 refine s_allocN (D := FDx) (B := B) (z := .agg (#[.nilFunc, .nilFunc, .nilFunc, .nilFunc, .nilFunc, .nilFunc])) hF (by kernel_rfl) (by decide) hS.inv rfl ?_; clear hF a; intro gT w' a hm hI' hT hF
 replace hbx := hbx.mb hm (by simp)
 replace hS := hS.mb0 hm
 clear hm hI'
 replace hT := hT.le hs0
 clear hs0
 refine s_storeN (D := FDx) (B := B) hF (by kernel_rfl) rfl rfl (rfl) (by rfl) hT hS.inv ?_; intro w' hm hI' hrc'
 replace hbx := hbx.mb hm (by intro e; cases e; exact absurd hT.blk (by intro e2; have := hbx.symm.trans e2; cases this))
 replace hS := hS.mb hm (fun k h => by cases h; exact hT.low)
 replace hT := hrc'
 clear hm hI' hrc'
 refine WL_nil (hK _ _ ?_)
 clear hK K
 replace hF := hF.sub _ (c_ 4 rfl (c_ 3 rfl (c_ 2 rfl (c_ 1 rfl (n_)))))
 refine W_sd (m := 17) rfl hmix hS.inv (fun K hK w1 hS' hh => ?_)
 replace hbx := hbx.st (by decide) hS'
 replace hT := hT.st hS'
 replace hS := hS.trans hS'
 clear hS'
 clear hh
 refine a_v (i := 0) rfl (by kernel_rfl) hF (fun w2 hx => v_fieldAddr fa23_0 rfl) rfl ?_; clear hF a; intro a hF
 refine a_v (i := 1) rfl (by kernel_rfl) hF (fun w2 hx => v_load sc3 rfl (hbx.ld (by decide) hx 0 rfl)) rfl ?_; clear hF a; intro a hF
 refine a_v (i := 2) rfl (by kernel_rfl) hF (fun w2 hx => (v_subI rfl rfl (by omega)).as (show Value.int .i64 (6 - 1) = .int .i64 ((5 : Nat) : Int) from rfl)) rfl ?_; clear hF a; intro a hF
 refine a_v (i := 3) rfl (by kernel_rfl) hF (fun w2 hx => v_ixA ar65 rfl rfl (by omega) (by omega)) rfl ?_; clear hF a; intro a hF
 refine a_v (i := 4) rfl (by kernel_rfl) hF (fun w2 hx => v_load sc64 rfl ((hT.kc 5 rfl).ld hx)) rfl ?_; clear hF a; intro a hF
 refine a_v (i := 5) rfl (by kernel_rfl) hF (fun w2 hx => v_fieldAddr fa23_0 rfl) rfl ?_; clear hF a; intro a hF
 refine a_v (i := 6) rfl (by kernel_rfl) hF (fun w2 hx => v_load sc3 rfl (hbx.ld (by decide) hx 0 rfl)) rfl ?_; clear hF a; intro a hF
 refine a_v (i := 8) rfl (by kernel_rfl) hF (fun w2 hx => v_fieldAddr fa23_1 rfl) rfl ?_; clear hF a; intro a hF
 refine a_v (i := 9) rfl (by kernel_rfl) hF (fun w2 hx => v_load sc3 rfl (hbx.ld (by decide) hx 1 rfl)) rfl ?_; clear hF a; intro a hF
 refine a_v (i := 10) rfl (by kernel_rfl) hF (fun w2 hx => v_fieldAddr fa23_2 rfl) rfl ?_; clear hF a; intro a hF
 refine a_v (i := 11) rfl (by kernel_rfl) hF (fun w2 hx => v_load sc3 rfl (hbx.ld (by decide) hx 2 rfl)) rfl ?_; clear hF a; intro a hF
 refine a_e (i := 7) rfl (by kernel_rfl) ?_
 refine sc hF rfl rfl rfl en13 rfl (PField_in B 6 _ hS.inv (by omega)) ?_; clear hF a; intro v w' a hv hF
 obtain ⟨fv, hfv⟩ : ∃ x, x = v := ⟨_, rfl⟩
 subst hfv
 obtain ⟨hf, hS'⟩ := hv
 replace hf : Fo FDx B _ fv (some (8, 285)) := hf
 refine WL_nil ⟨hS'.ext, ?_⟩
 replace hbx := hbx.st (by decide) hS'
 replace hT := hT.st hS'
 replace hS := hS.trans hS'
 clear hS'
 refine a_e (i := 12) rfl (by kernel_rfl) ?_
 refine sc hF rfl rfl rfl en30 rfl (behind_fit B 8 285 prm_285 fv kn mn _ hS.inv hf (by omega) (by omega) (by omega)) ?_; clear hF a; intro v w' a hv hF
 obtain ⟨sX, cX, rfl, hX, hS'⟩ := hv
 refine WL_nil ⟨hS'.ext, ?_⟩
 replace hbx := hbx.st (by decide) hS'
 replace hT := hT.st hS'
 replace hf := hf.st hS'
 replace hS := hS.trans hS'
 clear hS'
 refine a_v (i := 13) rfl (by kernel_rfl) hF (fun w2 hx => v_ext rfl rfl) rfl ?_; clear hF a; intro a hF
 refine a_v (i := 14) rfl (by kernel_rfl) hF (fun w2 hx => v_ext rfl rfl) rfl ?_; clear hF a; intro a hF
 refine a_v (i := 15) rfl (by kernel_rfl) hF (fun w2 hx => v_assign rfl) rfl ?_; clear hF a; intro a hF
 refine a_v (i := 16) rfl (by kernel_rfl) hF (fun w2 hx => v_assign rfl) rfl ?_; clear hF a; intro a hF
 refine a_done (by kernel_rfl) (hK _ _ ?_)
 clear hK K
 replace hF := hF.sub _ (c_ 3 rfl (c_ 2 rfl (n_)))
 refine W_ret ?_
 refine ⟨_, _, _, hF, rfl, rfl, ?_⟩
 exact ⟨_, _, by first | rfl | (rw [tab_length]; rfl), by unfold prT; simpa using hX, hS⟩

theorem PPar_ok (B : Nat) (p : Int) (kn mn : Nat) (w : World) (hI : Inv FDx B w) (h : mayP p (kn : Int) (mn : Int) = true) : Ret Tryz.prog 11 [.agg #[.int .i64 p, .int .i64 (kn : Int), .int .i64 (mn : Int)]] w fun v w' => ∃ sa cap, v = .tuple #[.slice sa mn cap, .int .i64 0] ∧ Mat FDx B w'.heap.size w' sa cap (tab mn kn (prT p kn mn)) ∧ St FDx B w w' := by
 obtain ⟨h1, h2, k, m, e1, e2, h3, h4, h5, h6, h7⟩ := mayP_of h
 obtain rfl : kn = k := by omega
 obtain rfl : mn = m := by omega
 have hp : p = 1 ∨ p = 2 ∨ p = 3 ∨ p = 4 ∨ p = 5 ∨ p = 6 := by omega
 rcases hp with rfl | rfl | rfl | rfl | rfl | rfl
 ·
  exact PPar_1 B kn mn w hI ⟨h3, h4⟩ ⟨h5, h6⟩
 ·
  exact PPar_2 B kn mn w hI ⟨h3, h4⟩ ⟨h5, h6⟩
 ·
  exact PPar_3 B kn mn w hI ⟨h3, h4⟩ ⟨h5, h6⟩ (h7 rfl)
 ·
  exact PPar_4 B kn mn w hI ⟨h3, h4⟩ ⟨h5, h6⟩
 ·
  exact PPar_5 B kn mn w hI ⟨h3, h4⟩ ⟨h5, h6⟩
 ·
  exact PPar_6 B kn mn w hI ⟨h3, h4⟩ ⟨h5, h6⟩

end Go.Proofs.YtkoiolamnnmokaaGreat

/- The walks of the document answer for polynomials: each function returns what the plain function on numbers tells. -/
set_option linter.unusedVariables false
set_option linter.unusedSimpArgs false
namespace Go.Proofs.YtkoiolamnnmokaaGreat
open Go Go.Gam


namespace FxFRef01
end FxFRef01
open FxFRef01

end Go.Proofs.YtkoiolamnnmokaaGreat

/- The walks of gambrelref02: what the document asks of a field. -/
set_option linter.unusedVariables false
set_option linter.unusedSimpArgs false
namespace Go.Proofs.YtkoiolamnnmokaaGreat
open Go Go.Gam


namespace FxFRef02
theorem en94 : Ent Tryz.prog 94 := ent Tryz.func94 (by kernel_rfl) (by kernel_rfl)
end FxFRef02
open FxFRef02

set_option maxRecDepth 100000 in
set_option maxHeartbeats 1000000 in
theorem rsize_ok (wb : Nat) (w : World) (hwb : wb ≤ 16) : Ret Tryz.prog 94 [.int .i64 (wb : Int)] w fun v w' => v = .int .i64 ((2 ^ wb : Nat) : Int) ∧ w' = w := by
 refine enter 13 [(0, .int .i64 (wb : Int))] 2 Tryz.func94 rfl rfl rfl rfl rfl ?_; intro a hF
 refine W_sr rfl (fun K hK => ?_)
 refine sv hF (v_assign rfl) rfl ?_; clear hF a; intro a hF
 refine WL_nil (hK _ _ ?_)
 clear hK K
 refine W_sr rfl (fun K hK => ?_)
 refine sv hF (v_assign rfl) rfl ?_; clear hF a; intro a hF
 refine WL_nil (hK _ _ ?_)
 clear hK K
 refine W_seq ?_
 refine W_sr rfl (fun K hK => ?_)
 refine sv hF (v_assign rfl) rfl ?_; clear hF a; intro a hF
 refine WL_nil (hK _ _ ?_)
 clear hK K
 refine W_block ?_
 refine W_loop (fun m a w1 => ∃ i : Nat, Fr 13 [(0, .int .i64 (wb : Int)), (3, .int .i64 ((2 ^ i : Nat) : Int)), (4, .int .i64 (i : Int))] a ∧ w = w1 ∧ i ≤ wb ∧ m + i = wb) (wb) ?_ ?_
 ·
  skip
  exact ⟨0, hF.sub _ (c_ 0 rfl (c_ 3 rfl (c_ 4 rfl n_))), rfl, by omega, by omega⟩
 ·
  skip
  clear hF
  rintro m a _ ⟨i, hF, rfl, hi, hm⟩
  refine W_seq ?_
  refine W_sr rfl (fun K hK => ?_)
  refine sv2 hF (v_move rfl) (v_move rfl) rfl rfl ?_; clear hF a; intro a hF
  refine sv hF (v_lss rfl rfl) rfl ?_; clear hF a; intro a hF
  refine WL_nil (hK _ _ ?_)
  clear hK K
  replace hF := hF.sub _ (c_ 7 rfl (c_ 0 rfl (c_ 3 rfl (c_ 4 rfl (n_)))))
  refine W_if hF rfl (fun hc1 => ?_) (fun hc1 => ?_)
  ·
   skip
   try simp only [dcl] at hc1
   refine W_skip ?_
   refine W_seq ?_
   refine W_block ?_
   have h16 := two_pow16 (d := i) (by omega)
   have hs : 2 ^ (i + 1) = 2 * 2 ^ i := by rw [Nat.pow_succ, Nat.mul_comm]
   refine W_reg rfl (fun K hK => ?_)
   refine sv hF (v_move rfl) rfl ?_; clear hF a; intro a hF
   refine sv hF ((v_mulI rfl rfl (by omega)).as (congrArg _ (show (2 : Int) * ((2 ^ i : Nat) : Int) = ((2 ^ (i + 1) : Nat) : Int) by omega))) rfl ?_; clear hF a; intro a hF
   refine sv hF (v_assign rfl) rfl ?_; clear hF a; intro a hF
   refine WL_nil (hK _ _ ?_)
   clear hK K
   replace hF := hF.sub _ (c_ 3 rfl (c_ 0 rfl (c_ 4 rfl (n_))))
   refine W_reg rfl (fun K hK => ?_)
   refine sv hF (v_move rfl) rfl ?_; clear hF a; intro a hF
   refine sv hF (v_addI rfl rfl (by omega)) rfl ?_; clear hF a; intro a hF
   refine sv hF (v_assign rfl) rfl ?_; clear hF a; intro a hF
   refine WL_nil (hK _ _ ?_)
   clear hK K
   exact ⟨m - 1, by omega, i + 1, hF.sub _ (c_ 0 rfl (c_ 3 rfl (c_ 4 rfl n_))), rfl, by omega, by omega⟩
  ·
   skip
   try simp only [dcl] at hc1
   refine W_exit rfl ?_
   refine W_sr rfl (fun K hK => ?_)
   refine sv2 hF (v_move rfl) (v_assign rfl) rfl rfl ?_; clear hF a; intro a hF
   refine WL_nil (hK _ _ ?_)
   clear hK K
   replace hF := hF.sub _ (c_ 2 rfl (c_ 12 rfl (c_ 0 rfl (c_ 3 rfl (c_ 4 rfl (n_))))))
   refine W_ret ?_
   refine ⟨_, _, hF, rfl, ?_⟩
   obtain rfl : i = wb := by omega
   exact ⟨rfl, rfl⟩

set_option maxRecDepth 100000 in
set_option maxHeartbeats 1000000 in
theorem rIn_ok (B wb p : Nat) (ia : Int) (w : World) (hI : Inv FDx B w) (hwb : wb ≤ 16) : Ret Tryz.prog 92 [.int .i64 (wb : Int), .int .i64 ia] w fun v w' => v = .bool (inF (some (wb, p)) ia) ∧ w' = w := by
 refine enter 13 [(0, .int .i64 (wb : Int)), (1, .int .i64 ia)] 4 Tryz.func92 rfl rfl rfl rfl rfl ?_; intro a hF
 refine W_sr rfl (fun K hK => ?_)
 refine sv hF (v_assign rfl) rfl ?_; clear hF a; intro a hF
 refine WL_nil (hK _ _ ?_)
 clear hK K
 refine W_sr rfl (fun K hK => ?_)
 refine sv hF (v_move rfl) rfl ?_; clear hF a; intro a hF
 refine sb hF (v_geq rfl rfl) rfl ?_ ?_
 ·
  clear hF a; intro hc1 a hF
  try simp only [dcl] at hc1
  refine sv hF (v_move rfl) rfl ?_; clear hF a; intro a hF
  refine svg hF rfl ?_
  refine sv hF (v_move rfl) rfl ?_; clear hF a; intro a hF
  refine svg hF rfl ?_
  refine sv hF (v_move rfl) rfl ?_; clear hF a; intro a hF
  refine svg hF rfl ?_
  refine sc hF rfl rfl rfl en94 rfl (rsize_ok wb _ (by omega)) ?_; clear hF a; intro v w' a hv hF
  obtain ⟨rfl, rfl⟩ := hv
  skip
  refine svg hF rfl ?_
  refine sv hF (v_lss rfl rfl) rfl ?_; clear hF a; intro a hF
  refine sv2 hF (v_pickT rfl rfl) (v_assign rfl) rfl rfl ?_; clear hF a; intro a hF
  refine WL_nil (hK _ _ ?_)
  clear hK K
  replace hF := hF.sub _ (c_ 4 rfl (n_))
  refine W_ret ?_
  refine ⟨_, _, hF, rfl, ?_⟩
  refine ⟨congrArg _ ?_, rfl⟩
  rw [Bool.eq_iff_iff, inF_some, decide_eq_true_iff]; omega
 ·
  clear hF a; intro hc1 a hF
  try simp only [dcl] at hc1
  refine sv hF (v_move rfl) rfl ?_; clear hF a; intro a hF
  refine svn hF rfl rfl rfl ?_; clear hF a; intro a hF
  refine svn hF rfl rfl rfl ?_; clear hF a; intro a hF
  refine svn hF rfl rfl rfl ?_; clear hF a; intro a hF
  refine svn hF rfl rfl rfl ?_; clear hF a; intro a hF
  refine sv2 hF (v_pickF rfl rfl) (v_assign rfl) rfl rfl ?_; clear hF a; intro a hF
  refine WL_nil (hK _ _ ?_)
  clear hK K
  replace hF := hF.sub _ (c_ 4 rfl (n_))
  refine W_ret ?_
  refine ⟨_, _, hF, rfl, ?_⟩
  refine ⟨congrArg _ (Eq.symm ?_), rfl⟩
  rw [Bool.eq_false_iff, Ne, inF_some]; omega

end Go.Proofs.YtkoiolamnnmokaaGreat

/- The walks of gambrelref04: what the document asks of matrices. -/
set_option linter.unusedVariables false
set_option linter.unusedSimpArgs false
namespace Go.Proofs.YtkoiolamnnmokaaGreat
open Go Go.Gam


namespace FxFRef04
theorem hmix : Tryz.prog.follows .mixedOrders = true := by kernel_rfl
theorem sc3 : Scalar Tryz.prog 3 := ⟨_, Tryz.underlying3, by simp, by simp⟩
theorem sc53 : Scalar Tryz.prog 53 := ⟨_, Tryz.underlying53, by simp, by simp⟩
theorem sl35 : Sl Tryz.prog 35 53 (.slice none 0 0) 24 := sl_of Tryz.underlying35 rfl (by kernel_rfl)
theorem sl53 : Sl Tryz.prog 53 3 (.int .i64 0) 8 := sl_of Tryz.underlying53 rfl (by kernel_rfl)
end FxFRef04
open FxFRef04

set_option maxRecDepth 100000 in
set_option maxHeartbeats 1000000 in
theorem Same04_ok (B M : Nat) (pma : Option Addr) (cma : Nat) (ma : Mtx) (pmb : Option Addr) (cmb : Nat) (mb : Mtx) (w : World) (hI : Inv FDx B w) (hAma : Mat FDx B M w pma cma ma) (hAmb : Mat FDx B M w pmb cmb mb) (hlma : ma.length ≤ 1000) (hbma : ∀ r ∈ ma, r.length ≤ 1000) : Ret Tryz.prog 16 [.slice pma ma.length cma, .slice pmb mb.length cmb] w fun v w' => v = .bool (decide (ma = mb)) ∧ St FDx B w w' := by
 refine enter 53 [(0, .slice pma ma.length cma), (1, .slice pmb mb.length cmb)] 4 Tryz.func16 rfl rfl rfl rfl rfl ?_; intro a hF
 have hS := St.refl hI
 refine W_sr rfl (fun K hK => ?_)
 refine sv hF (v_assign rfl) rfl ?_; clear hF a; intro a hF
 refine WL_nil (hK _ _ ?_)
 clear hK K
 refine W_seq ?_
 refine W_sr rfl (fun K hK => ?_)
 refine sv hF (v_move rfl) rfl ?_; clear hF a; intro a hF
 refine sv hF (v_lenS rfl sl35 rfl) rfl ?_; clear hF a; intro a hF
 refine sv hF (v_move rfl) rfl ?_; clear hF a; intro a hF
 refine sv hF (v_lenS rfl sl35 rfl) rfl ?_; clear hF a; intro a hF
 refine sv hF (v_neq rfl rfl) rfl ?_; clear hF a; intro a hF
 refine WL_nil (hK _ _ ?_)
 clear hK K
 replace hF := hF.sub _ (c_ 11 rfl (c_ 4 rfl (c_ 0 rfl (c_ 1 rfl (n_)))))
 refine W_if hF rfl (fun hc1 => ?_) (fun hc1 => ?_)
 ·
  skip
  try simp only [dcl] at hc1
  refine W_sr rfl (fun K hK => ?_)
  refine sv hF (v_assign rfl) rfl ?_; clear hF a; intro a hF
  refine WL_nil (hK _ _ ?_)
  clear hK K
  replace hF := hF.sub _ (c_ 4 rfl (c_ 0 rfl (c_ 1 rfl (n_))))
  refine W_ret ?_
  refine ⟨_, _, hF, rfl, ?_⟩
  refine ⟨congrArg _ (Eq.symm (decide_eq_false ?_)), hS⟩
  rintro rfl
  omega
 ·
  skip
  try simp only [dcl] at hc1
  refine W_skip ?_
  refine W_seq ?_
  have hle : ma.length = mb.length := by omega
  refine W_sr rfl (fun K hK => ?_)
  refine sv hF (v_assign rfl) rfl ?_; clear hF a; intro a hF
  refine WL_nil (hK _ _ ?_)
  clear hK K
  replace hF := hF.sub _ (c_ 5 rfl (c_ 4 rfl (c_ 0 rfl (c_ 1 rfl (n_)))))
  refine W_block ?_
  refine W_loop (fun m a w1 => ∃ (i : Nat), Fr 53 [(0, .slice pma ma.length cma), (1, .slice pmb mb.length cmb), (5, .int .i64 (i : Int))] a ∧ (St FDx B w w1) ∧ (Mat FDx B M w1 pma cma ma) ∧ (Mat FDx B M w1 pmb cmb mb) ∧ (i ≤ ma.length) ∧ (ma.take i = mb.take i) ∧ (m + i = ma.length)) (ma.length) ?_ ?_
  ·
   skip
   exact ⟨0, hF.sub _ (c_ 0 rfl (c_ 1 rfl (c_ 5 rfl (n_)))), hS, hAma, hAmb, by omega, by simp, by omega⟩
  ·
   skip
   clear hF
   clear hS hAma hAmb
   rintro m a w1 ⟨i, hF, hS, hAma, hAmb, hi, hn, hm⟩
   refine W_seq ?_
   refine W_sr rfl (fun K hK => ?_)
   refine sv2 hF (v_move rfl) (v_move rfl) rfl rfl ?_; clear hF a; intro a hF
   refine sv hF (v_lenS rfl sl35 rfl) rfl ?_; clear hF a; intro a hF
   refine sv hF (v_lss rfl rfl) rfl ?_; clear hF a; intro a hF
   refine WL_nil (hK _ _ ?_)
   clear hK K
   replace hF := hF.sub _ (c_ 15 rfl (c_ 0 rfl (c_ 1 rfl (c_ 5 rfl (n_)))))
   refine W_if hF rfl (fun hc2 => ?_) (fun hc2 => ?_)
   ·
    skip
    try simp only [dcl] at hc2
    have hlt : i < ma.length := by omega
    obtain ⟨gma, oma, rfl⟩ := hAma.at1 (by omega)
    obtain ⟨gmb, omb, rfl⟩ := hAmb.at1 (by omega)
    obtain ⟨r, hr⟩ : ∃ z, ma[i]? = some z := ⟨_, List.getElem?_eq_getElem (by omega)⟩
    obtain ⟨pr, cr, hkr, hrowr, -⟩ := hAma.row2 hr
    obtain ⟨s, hs⟩ : ∃ z, mb[i]? = some z := ⟨_, List.getElem?_eq_getElem (by omega)⟩
    obtain ⟨ps, cs, hks, hrows, -⟩ := hAmb.row2 hs
    have hrl := hbma r (List.mem_of_getElem? hr)
    refine W_skip ?_
    refine W_seq ?_
    refine W_block ?_
    refine W_seq ?_
    refine W_sd (m := 11) rfl hmix hS.inv (fun K hK w1 hS' hh => ?_)
    replace hAma := hAma.st hS'
    replace hAmb := hAmb.st hS'
    replace hkr := hkr.st hS'
    replace hks := hks.st hS'
    replace hS := hS.trans hS'
    clear hS'
    clear hh
    refine a_v (i := 0) rfl (by kernel_rfl) hF (fun w2 hx => v_move rfl) rfl ?_; clear hF a; intro a hF
    refine a_v (i := 1) rfl (by kernel_rfl) hF (fun w2 hx => v_move rfl) rfl ?_; clear hF a; intro a hF
    refine a_v (i := 2) rfl (by kernel_rfl) hF (fun w2 hx => v_ixS sl35 rfl rfl (by omega) (by omega)) rfl ?_; clear hF a; intro a hF
    refine a_v (i := 3) rfl (by kernel_rfl) hF (fun w2 hx => v_load sc53 rfl (by rw [toNat_c]; exact hkr.ld hx)) rfl ?_; clear hF a; intro a hF
    refine a_v (i := 4) rfl (by kernel_rfl) hF (fun w2 hx => v_lenS rfl sl53 rfl) rfl ?_; clear hF a; intro a hF
    refine a_v (i := 5) rfl (by kernel_rfl) hF (fun w2 hx => v_move rfl) rfl ?_; clear hF a; intro a hF
    refine a_v (i := 6) rfl (by kernel_rfl) hF (fun w2 hx => v_move rfl) rfl ?_; clear hF a; intro a hF
    refine a_v (i := 7) rfl (by kernel_rfl) hF (fun w2 hx => v_ixS sl35 rfl rfl (by omega) (by omega)) rfl ?_; clear hF a; intro a hF
    refine a_v (i := 8) rfl (by kernel_rfl) hF (fun w2 hx => v_load sc53 rfl (by rw [toNat_c]; exact hks.ld hx)) rfl ?_; clear hF a; intro a hF
    refine a_v (i := 9) rfl (by kernel_rfl) hF (fun w2 hx => v_lenS rfl sl53 rfl) rfl ?_; clear hF a; intro a hF
    refine a_v (i := 10) rfl (by kernel_rfl) hF (fun w2 hx => v_neq rfl rfl) rfl ?_; clear hF a; intro a hF
    refine a_done (by kernel_rfl) (hK _ _ ?_)
    clear hK K
    replace hF := hF.sub _ (c_ 28 rfl (c_ 0 rfl (c_ 1 rfl (c_ 5 rfl (n_)))))
    refine W_if hF rfl (fun hc3 => ?_) (fun hc3 => ?_)
    ·
     skip
     try simp only [dcl] at hc3
     refine W_sr rfl (fun K hK => ?_)
     refine sv hF (v_assign rfl) rfl ?_; clear hF a; intro a hF
     refine WL_nil (hK _ _ ?_)
     clear hK K
     replace hF := hF.sub _ (c_ 4 rfl (c_ 0 rfl (c_ 1 rfl (c_ 5 rfl (n_)))))
     refine W_ret ?_
     refine ⟨_, _, hF, rfl, ?_⟩
     refine ⟨congrArg _ (Eq.symm (decide_eq_false ?_)), hS⟩
     rintro rfl
     rw [hr] at hs
     obtain rfl := Option.some.inj hs
     omega
    ·
     skip
     try simp only [dcl] at hc3
     refine W_skip ?_
     have hls : r.length = s.length := by omega
     refine W_sr rfl (fun K hK => ?_)
     refine sv hF (v_assign rfl) rfl ?_; clear hF a; intro a hF
     refine WL_nil (hK _ _ ?_)
     clear hK K
     replace hF := hF.sub _ (c_ 6 rfl (c_ 0 rfl (c_ 1 rfl (c_ 5 rfl (n_)))))
     refine W_block ?_
     refine W_loop (fun m2 a w2 => ∃ (j : Nat), Fr 53 [(0, .slice (some ⟨gma, oma, none⟩) ma.length cma), (1, .slice (some ⟨gmb, omb, none⟩) mb.length cmb), (5, .int .i64 (i : Int)), (6, .int .i64 (j : Int))] a ∧ (St FDx B w w2) ∧ (Mat FDx B M w2 (some ⟨gma, oma, none⟩) cma ma) ∧ (Mat FDx B M w2 (some ⟨gmb, omb, none⟩) cmb mb) ∧ (j ≤ r.length) ∧ (r.take j = s.take j) ∧ (m2 + j = r.length)) (r.length) ?_ ?_
     ·
      skip
      exact ⟨0, hF.sub _ (c_ 0 rfl (c_ 1 rfl (c_ 5 rfl (c_ 6 rfl (n_))))), hS, hAma, hAmb, by omega, by simp, by omega⟩
     ·
      skip
      clear hF
      clear hS hAma hAmb hkr hrowr hks hrows
      rintro m2 a w2 ⟨j, hF, hS, hAma, hAmb, hj, hn2, hm2⟩
      refine W_seq ?_
      obtain ⟨pr, cr, hkr, hrowr, -⟩ := hAma.row2 hr
      obtain ⟨ps, cs, hks, hrows, -⟩ := hAmb.row2 hs
      refine W_sr rfl (fun K hK => ?_)
      refine sv3 hF (v_move rfl) (v_move rfl) (v_move rfl) rfl rfl rfl ?_; clear hF a; intro a hF
      refine sv hF (v_ixS sl35 rfl rfl (by omega) (by omega)) rfl ?_; clear hF a; intro a hF
      refine sv hF (v_load sc53 rfl (by rw [toNat_c]; exact hkr.c)) rfl ?_; clear hF a; intro a hF
      refine sv hF (v_lenS rfl sl53 rfl) rfl ?_; clear hF a; intro a hF
      refine sv hF (v_lss rfl rfl) rfl ?_; clear hF a; intro a hF
      refine WL_nil (hK _ _ ?_)
      clear hK K
      replace hF := hF.sub _ (c_ 35 rfl (c_ 0 rfl (c_ 1 rfl (c_ 5 rfl (c_ 6 rfl (n_))))))
      refine W_if hF rfl (fun hc4 => ?_) (fun hc4 => ?_)
      ·
       skip
       try simp only [dcl] at hc4
       have hlt2 : j < r.length := by omega
       obtain ⟨x, hx⟩ : ∃ z, r[j]? = some z := ⟨_, List.getElem?_eq_getElem (by omega)⟩
       obtain ⟨gxx, oxx, hgxx, hkx, -⟩ := hrowr.kat (zints_at hx)
       subst hgxx
       obtain ⟨y, hy⟩ : ∃ z, s[j]? = some z := ⟨_, List.getElem?_eq_getElem (by omega)⟩
       obtain ⟨gxy, oxy, hgxy, hky, -⟩ := hrows.kat (zints_at hy)
       subst hgxy
       refine W_skip ?_
       refine W_seq ?_
       refine W_block ?_
       refine W_sd (m := 15) rfl hmix hS.inv (fun K hK w1 hS' hh => ?_)
       replace hAma := hAma.st hS'
       replace hAmb := hAmb.st hS'
       replace hkr := hkr.st hS'
       replace hks := hks.st hS'
       replace hkx := hkx.st hS'
       replace hky := hky.st hS'
       replace hS := hS.trans hS'
       clear hS'
       clear hh
       refine a_v (i := 0) rfl (by kernel_rfl) hF (fun w2 hx => v_move rfl) rfl ?_; clear hF a; intro a hF
       refine a_v (i := 1) rfl (by kernel_rfl) hF (fun w2 hx => v_move rfl) rfl ?_; clear hF a; intro a hF
       refine a_v (i := 2) rfl (by kernel_rfl) hF (fun w2 hx => v_ixS sl35 rfl rfl (by omega) (by omega)) rfl ?_; clear hF a; intro a hF
       refine a_v (i := 3) rfl (by kernel_rfl) hF (fun w2 hx => v_load sc53 rfl (by rw [toNat_c]; exact hkr.ld hx)) rfl ?_; clear hF a; intro a hF
       refine a_v (i := 4) rfl (by kernel_rfl) hF (fun w2 hx => v_move rfl) rfl ?_; clear hF a; intro a hF
       refine a_v (i := 5) rfl (by kernel_rfl) hF (fun w2 hx => v_ixS sl53 rfl rfl (by omega) (by omega)) rfl ?_; clear hF a; intro a hF
       refine a_v (i := 6) rfl (by kernel_rfl) hF (fun w2 hx => v_load sc3 rfl (by rw [toNat_c]; exact hkx.ld hx)) rfl ?_; clear hF a; intro a hF
       refine a_v (i := 7) rfl (by kernel_rfl) hF (fun w2 hx => v_move rfl) rfl ?_; clear hF a; intro a hF
       refine a_v (i := 8) rfl (by kernel_rfl) hF (fun w2 hx => v_move rfl) rfl ?_; clear hF a; intro a hF
       refine a_v (i := 9) rfl (by kernel_rfl) hF (fun w2 hx => v_ixS sl35 rfl rfl (by omega) (by omega)) rfl ?_; clear hF a; intro a hF
       refine a_v (i := 10) rfl (by kernel_rfl) hF (fun w2 hx => v_load sc53 rfl (by rw [toNat_c]; exact hks.ld hx)) rfl ?_; clear hF a; intro a hF
       refine a_v (i := 11) rfl (by kernel_rfl) hF (fun w2 hx => v_move rfl) rfl ?_; clear hF a; intro a hF
       refine a_v (i := 12) rfl (by kernel_rfl) hF (fun w2 hx => v_ixS sl53 rfl rfl (by omega) (by omega)) rfl ?_; clear hF a; intro a hF
       refine a_v (i := 13) rfl (by kernel_rfl) hF (fun w2 hx => v_load sc3 rfl (by rw [toNat_c]; exact hky.ld hx)) rfl ?_; clear hF a; intro a hF
       refine a_v (i := 14) rfl (by kernel_rfl) hF (fun w2 hx => v_neq rfl rfl) rfl ?_; clear hF a; intro a hF
       refine a_done (by kernel_rfl) (hK _ _ ?_)
       clear hK K
       replace hF := hF.sub _ (c_ 52 rfl (c_ 0 rfl (c_ 1 rfl (c_ 5 rfl (c_ 6 rfl (n_))))))
       refine W_if hF rfl (fun hc5 => ?_) (fun hc5 => ?_)
       ·
        skip
        try simp only [dcl] at hc5
        refine W_sr rfl (fun K hK => ?_)
        refine sv hF (v_assign rfl) rfl ?_; clear hF a; intro a hF
        refine WL_nil (hK _ _ ?_)
        clear hK K
        replace hF := hF.sub _ (c_ 4 rfl (c_ 0 rfl (c_ 1 rfl (c_ 5 rfl (c_ 6 rfl (n_))))))
        refine W_ret ?_
        refine ⟨_, _, hF, rfl, ?_⟩
        refine ⟨congrArg _ (Eq.symm (decide_eq_false ?_)), hS⟩
        rintro rfl
        rw [hr] at hs
        obtain rfl := Option.some.inj hs
        rw [hx] at hy
        obtain rfl := Option.some.inj hy
        omega
       ·
        skip
        try simp only [dcl] at hc5
        refine W_skip ?_
        refine W_reg rfl (fun K hK => ?_)
        refine sv hF (v_move rfl) rfl ?_; clear hF a; intro a hF
        refine sv hF (v_addI rfl rfl (by omega)) rfl ?_; clear hF a; intro a hF
        refine sv hF (v_assign rfl) rfl ?_; clear hF a; intro a hF
        refine WL_nil (hK _ _ ?_)
        clear hK K
        replace hF := hF.sub _ (c_ 6 rfl (c_ 37 rfl (c_ 36 rfl (c_ 0 rfl (c_ 1 rfl (c_ 5 rfl (n_)))))))
        exact ⟨m2 - 1, by omega, j + 1, hF.sub _ (c_ 0 rfl (c_ 1 rfl (c_ 5 rfl (c_ 6 rfl (n_))))), hS, hAma, hAmb, by omega, take_snoc_eq hn2 hx (by rw [hy]; congr 1; omega), by omega⟩
      ·
       skip
       try simp only [dcl] at hc4
       obtain rfl : j = r.length := by omega
       obtain rfl : r = s := by rw [List.take_length, List.take_of_length_le (by omega)] at hn2; exact hn2
       refine W_exit rfl ?_
       refine W_reg rfl (fun K hK => ?_)
       refine sv hF (v_move rfl) rfl ?_; clear hF a; intro a hF
       refine sv hF (v_addI rfl rfl (by omega)) rfl ?_; clear hF a; intro a hF
       refine sv hF (v_assign rfl) rfl ?_; clear hF a; intro a hF
       refine WL_nil (hK _ _ ?_)
       clear hK K
       replace hF := hF.sub _ (c_ 5 rfl (c_ 17 rfl (c_ 16 rfl (c_ 0 rfl (c_ 1 rfl (c_ 6 rfl (n_)))))))
       exact ⟨m - 1, by omega, i + 1, hF.sub _ (c_ 0 rfl (c_ 1 rfl (c_ 5 rfl (n_)))), hS, hAma, hAmb, by omega, take_snoc_eq hn hr hs, by omega⟩
   ·
    skip
    try simp only [dcl] at hc2
    refine W_exit rfl ?_
    refine W_sr rfl (fun K hK => ?_)
    refine sv hF (v_assign rfl) rfl ?_; clear hF a; intro a hF
    refine WL_nil (hK _ _ ?_)
    clear hK K
    replace hF := hF.sub _ (c_ 4 rfl (c_ 0 rfl (c_ 1 rfl (c_ 5 rfl (n_)))))
    refine W_ret ?_
    refine ⟨_, _, hF, rfl, ?_⟩
    refine ⟨congrArg _ (Eq.symm (decide_eq_true ?_)), hS⟩
    obtain rfl : i = ma.length := by omega
    rw [List.take_length, List.take_of_length_le (by omega)] at hn
    exact hn

end Go.Proofs.YtkoiolamnnmokaaGreat

/- The walks of gambrelref04: identity, rows picked, joined, products. -/
set_option linter.unusedVariables false
set_option linter.unusedSimpArgs false
namespace Go.Proofs.YtkoiolamnnmokaaGreat
open Go Go.Gam


namespace FxFRef04b
theorem sl35 : Sl Tryz.prog 35 53 (.slice none 0 0) 24 := sl_of Tryz.underlying35 rfl (by kernel_rfl)
theorem sl53 : Sl Tryz.prog 53 3 (.int .i64 0) 8 := sl_of Tryz.underlying53 rfl (by kernel_rfl)
end FxFRef04b
open FxFRef04b

set_option maxRecDepth 100000 in
set_option maxHeartbeats 1000000 in
theorem rIdentity_ok (B : Nat) (n : Int) (w : World) (hI : Inv FDx B w) (hn : -9223372036854775808 ≤ n ∧ n < 9223372036854775808) : Ret Tryz.prog 20 [.int .i64 n] w fun v w' => ∃ ob, MOwn FDx B w.heap.size 0 w'.heap.size w' 53 v ob (identM n) ∧ St FDx B w w' := by
 refine enter 34 [(0, .int .i64 n)] 2 Tryz.func20 rfl rfl rfl rfl rfl ?_; intro a hF
 have hS := St.refl hI
 refine W_sr rfl (fun K hK => ?_)
 refine sv hF (v_assign rfl) rfl ?_; clear hF a; intro a hF
 refine WL_nil (hK _ _ ?_)
 clear hK K
 refine W_sr rfl (fun K hK => ?_)
 refine sv hF (v_assign rfl) rfl ?_; clear hF a; intro a hF
 refine WL_nil (hK _ _ ?_)
 clear hK K
 refine W_seq ?_
 refine W_sr rfl (fun K hK => ?_)
 refine sv hF (v_assign rfl) rfl ?_; clear hF a; intro a hF
 refine WL_nil (hK _ _ ?_)
 clear hK K
 refine W_block ?_
 refine W_loop (fun m a w1 => ∃ (i : Nat) (v3 : Value) (b3 : Option Nat), Fr 34 [(0, .int .i64 n), (3, v3), (4, .int .i64 (i : Int))] a ∧ (St FDx B w w1) ∧ (MOwn FDx B w.heap.size 0 w1.heap.size w1 53 v3 b3 ((List.range i).map (unitR n.toNat))) ∧ (i ≤ n.toNat) ∧ (i = 0 ∨ n ≤ 20) ∧ (m + i = n.toNat)) (n.toNat) ?_ ?_
 ·
  skip
  exact ⟨0, _, none, hF.sub _ (c_ 0 rfl (c_ 3 rfl (c_ 4 rfl (n_)))), hS, MOwn.nil _ _ _ _ _ _ _ (Nat.zero_le _), by omega, by omega, by omega⟩
 ·
  skip
  clear hF
  clear hS
  rintro m a w1 ⟨i, v3, b3, hF, hS, hMO, hi, hi2, hm⟩
  refine W_seq ?_
  obtain ⟨KM, hKe⟩ : ∃ KM, KM = w1.heap.size := ⟨_, rfl⟩
  rw [← hKe] at hMO
  have hKs : KM ≤ w1.heap.size := by omega
  have hNK : w.heap.size ≤ KM := by have := hS.ext.size; omega
  clear hKe
  refine W_sr rfl (fun K hK => ?_)
  refine sv2 hF (v_move rfl) (v_move rfl) rfl rfl ?_; clear hF a; intro a hF
  refine sb hF (v_lss rfl rfl) rfl ?_ ?_
  ·
   clear hF a; intro hc1 a hF
   try simp only [dcl] at hc1
   refine sv hF (v_move rfl) rfl ?_; clear hF a; intro a hF
   refine svg hF rfl ?_
   refine sv hF (v_move rfl) rfl ?_; clear hF a; intro a hF
   refine svg hF rfl ?_
   refine sv hF (v_leq rfl rfl) rfl ?_; clear hF a; intro a hF
   refine sv hF (v_pickT rfl rfl) rfl ?_; clear hF a; intro a hF
   refine WL_nil (hK _ _ ?_)
   clear hK K
   replace hF := hF.sub _ (c_ 14 rfl (c_ 0 rfl (c_ 3 rfl (c_ 4 rfl (n_)))))
   refine W_if hF rfl (fun hc2 => ?_) (fun hc2 => ?_)
   ·
    skip
    try simp only [dcl] at hc2
    refine W_skip ?_
    refine W_seq ?_
    refine W_block ?_
    refine W_sr rfl (fun K hK => ?_)
    refine sv hF (v_assign rfl) rfl ?_; clear hF a; intro a hF
    refine WL_nil (hK _ _ ?_)
    clear hK K
    replace hF := hF.sub _ (c_ 5 rfl (c_ 0 rfl (c_ 3 rfl (c_ 4 rfl (n_)))))
    refine W_seq ?_
    refine W_sr rfl (fun K hK => ?_)
    refine sv hF (v_assign rfl) rfl ?_; clear hF a; intro a hF
    refine WL_nil (hK _ _ ?_)
    clear hK K
    refine W_block ?_
    refine W_loop (fun m2 a w2 => ∃ (j : Nat) (v5 : Value) (b5 : Option Nat), Fr 34 [(0, .int .i64 n), (3, v3), (4, .int .i64 (i : Int)), (5, v5), (6, .int .i64 (j : Int))] a ∧ (St FDx B w w2) ∧ (MOwn FDx B w.heap.size 0 KM w2 53 v3 b3 ((List.range i).map (unitR n.toNat))) ∧ (KM ≤ w2.heap.size) ∧ (Gam.Own FDx B KM w2 FDx.E v5 b5 (zints ((unitR n.toNat i).take j))) ∧ (j ≤ n.toNat) ∧ (m2 + j = n.toNat)) (n.toNat) ?_ ?_
    ·
     skip
     exact ⟨0, _, none, hF.sub _ (c_ 0 rfl (c_ 3 rfl (c_ 4 rfl (c_ 5 rfl (c_ 6 rfl (n_)))))), hS, hMO, hKs, Gam.Own.nil _ _ _ _ _, by omega, by omega⟩
    ·
     skip
     clear hF
     clear hS hMO hKs
     rintro m2 a w2 ⟨j, v5, b5, hF, hS, hMO, hKs, hO, hj, hm2⟩
     refine W_seq ?_
     refine W_sr rfl (fun K hK => ?_)
     refine sv2 hF (v_move rfl) (v_move rfl) rfl rfl ?_; clear hF a; intro a hF
     refine sv hF (v_lss rfl rfl) rfl ?_; clear hF a; intro a hF
     refine WL_nil (hK _ _ ?_)
     clear hK K
     replace hF := hF.sub _ (c_ 19 rfl (c_ 0 rfl (c_ 3 rfl (c_ 4 rfl (c_ 5 rfl (c_ 6 rfl (n_)))))))
     refine W_if hF rfl (fun hc3 => ?_) (fun hc3 => ?_)
     ·
      skip
      try simp only [dcl] at hc3
      refine W_skip ?_
      refine W_seq ?_
      refine W_block ?_
      refine W_sr rfl (fun K hK => ?_)
      refine sv hF (v_assign rfl) rfl ?_; clear hF a; intro a hF
      refine WL_nil (hK _ _ ?_)
      clear hK K
      replace hF := hF.sub _ (c_ 7 rfl (c_ 0 rfl (c_ 3 rfl (c_ 4 rfl (c_ 5 rfl (c_ 6 rfl (n_)))))))
      refine W_seq ?_
      refine W_sr rfl (fun K hK => ?_)
      refine sv2 hF (v_move rfl) (v_move rfl) rfl rfl ?_; clear hF a; intro a hF
      refine sv hF (v_eql rfl rfl) rfl ?_; clear hF a; intro a hF
      refine WL_nil (hK _ _ ?_)
      clear hK K
      replace hF := hF.sub _ (c_ 24 rfl (c_ 7 rfl (c_ 0 rfl (c_ 3 rfl (c_ 4 rfl (c_ 5 rfl (c_ 6 rfl (n_))))))))
      refine W_if hF rfl (fun hc4 => ?_) (fun hc4 => ?_)
      ·
       skip
       try simp only [dcl] at hc4
       refine W_reg rfl (fun K hK => ?_)
       refine sv hF (v_assign rfl) rfl ?_; clear hF a; intro a hF
       refine WL_nil (hK _ _ ?_)
       clear hK K
       replace hF := hF.sub _ (c_ 7 rfl (c_ 0 rfl (c_ 3 rfl (c_ 4 rfl (c_ 5 rfl (c_ 6 rfl (n_)))))))
       have hul := unitR_length n.toNat i
       refine W_reg rfl (fun K hK => ?_)
       refine sv2 hF (v_move rfl) (v_move rfl) rfl rfl ?_; clear hF a; intro a hF
       refine s_bs (D := FDx) (B := B) hF sl53 rfl rfl (by decide) (by simp [Value.cells]) (by decide) hS.inv rfl ?_; clear hF a; intro w' a hm hI' hL hF
       replace hMO := hMO.mb0 hm
       replace hKs := Nat.le_trans hKs hm.size
       replace hO := hO.mb hm (fun _ _ => by simp)
       replace hS := hS.mb0 hm
       clear hm hI'
       refine s_app (D := FDx) (B := B) hF rfl sl53 rfl rfl hO (hL.row (by decide)) (by simp [Value.oneCell']) (by simp; omega) (by simp [maxLen]; omega) (hKs) (by decide) hS.inv rfl ?_; clear hF a; intro v' b' w' a ho' hm hI' hb' hF
       replace hMO := hMO.mbo hm hO (by decide) (Nat.le_refl _) (Nat.zero_le _)
       replace hKs := Nat.le_trans hKs hm.size
       replace hS := hS.mb hm (fun k h => Nat.le_trans (hNK) (hO.lt k h).1)
       replace hO := ho'
       clear hm hI' ho'
       refine sv hF (v_assign rfl) rfl ?_; clear hF a; intro a hF
       refine WL_nil (hK _ _ ?_)
       clear hK K
       replace hF := hF.sub _ (c_ 5 rfl (c_ 0 rfl (c_ 3 rfl (c_ 4 rfl (c_ 6 rfl (n_))))))
       refine W_reg rfl (fun K hK => ?_)
       refine sv hF (v_move rfl) rfl ?_; clear hF a; intro a hF
       refine sv hF (v_addI rfl rfl (by omega)) rfl ?_; clear hF a; intro a hF
       refine sv hF (v_assign rfl) rfl ?_; clear hF a; intro a hF
       refine WL_nil (hK _ _ ?_)
       clear hK K
       exact ⟨m2 - 1, by omega, j + 1, _, _, hF.sub _ (c_ 0 rfl (c_ 3 rfl (c_ 4 rfl (c_ 5 rfl (c_ 6 rfl (n_)))))), hS, hMO, hKs, hO.cast (by rw [unitR_snoc _ _ _ (by omega)]; (first | rw [if_pos (by omega)] | rw [if_neg (by omega)]); simp [zints]), by omega, by omega⟩
      ·
       skip
       try simp only [dcl] at hc4
       refine W_skip ?_
       have hul := unitR_length n.toNat i
       refine W_reg rfl (fun K hK => ?_)
       refine sv2 hF (v_move rfl) (v_move rfl) rfl rfl ?_; clear hF a; intro a hF
       refine s_bs (D := FDx) (B := B) hF sl53 rfl rfl (by decide) (by simp [Value.cells]) (by decide) hS.inv rfl ?_; clear hF a; intro w' a hm hI' hL hF
       replace hMO := hMO.mb0 hm
       replace hKs := Nat.le_trans hKs hm.size
       replace hO := hO.mb hm (fun _ _ => by simp)
       replace hS := hS.mb0 hm
       clear hm hI'
       refine s_app (D := FDx) (B := B) hF rfl sl53 rfl rfl hO (hL.row (by decide)) (by simp [Value.oneCell']) (by simp; omega) (by simp [maxLen]; omega) (hKs) (by decide) hS.inv rfl ?_; clear hF a; intro v' b' w' a ho' hm hI' hb' hF
       replace hMO := hMO.mbo hm hO (by decide) (Nat.le_refl _) (Nat.zero_le _)
       replace hKs := Nat.le_trans hKs hm.size
       replace hS := hS.mb hm (fun k h => Nat.le_trans (hNK) (hO.lt k h).1)
       replace hO := ho'
       clear hm hI' ho'
       refine sv hF (v_assign rfl) rfl ?_; clear hF a; intro a hF
       refine WL_nil (hK _ _ ?_)
       clear hK K
       replace hF := hF.sub _ (c_ 5 rfl (c_ 0 rfl (c_ 3 rfl (c_ 4 rfl (c_ 6 rfl (n_))))))
       refine W_reg rfl (fun K hK => ?_)
       refine sv hF (v_move rfl) rfl ?_; clear hF a; intro a hF
       refine sv hF (v_addI rfl rfl (by omega)) rfl ?_; clear hF a; intro a hF
       refine sv hF (v_assign rfl) rfl ?_; clear hF a; intro a hF
       refine WL_nil (hK _ _ ?_)
       clear hK K
       exact ⟨m2 - 1, by omega, j + 1, _, _, hF.sub _ (c_ 0 rfl (c_ 3 rfl (c_ 4 rfl (c_ 5 rfl (c_ 6 rfl (n_)))))), hS, hMO, hKs, hO.cast (by rw [unitR_snoc _ _ _ (by omega)]; (first | rw [if_pos (by omega)] | rw [if_neg (by omega)]); simp [zints]), by omega, by omega⟩
     ·
      skip
      try simp only [dcl] at hc3
      refine W_exit rfl ?_
      obtain rfl : j = n.toNat := by omega
      rw [List.take_of_length_le (by rw [unitR_length]; omega)] at hO
      refine W_reg rfl (fun K hK => ?_)
      refine sv2 hF (v_move rfl) (v_move rfl) rfl rfl ?_; clear hF a; intro a hF
      obtain ⟨a_, c_r, rfl⟩ := hO.shape
      refine s_bs (D := FDx) (B := B) hF sl35 rfl rfl (by decide) (by simp [Value.cells]) (by decide) hS.inv rfl ?_; clear hF a; intro w' a hm hI' hL hF
      replace hMO := hMO.mb0 hm
      replace hKs := Nat.le_trans hKs hm.size
      replace hO := hO.mb hm (fun _ _ => by simp)
      replace hS := hS.mb0 hm
      clear hm hI'
      replace hMO := hMO.up hKs
      clear hKs
      refine s_appM (D := FDx) (B := B) hF rfl sl35 rfl rfl hMO hL (.of hO (Nat.zero_le _)) rfl rfl (by simp; omega) (hS.ext.size) (by decide) (by decide) hS.inv rfl ?_; clear hF a; intro v' b' w' a ho' hm hI' hF
      replace hS := hS.mb hm (fun k h => (hMO.lt k h).1)
      have hKm := hm.size
      replace hMO := ho'
      clear hm hI' ho' hL
      refine sv hF (v_assign rfl) rfl ?_; clear hF a; intro a hF
      refine WL_nil (hK _ _ ?_)
      clear hK K
      replace hF := hF.sub _ (c_ 3 rfl (c_ 32 rfl (c_ 31 rfl (c_ 30 rfl (c_ 29 rfl (c_ 0 rfl (c_ 4 rfl (c_ 5 rfl (c_ 6 rfl (n_))))))))))
      refine W_reg rfl (fun K hK => ?_)
      refine sv hF (v_move rfl) rfl ?_; clear hF a; intro a hF
      refine sv hF (v_addI rfl rfl (by omega)) rfl ?_; clear hF a; intro a hF
      refine sv hF (v_assign rfl) rfl ?_; clear hF a; intro a hF
      refine WL_nil (hK _ _ ?_)
      clear hK K
      exact ⟨m - 1, by omega, i + 1, _, _, hF.sub _ (c_ 0 rfl (c_ 3 rfl (c_ 4 rfl (n_)))), hS, (hMO.up hKm).cast (idM_snoc _ _).symm, by omega, by omega, by omega⟩
   ·
    skip
    try simp only [dcl] at hc2
    refine W_exit rfl ?_
    refine W_sr rfl (fun K hK => ?_)
    refine sv2 hF (v_move rfl) (v_assign rfl) rfl rfl ?_; clear hF a; intro a hF
    refine WL_nil (hK _ _ ?_)
    clear hK K
    replace hF := hF.sub _ (c_ 2 rfl (c_ 33 rfl (c_ 0 rfl (c_ 3 rfl (c_ 4 rfl (n_))))))
    refine W_ret ?_
    refine ⟨_, _, hF, rfl, ?_⟩
    rw [ident_done (by omega)] at hMO
    exact ⟨_, hMO.up hKs, hS⟩
  ·
   clear hF a; intro hc1 a hF
   try simp only [dcl] at hc1
   refine sv hF (v_move rfl) rfl ?_; clear hF a; intro a hF
   refine svn hF rfl rfl rfl ?_; clear hF a; intro a hF
   refine svn hF rfl rfl rfl ?_; clear hF a; intro a hF
   refine sv hF (v_pickF rfl rfl) rfl ?_; clear hF a; intro a hF
   refine WL_nil (hK _ _ ?_)
   clear hK K
   replace hF := hF.sub _ (c_ 14 rfl (c_ 0 rfl (c_ 3 rfl (c_ 4 rfl (n_)))))
   refine W_ifF hF rfl ?_
   refine W_exit rfl ?_
   refine W_sr rfl (fun K hK => ?_)
   refine sv2 hF (v_move rfl) (v_assign rfl) rfl rfl ?_; clear hF a; intro a hF
   refine WL_nil (hK _ _ ?_)
   clear hK K
   replace hF := hF.sub _ (c_ 2 rfl (c_ 33 rfl (c_ 0 rfl (c_ 3 rfl (c_ 4 rfl (n_))))))
   refine W_ret ?_
   refine ⟨_, _, hF, rfl, ?_⟩
   rw [ident_done (by omega)] at hMO
   exact ⟨_, hMO.up hKs, hS⟩

end Go.Proofs.YtkoiolamnnmokaaGreat

/- What the statements of layer 9 call first. -/
set_option linter.unusedVariables false
set_option linter.unusedSimpArgs false
namespace Go.Proofs.YtkoiolamnnmokaaGreat
open Go Go.Gam


namespace FxFAw09
theorem en7 : Ent Tryz.prog 7 := ent Tryz.func7 (by kernel_rfl) (by kernel_rfl)
theorem en11 : Ent Tryz.prog 11 := ent Tryz.func11 (by kernel_rfl) (by kernel_rfl)
theorem en13 : Ent Tryz.prog 13 := ent Tryz.func13 (by kernel_rfl) (by kernel_rfl)
theorem en14 : Ent Tryz.prog 14 := ent Tryz.func14 (by kernel_rfl) (by kernel_rfl)
theorem en16 : Ent Tryz.prog 16 := ent Tryz.func16 (by kernel_rfl) (by kernel_rfl)
theorem en17 : Ent Tryz.prog 17 := ent Tryz.func17 (by kernel_rfl) (by kernel_rfl)
theorem fa27_0 : FieldFact Tryz.prog 27 0 0 := ff_of (sz := 0) Tryz.underlying27 (by kernel_rfl)
theorem fa27_1 : FieldFact Tryz.prog 27 1 1 := ff_of (sz := 0) Tryz.underlying27 (by kernel_rfl)
theorem fa27_4 : FieldFact Tryz.prog 27 4 4 := ff_of (sz := 0) Tryz.underlying27 (by kernel_rfl)
theorem sc3 : Scalar Tryz.prog 3 := ⟨_, Tryz.underlying3, by simp, by simp⟩
theorem sc9 : Scalar Tryz.prog 9 := ⟨_, Tryz.underlying9, by simp, by simp⟩
theorem sl35 : Sl Tryz.prog 35 53 (.slice none 0 0) 24 := sl_of Tryz.underlying35 rfl (by kernel_rfl)
theorem sl53 : Sl Tryz.prog 53 3 (.int .i64 0) 8 := sl_of Tryz.underlying53 rfl (by kernel_rfl)
end FxFAw09
open FxFAw09

theorem Same4_t (B M : Nat) (pma : Option Addr) (cma : Nat) (ma : Mtx) (pmb : Option Addr) (cmb : Nat) (mb : Mtx) (w : World) (hI : Inv FDx B w) (hAma : Mat FDx B M w pma cma ma) (hAmb : Mat FDx B M w pmb cmb mb) (hlma : ma.length ≤ 1000) (hbma : ∀ r ∈ ma, r.length ≤ 1000) (e : ma = mb) :
  Ret Tryz.prog 16 [.slice pma ma.length cma, .slice pmb mb.length cmb] w fun v w' => v = .bool true ∧ St FDx B w w' :=
 (Same04_ok B M pma cma ma pmb cmb mb w hI hAma hAmb hlma hbma).mono fun v w' h => by rw [decide_eq_true e] at h; exact h

set_option maxRecDepth 100000 in
set_option maxHeartbeats 1000000 in
theorem aw09_ok (B : Nat) (w : World) (hI : Inv FDx B w) : Ret Tryz.prog 6 [] w fun v w' => v = .bool true ∧ St FDx B w w' := by
 refine enter 51 [] 0 Tryz.func6 rfl rfl rfl rfl rfl ?_; intro a hF
 have hS := St.refl hI
 refine W_sr rfl (fun K hK => ?_)
 refine sv hF (v_assign rfl) rfl ?_; clear hF a; intro a hF
 refine WL_nil (hK _ _ ?_)
 clear hK K
 refine W_sr rfl (fun K hK => ?_)
 refine sc hF rfl rfl rfl en7 rfl (POf_ok B 3 _ hS.inv) ?_; clear hF a; intro v w' a hv hF
 obtain ⟨rfl, hS'⟩ := hv
 replace hS := hS.trans hS'
 clear hS'
 refine sv2 hF (v_move rfl) (v_ext rfl rfl) rfl rfl ?_; clear hF a; intro a hF
 refine sv hF ((v_ext rfl rfl).as (congrArg Value.bool (decide_eq_true (by decide)))) rfl ?_; clear hF a; intro a hF
 have hs0 := hS.ext.size
 refine s_allocN (D := FDx) (B := B) (z := .agg prz.toArray) hF (by kernel_rfl) (by decide) hS.inv rfl ?_; clear hF a; intro gp w' a hm hI' hp hF
 replace hS := hS.mb0 hm
 clear hm hI'
 have hghp := hp.low
 replace hp := hp.le hs0
 clear hs0
 refine s_storeN (D := FDx) (B := B) hF (by rw [List.size_toArray, prOf_len]; kernel_rfl) rfl rfl (prOf_one 3) (by rw [List.size_toArray, prOf_len]; rfl) hp hS.inv ?_; intro w' hm hI' hrc'
 replace hS := hS.mb hm (fun k h => by cases h; exact hp.low)
 replace hp := hrc'
 clear hm hI' hrc'
 refine sv hF (v_assign rfl) rfl ?_; clear hF a; intro a hF
 refine WL_nil (hK _ _ ?_)
 clear hK K
 replace hF := hF.sub _ (c_ 2 rfl (c_ 1 rfl (c_ 0 rfl (n_))))
 refine W_sr rfl (fun K hK => ?_)
 refine sv hF (v_build (cs := #[.int .i64 3, .int .i64 2, .int .i64 2]) rfl (by kernel_rfl)) rfl ?_; clear hF a; intro a hF
 refine sc hF rfl rfl rfl en11 rfl (PPar_ok B 3 2 2 _ hS.inv rfl) ?_; clear hF a; intro v w' a hv hF
 obtain ⟨sX, cX, rfl, hX, hS'⟩ := hv
 replace hp := hp.st hS'
 replace hS := hS.trans hS'
 clear hS'
 rw [aw9_par] at hX
 refine sv5 hF (v_move rfl) (v_ext rfl rfl) (v_ext rfl rfl) (v_assign rfl) (v_assign rfl) rfl rfl rfl rfl rfl ?_; clear hF a; intro a hF
 refine WL_nil (hK _ _ ?_)
 clear hK K
 replace hF := hF.sub _ (c_ 4 rfl (c_ 3 rfl (c_ 2 rfl (c_ 1 rfl (c_ 0 rfl (n_))))))
 refine W_sr rfl (fun K hK => ?_)
 refine sv2 hF (v_move rfl) (v_move rfl) rfl rfl ?_; clear hF a; intro a hF
 refine svg hF rfl ?_
 refine sv hF (v_fieldAddr fa27_0 rfl) rfl ?_; clear hF a; intro a hF
 refine svg hF rfl ?_
 refine sv hF (v_load sc9 rfl (hp.blk.at 0 rfl)) rfl ?_; clear hF a; intro a hF
 refine svg hF rfl ?_
 refine sv hF ((v_eqlS rfl rfl).as (congrArg Value.bool (rfl))) rfl ?_; clear hF a; intro a hF
 refine sv2 hF (v_pickT rfl rfl) (v_move rfl) rfl rfl ?_; clear hF a; intro a hF
 refine svg hF rfl ?_
 refine sv hF (v_fieldAddr fa27_1 rfl) rfl ?_; clear hF a; intro a hF
 refine svg hF rfl ?_
 refine sv hF (v_load sc3 rfl (hp.blk.at 1 rfl)) rfl ?_; clear hF a; intro a hF
 refine svg hF rfl ?_
 refine sv hF ((v_eql rfl rfl).as (congrArg Value.bool (decide_eq_true (rfl)))) rfl ?_; clear hF a; intro a hF
 refine sv2 hF (v_pickT rfl rfl) (v_move rfl) rfl rfl ?_; clear hF a; intro a hF
 refine svg hF rfl ?_
 refine sv hF (v_fieldAddr fa27_4 rfl) rfl ?_; clear hF a; intro a hF
 refine svg hF rfl ?_
 refine sv hF (v_load sc3 rfl (hp.blk.at 4 rfl)) rfl ?_; clear hF a; intro a hF
 refine svg hF rfl ?_
 refine sv hF ((v_eql rfl rfl).as (congrArg Value.bool (decide_eq_true (rfl)))) rfl ?_; clear hF a; intro a hF
 refine sv2 hF (v_pickT rfl rfl) (v_move rfl) rfl rfl ?_; clear hF a; intro a hF
 refine svg hF rfl ?_
 refine sv hF (v_move rfl) rfl ?_; clear hF a; intro a hF
 refine svg hF rfl ?_
 refine sv hF ((v_eql rfl rfl).as (congrArg Value.bool (decide_eq_true (rfl)))) rfl ?_; clear hF a; intro a hF
 refine sv2 hF (v_pickT rfl rfl) (v_move rfl) rfl rfl ?_; clear hF a; intro a hF
 refine svg hF rfl ?_
 refine sv hF (v_move rfl) rfl ?_; clear hF a; intro a hF
 refine svg hF rfl ?_
 refine s_bs (D := FDx) (B := B) hF sl53 rfl rfl (by decide) (by simp [Value.cells]) (by decide) hS.inv rfl ?_; clear hF a; intro w' a hm hI' h1 hF
 replace hp := hp.mb hm (by simp)
 replace hX := (hX.mb hm (fun _ h => by cases h)).mono hm.size
 replace hS := hS.mb0 hm
 clear hm hI'
 refine svg hF rfl ?_
 refine s_bs (D := FDx) (B := B) hF sl53 rfl rfl (by decide) (by simp [Value.cells]) (by decide) hS.inv rfl ?_; clear hF a; intro w' a hm hI' h2 hF
 replace hp := hp.mb hm (by simp)
 replace hX := (hX.mb hm (fun _ h => by cases h)).mono hm.size
 replace h1 := h1.mb hm (fun _ _ => by simp)
 replace hS := hS.mb0 hm
 clear hm hI'
 refine svg hF rfl ?_
 refine s_bs (D := FDx) (B := B) hF sl35 rfl rfl (by decide) (by simp [Value.cells]) (by decide) hS.inv rfl ?_; clear hF a; intro w' a hm hI' h3 hF
 replace hp := hp.mb hm (by simp)
 replace hX := (hX.mb hm (fun _ h => by cases h)).mono hm.size
 replace h1 := h1.mb hm (fun _ _ => by simp)
 replace h2 := h2.mb hm (fun _ _ => by simp)
 replace hS := hS.mb0 hm
 clear hm hI'
 refine svg hF rfl ?_
 refine sc hF rfl rfl rfl en16 rfl (Same4_t B _ _ _ [[1, 1], [1, 2]] _ _ [[1, 1], [1, 2]] _ hS.inv hX (Mat.two h3 (by decide) ((h1.cast (ys := zints [1, 1]) rfl).row (by decide)) ((h2.cast (ys := zints [1, 2]) rfl).row (by decide))) (aw6_len _ _ _ _).1 (aw6_len _ _ _ _).2 rfl) ?_; clear hF a; intro v w' a hv hF
 obtain ⟨rfl, hS'⟩ := hv
 replace hS := hS.trans hS'
 clear hS'
 refine sv2 hF (v_pickT rfl rfl) (v_move rfl) rfl rfl ?_; clear hF a; intro a hF
 refine svg hF rfl ?_
 refine sv hF (v_build (cs := #[.int .i64 3, .int .i64 2, .int .i64 4]) rfl (by kernel_rfl)) rfl ?_; clear hF a; intro a hF
 refine svg hF rfl ?_
 refine sc hF rfl rfl rfl en14 rfl (PMay_ok B 3 2 4 _ hS.inv) ?_; clear hF a; intro v w' a hv hF
 obtain ⟨rfl, hS'⟩ := hv
 replace hS := hS.trans hS'
 clear hS'
 rw [show mayP 3 2 4 = false from rfl] at hF
 refine svg hF rfl ?_
 refine sv hF (v_not rfl) rfl ?_; clear hF a; intro a hF
 refine sv2 hF (v_pickT rfl rfl) (v_move rfl) rfl rfl ?_; clear hF a; intro a hF
 refine svg hF rfl ?_
 refine sc hF rfl rfl rfl en13 rfl (PField_in B 2 _ hS.inv (by decide)) ?_; clear hF a; intro v w' a hv hF
 obtain ⟨fv, hfv⟩ : ∃ x, x = v := ⟨_, rfl⟩
 subst hfv
 obtain ⟨hf, hS'⟩ := hv
 replace hS := hS.trans hS'
 clear hS'
 refine svg hF rfl ?_
 refine sc hF rfl rfl rfl en17 rfl (Bits_ok B (some (pfl 2)) fv _ hf) ?_; clear hF a; intro v w' a hv hF
 obtain ⟨rfl, hw⟩ := hv
 obtain rfl := hw.symm
 have hS' := St.refl hS.inv
 replace hf := hf.st hS'
 replace hS := hS.trans hS'
 clear hS'
 refine svg hF rfl ?_
 refine sv hF ((v_eql rfl rfl).as (congrArg Value.bool (decide_eq_true (rfl)))) rfl ?_; clear hF a; intro a hF
 refine sv2 hF (v_pickT rfl rfl) (v_assign rfl) rfl rfl ?_; clear hF a; intro a hF
 refine WL_nil (hK _ _ ?_)
 clear hK K
 replace hF := hF.sub _ (c_ 0 rfl (n_))
 refine W_ret ?_
 refine ⟨_, _, hF, rfl, ?_⟩
 exact ⟨rfl, hS⟩

end Go.Proofs.YtkoiolamnnmokaaGreat

/- Rows that are gathered, one of them changed for another; what gambrelref05 reduces. No program in sight. -/
set_option linter.unusedVariables false
set_option linter.unusedSimpArgs false
set_option linter.unusedSectionVars false
namespace Go.Gam
open Px

section
variable {P : Program} {ops : Array Oper} {K' : Kont} {rest : List Oper} {n : NN} {F : Fs} {T : TypeId} {pp : String} {af : Array Edge} {v : Value} {d : Nat} {a : Act} {w : World} {x y : Operand} {D : FD} {B : Nat}
end
def pivI (f : Tb) (n c t : Nat) : Int := match Fld.piv f n c t (n - t) with | none => -1 | some k => (k : Int)
namespace Fld
variable (F : Fld)
end Fld
def xorZ (a b : List Int) : List Int := List.zipWith (fun x y => ((x.toNat ^^^ y.toNat : Nat) : Int)) a b
end Go.Gam

/- The walks of gambrelref05: rows times a number, two rows together, pivots, rows reduced. -/
set_option linter.unusedVariables false
set_option linter.unusedSimpArgs false
namespace Go.Proofs.YtkoiolamnnmokaaGreat
open Go Go.Gam


namespace FxFRef05
end FxFRef05
open FxFRef05

end Go.Proofs.YtkoiolamnnmokaaGreat

/- The walks of gambrelref04: products. -/
set_option linter.unusedVariables false
set_option linter.unusedSimpArgs false
namespace Go.Proofs.YtkoiolamnnmokaaGreat
open Go Go.Gam


namespace FxFRef04c
end FxFRef04c
open FxFRef04c

end Go.Proofs.YtkoiolamnnmokaaGreat

/- The walk of gambrelref04: Apply. -/
set_option linter.unusedVariables false
set_option linter.unusedSimpArgs false
namespace Go.Proofs.YtkoiolamnnmokaaGreat
open Go Go.Gam


namespace FxFRef04d
end FxFRef04d
open FxFRef04d

end Go.Proofs.YtkoiolamnnmokaaGreat

/- The walks of gambrelref05: inverses, ranks, what is solved. -/
set_option linter.unusedVariables false
set_option linter.unusedSimpArgs false
namespace Go.Proofs.YtkoiolamnnmokaaGreat
open Go Go.Gam


namespace FxFRef05b
end FxFRef05b
open FxFRef05b

end Go.Proofs.YtkoiolamnnmokaaGreat

/- The walks of gambrelref06: rows of powers. -/
set_option linter.unusedVariables false
set_option linter.unusedSimpArgs false
namespace Go.Proofs.YtkoiolamnnmokaaGreat
open Go Go.Gam


namespace FxFRef06
end FxFRef06
open FxFRef06

end Go.Proofs.YtkoiolamnnmokaaGreat

/- The walks of gambrelref07: rows of powers, parity rows. -/
set_option linter.unusedVariables false
set_option linter.unusedSimpArgs false
namespace Go.Proofs.YtkoiolamnnmokaaGreat
open Go Go.Gam


namespace FxFRef07
end FxFRef07
open FxFRef07

end Go.Proofs.YtkoiolamnnmokaaGreat

/- Rows of inverses: any of them, of as many columns, have an inverse. Choices of numbers that rise; rows that are safe. No program in sight. -/
set_option linter.unusedVariables false
set_option linter.unusedSimpArgs false
set_option linter.unusedSectionVars false
namespace Go.Gam
open Px

namespace Fld
variable (F : Fld)
theorem cau_term {a b t z : Nat} (ha : a < 2 ^ F.w) (hb : b < 2 ^ F.w) (ha0 : a ≠ 0) (hb0 : b ≠ 0) :
    F.mul (F.mul (a ^^^ t) (F.inv a)) z ^^^ F.mul (F.mul (b ^^^ t) (F.inv b)) z = F.mul (a ^^^ b) (F.mul (F.inv a) (F.mul (F.mul t (F.inv b)) z)) := by
  have e1 : ∀ u v s : Nat, F.mul u (F.mul v s) = F.mul v (F.mul u s) := fun u v s => by rw [← F.assoc, F.comm u v, F.assoc]
  have h1 : F.mul a (F.mul (F.inv a) (F.mul (F.mul t (F.inv b)) z)) = F.mul (F.mul t (F.inv b)) z := by rw [← F.assoc, F.mul_inv ha ha0, F.one _ (F.lt _ _)]
  have h2 : F.mul b (F.mul (F.inv a) (F.mul (F.mul t (F.inv b)) z)) = F.mul (F.mul t (F.inv a)) z := by
    have e2 : F.mul (F.inv a) (F.mul (F.mul t (F.inv b)) z) = F.mul (F.inv b) (F.mul (F.mul t (F.inv a)) z) := by
      rw [F.assoc, F.assoc, e1 t (F.inv b) z, e1 (F.inv a) (F.inv b), e1 t (F.inv a) z]
    rw [e2, ← F.assoc, F.mul_inv hb hb0, F.one _ (F.lt _ _)]
  rw [F.dist_r a t, F.dist_r b t, F.mul_inv ha ha0, F.mul_inv hb hb0, F.dist_r, F.dist_r, F.dist_r, h1, h2, xor4, Nat.xor_self, Nat.zero_xor, Nat.xor_comm]
/-- What rows of inverses turn to 0 is 0. -/
theorem cau_ker : ∀ (s : Nat) (x y z : Nat → Nat), (∀ i, x i < 2 ^ F.w) → (∀ i, y i < 2 ^ F.w) → (∀ i, z i < 2 ^ F.w) → (∀ i j, i < s → j < s → x i = x j → i = j) → (∀ i j, i < s → j < s → y i = y j → i = j) → (∀ i j, i < s → j < s → x i ≠ y j) →
    (∀ i, i < s → (xsum s fun j => F.mul (F.inv (x i ^^^ y j)) (z j)) = 0) → ∀ j, j < s → z j = 0
  | 0, _, _, _, _, _, _, _, _, _, _ => fun j hj => by omega
  | s + 1, x, y, z, hx, hy, hz, hux, huy, hne, h => by
    have ab : ∀ i j, x i ^^^ y j < 2 ^ F.w := fun i j => Px.xor_lt (hx i) (hy j)
    have a0 : ∀ i j, i < s + 1 → j < s + 1 → x i ^^^ y j ≠ 0 := fun i j hi hj e => hne i j hi hj (Px.xor_eq_zero e)
    have cz : ∀ j, F.mul (F.mul (y j ^^^ y s) (F.inv (x s ^^^ y j))) (z j) < 2 ^ F.w := fun j => F.lt _ _
    have hc := cau_ker s x y (fun j => F.mul (F.mul (y j ^^^ y s) (F.inv (x s ^^^ y j))) (z j)) hx hy cz (fun i j hi hj => hux i j (by omega) (by omega)) (fun i j hi hj => huy i j (by omega) (by omega)) (fun i j hi hj => hne i j (by omega) (by omega)) fun i hi => by
      have hxs : x i ^^^ x s ≠ 0 := fun e => by have := hux i s (by omega) (by omega) (Px.xor_eq_zero e); omega
      have key : F.mul (x i ^^^ x s) (xsum (s + 1) fun j => F.mul (F.inv (x i ^^^ y j)) (F.mul (F.mul (y j ^^^ y s) (F.inv (x s ^^^ y j))) (z j))) = 0 := by
        rw [mul_xsum]
        have e1 : ∀ j, j < s + 1 → F.mul (x i ^^^ x s) (F.mul (F.inv (x i ^^^ y j)) (F.mul (F.mul (y j ^^^ y s) (F.inv (x s ^^^ y j))) (z j))) = F.mul (x i ^^^ y s) (F.mul (F.inv (x i ^^^ y j)) (z j)) ^^^ F.mul (x s ^^^ y s) (F.mul (F.inv (x s ^^^ y j)) (z j)) := fun j hj => by
          have e2 := F.cau_term (t := y j ^^^ y s) (z := z j) (ab i j) (ab s j) (a0 i j (by omega) hj) (a0 s j (by omega) hj)
          have e3 : ∀ u : Nat, u ^^^ y j ^^^ (y j ^^^ y s) = u ^^^ y s := fun u => by rw [Nat.xor_assoc, ← Nat.xor_assoc (y j), Nat.xor_self, Nat.zero_xor]
          have e4 : x i ^^^ y j ^^^ (x s ^^^ y j) = x i ^^^ x s := by rw [xor4, Nat.xor_self, Nat.xor_zero]
          rw [e3, e3, e4, F.assoc, F.assoc] at e2
          exact e2.symm
        rw [xsum_congr e1, xsum_xor, ← mul_xsum, ← mul_xsum, h i (by omega), h s (by omega), F.mul_zero, F.mul_zero]; rfl
      have h3 : (xsum (s + 1) fun j => F.mul (F.inv (x i ^^^ y j)) (F.mul (F.mul (y j ^^^ y s) (F.inv (x s ^^^ y j))) (z j))) = 0 := by
        rcases F.nzd _ _ (Px.xor_lt (hx i) (hx s)) (xsum_lt fun _ _ => F.lt _ _) key with h | h
        · exact absurd h hxs
        · exact h
      rw [xsum, Nat.xor_self, F.zero_mul, F.zero_mul, F.mul_zero, Nat.xor_zero] at h3
      exact h3
    have hz0 : ∀ j, j < s → z j = 0 := fun j hj => by
      have e := hc j hj
      have hts : y j ^^^ y s ≠ 0 := fun e => by have := huy j s (by omega) (by omega) (Px.xor_eq_zero e); omega
      rcases F.nzd _ _ (F.lt _ _) (hz j) e with e | e
      · rcases F.nzd _ _ (Px.xor_lt (hy j) (hy s)) (F.inv_lt _) e with e | e
        · exact absurd e hts
        · exact absurd e (F.inv_ne (ab s j) (a0 s j (by omega) (by omega)))
      · exact e
    intro j hj
    by_cases e : j = s
    · subst e
      have h4 := h j (by omega)
      rw [xsum, xsum_zero' (fun i hi => by rw [hz0 i hi, F.mul_zero]), Nat.zero_xor] at h4
      rcases F.nzd _ _ (F.inv_lt _) (hz j) h4 with e | e
      · exact absurd e (F.inv_ne (ab j j) (a0 j j hj hj))
      · exact e
    · exact hz0 j (by omega)
theorem cau_iv {s : Nat} {x y : Nat → Nat} (hx : ∀ i, x i < 2 ^ F.w) (hy : ∀ i, y i < 2 ^ F.w) (hux : ∀ i j, i < s → j < s → x i = x j → i = j) (huy : ∀ i j, i < s → j < s → y i = y j → i = j) (hne : ∀ i j, i < s → j < s → x i ≠ y j) :
    ∃ g, F.iv s (fun i j => F.inv (x i ^^^ y j)) = some g :=
  F.iv_ofR (fun i j => F.inv_lt _) fun z hz h j hj => F.cau_ker s x y z hx hy hz hux huy hne h j hj
end Fld

/-! ### choices -/
/-- All choices of m of the numbers from fr on, below to: rising, in their order. -/
def ch (to : Nat) : Nat → Nat → List (List Nat)
  | 0, _ => [[]]
  | m + 1, fr => ((List.range (to - m - fr)).map fun d => (ch to m (fr + d + 1)).map fun l => (fr + d) :: l).flatten
/-- The first i of the beginnings. -/
def chP (to m fr i : Nat) : List (List Nat) := ((List.range i).map fun d => (ch to m (fr + d + 1)).map fun l => (fr + d) :: l).flatten
/-! ### rows that are safe -/
section
variable {wb p : Nat} (hp : Prm wb p)
/-- The rows R and the columns C, s + 1 of each, have an inverse. -/
def okC (f : Tb) (s : Nat) (R C : List Nat) : Prop := (invR hp (tab (s + 1) (s + 1) (mnr f R C))).1 = 0
def okR (f : Tb) (m s : Nat) (R : List Nat) : Prop := ∀ C ∈ ch m (s + 1) 0, okC hp f s R C
def safeB (n m : Nat) (f : Tb) : Bool := (List.range (min n m)).all fun s => (ch n (s + 1) 0).all fun R => (ch m (s + 1) 0).all fun C => decide ((invR hp (tab (s + 1) (s + 1) (mnr f R C))).1 = 0)
def safeM (mt : Mtx) : Bool × Int := if mayM (some (wb, p)) mt = true ∧ mt.length ≤ 5 ∧ wid mt ≤ 8 then (safeB hp mt.length (wid mt) (en mt), 0) else (false, 1)
end
end Go.Gam

/- Plain laws of layer 8: which rows are safe. No program in sight. -/
set_option linter.unusedVariables false
set_option linter.unusedSimpArgs false
set_option linter.unusedSectionVars false
namespace Go.Gam
open Px

theorem nd_inj {α : Type} {l : List α} (h : l.Nodup) {i j : Nat} (hi : i < l.length) (hj : j < l.length) (e : l[i] = l[j]) : i = j :=
  Classical.byContradiction fun hne => by
    rcases Nat.lt_or_gt_of_ne hne with h' | h'
    · exact List.pairwise_iff_getElem.1 h i j hi hj h' e
    · exact List.pairwise_iff_getElem.1 h j i hj hi h' e.symm
section
variable {wb p : Nat} (hp : Prm wb p)
theorem sysT_top {k i j : Nat} (hk : k ≤ 20) (hi : i < k) (hj : j < k) : sysT hp k i j = I1 i j := (vinv_ok hp (show k ≤ 256 by omega)).2.r i j hi hj
theorem beh_sys {k i j : Nat} (hk : k ≤ 20) (hj : j < k) : beh k (fun i j => sysT hp k (k + i) j) i j = sysT hp k i j := by
  unfold beh
  by_cases h : i < k
  · rw [if_pos h, sysT_top hp hk h hj]
  · rw [if_neg h]; simp only []; rw [show k + (i - k) = i by omega]
theorem sys_bd2 (k : Nat) : hp.fld.Bd (fun i j => sysT hp k (k + i) j) := fun i j => sysT_bd hp k _ _
/-- Rows of inverses. -/
theorem ofT_bd (x y : List Int) : hp.fld.Bd (ofT hp x y) := fun i j => hp.fld.inv_lt _
theorem ofB_is {x y : List Int} (h : ofB wb x y = true) : (1 ≤ x.length ∧ x.length ≤ 20 ∧ 1 ≤ y.length ∧ y.length ≤ 20) ∧ (x ++ y).Nodup ∧ ∀ z ∈ x ++ y, 0 ≤ z ∧ z < ((2 ^ wb : Nat) : Int) := by
  unfold ofB unl at h
  rw [Bool.and_eq_true, decide_eq_true_eq, decide_eq_true_eq] at h
  exact ⟨h.1, h.2⟩
theorem getD_int {x : List Int} {i : Nat} (h : i < x.length) : x.getD i 0 = x[i] := by rw [List.getD_eq_getElem?_getD, List.getElem?_eq_getElem h]; rfl
theorem of_minor {x y : List Int} (h : ofB wb x y = true) {R C : List Nat} (hRC : R.length = C.length) (hR : R.Nodup) (hC : C.Nodup) (hRn : ∀ z ∈ R, z < x.length) (hCn : ∀ z ∈ C, z < y.length) : ∃ g, hp.fld.iv R.length (mnr (ofT hp x y) R C) = some g := by
  obtain ⟨hl, hn, hb⟩ := ofB_is h
  obtain ⟨hx, hy, hxy⟩ := List.nodup_append.1 hn
  have bx : ∀ i, i < x.length → 0 ≤ x.getD i 0 ∧ x.getD i 0 < ((2 ^ wb : Nat) : Int) ∧ x.getD i 0 ∈ x := fun i hi => by
    rw [getD_int hi]; exact ⟨(hb _ (List.mem_append_left _ (List.getElem_mem hi))).1, (hb _ (List.mem_append_left _ (List.getElem_mem hi))).2, List.getElem_mem hi⟩
  have byy : ∀ i, i < y.length → 0 ≤ y.getD i 0 ∧ y.getD i 0 < ((2 ^ wb : Nat) : Int) ∧ y.getD i 0 ∈ y := fun i hi => by
    rw [getD_int hi]; exact ⟨(hb _ (List.mem_append_right _ (List.getElem_mem hi))).1, (hb _ (List.mem_append_right _ (List.getElem_mem hi))).2, List.getElem_mem hi⟩
  have inj : ∀ (z : List Int), z.Nodup → ∀ i j, i < z.length → j < z.length → z.getD i 0 = z.getD j 0 → i = j := fun z hz i j hi hj e => by
    rw [getD_int hi, getD_int hj] at e
    exact nd_inj hz hi hj e
  have rg : ∀ (L : List Nat) (n i : Nat), (∀ x ∈ L, x < n) → i < L.length → L.getD i 0 < n := fun L n i h hi => h _ (Fld.getD_mem hi)
  have li : ∀ (L : List Nat), L.Nodup → ∀ i j, i < L.length → j < L.length → L.getD i 0 = L.getD j 0 → i = j := fun L hL i j hi hj e => by
    rw [getD_of hi, getD_of hj] at e
    exact nd_inj hL hi hj e
  have hz : 0 < 2 ^ wb := Nat.two_pow_pos wb
  let X : Nat → Nat := fun i => if i < R.length then (x.getD (R.getD i 0) 0).toNat else 0
  let Y : Nat → Nat := fun j => if j < R.length then (y.getD (C.getD j 0) 0).toNat else 0
  have eX : ∀ i, i < R.length → X i = (x.getD (R.getD i 0) 0).toNat := fun i hi => if_pos hi
  have eY : ∀ j, j < R.length → Y j = (y.getD (C.getD j 0) 0).toNat := fun j hj => if_pos hj
  have lw : 2 ^ hp.fld.w = 2 ^ wb := by rw [hp.fld_w]
  obtain ⟨g, hg⟩ := hp.fld.cau_iv (s := R.length) (x := X) (y := Y)
    (fun i => by
      rw [lw]
      by_cases hi : i < R.length
      · rw [eX i hi]; have := bx _ (rg R _ i hRn hi); omega
      · rw [show X i = 0 from if_neg hi]; exact hz)
    (fun j => by
      rw [lw]
      by_cases hj : j < R.length
      · rw [eY j hj]; have := byy _ (rg C _ j hCn (by omega)); omega
      · rw [show Y j = 0 from if_neg hj]; exact hz)
    (fun i j hi hj e => by
      rw [eX i hi, eX j hj] at e
      have h1 := bx _ (rg R _ i hRn hi); have h2 := bx _ (rg R _ j hRn hj)
      exact li R hR i j hi hj (inj x hx _ _ (rg R _ i hRn hi) (rg R _ j hRn hj) (by omega)))
    (fun i j hi hj e => by
      rw [eY i hi, eY j hj] at e
      have h1 := byy _ (rg C _ i hCn (by omega)); have h2 := byy _ (rg C _ j hCn (by omega))
      exact li C hC i j (by omega) (by omega) (inj y hy _ _ (rg C _ i hCn (by omega)) (rg C _ j hCn (by omega)) (by omega)))
    (fun i j hi hj e => by
      rw [eX i hi, eY j hj] at e
      have h1 := bx _ (rg R _ i hRn hi); have h2 := byy _ (rg C _ j hCn (by omega))
      exact hxy _ h1.2.2 _ h2.2.2 (by omega))
  have hcg := hp.fld.iv_congr (n := R.length) (f := fun i j => hp.fld.inv (X i ^^^ Y j)) (g := mnr (ofT hp x y) R C) (fun i j => hp.fld.inv_lt _) (hp.fld.mnr_bd (ofT_bd hp x y) R C) (fun i j hi hj => by
    show hp.fld.inv (X i ^^^ Y j) = hp.fld.inv _
    rw [eX i hi, eY j hj])
  rw [hg] at hcg
  exact Option.isSome_iff_exists.1 hcg.symm
end
/-! ### the smallest ones -/
end Go.Gam

/- The walks of gambrelref08: rows of inverses. -/
set_option linter.unusedVariables false
set_option linter.unusedSimpArgs false
namespace Go.Proofs.YtkoiolamnnmokaaGreat
open Go Go.Gam


namespace FxFRef08
end FxFRef08
open FxFRef08

end Go.Proofs.YtkoiolamnnmokaaGreat

/- Plain laws of layer 9: any rows of the identity, with a profile's parity rows behind it. No program in sight. -/

set_option linter.unusedVariables false
set_option linter.unusedSimpArgs false
set_option linter.unusedSectionVars false
namespace Go.Gam
open Px

section
variable {wb q : Nat} (hp : Prm wb q)
theorem prT_bd {P : Int} {k m : Nat} (hq : pfl P = (wb, q)) : hp.fld.Bd (prT P k m) := by
  unfold pfl at hq
  unfold prT
  split at hq
  · rename_i h2
    subst h2
    cases hq
    rw [if_neg (by decide), if_pos rfl]
    exact ofT_bd hp _ _
  · rename_i h2
    cases hq
    split
    · exact parT_bd hp k m
    · split
      · exact isT_bd hp
      · split
        · exact ofT_bd hp _ _
        · exact sys_bd2 hp k
theorem cau_any {k m : Nat} {x y : List Int} {l : List Nat} (h : ofB wb x y = true) (hx : x.length = m) (hy : y.length = k) (hl : l.length = k) (hn : l.Nodup) (hlt : ∀ z ∈ l, z < k + m) : ∃ g, hp.fld.iv k (fun i j => beh k (ofT hp x y) (l.getD i 0) j) = some g := by
  refine hp.fld.mds_of (m := m) (ofT_bd hp x y) hl hn ?_
  obtain ⟨g, hg⟩ := of_minor hp h (par_mis hl hn) (parR_nodup hn) (misJ_nodup k l) (fun z hz => by have := parR_lt hlt z hz; omega) (fun z hz => by have := misJ_lt z hz; omega)
  rw [hg]; rfl
theorem isal_beh {k m : Nat} {l : List Nat} (h3 : k + m ≤ 20) (hm3 : m ≤ 3) (hl : l.length = k) (hn : l.Nodup) (h : ∀ x ∈ l, x < k + m) : ∃ g, hp.fld.iv k (fun i j => beh k (isT (some (wb, q))) (l.getD i 0) j) = some g := by
  refine hp.fld.mds_of (m := m) (isT_bd hp) hl hn ?_
  have hlen := par_mis hl hn
  have hR := parR_lt h
  obtain ⟨g, hg⟩ := hp.fld.three (R := parR k l) (J := misJ k l) (x := fun j => hp.fld.pow 2 j) (fun j => hp.fld.pow_lt _ _) (fun j _ => hp.fld.pow_ne hp.two_lt (by decide) j) (fun i hi j hj e => by
    have := misJ_lt i hi
    have := misJ_lt j hj
    exact two_inj hp (by omega) (by omega) e) (parR_nodup hn) (fun e he => by have := hR e he; omega) (misJ_nodup k l) hlen
  have e : mnr (isT (some (wb, q))) (parR k l) (misJ k l) = mnr (fun i j => hp.fld.pow (hp.fld.pow 2 j) i) (parR k l) (misJ k l) := by
    funext a b
    show isT _ _ _ = hp.fld.pow (hp.fld.pow 2 _) _
    rw [isT_pow hp, hp.fld.pow_mul, hp.fld.pow_mul, Nat.mul_comm]
  rw [e, hg]; rfl
theorem sys_beh {k m : Nat} {l : List Nat} (h3 : k + m ≤ 20) (hl : l.length = k) (hn : l.Nodup) (h : ∀ x ∈ l, x < k + m) : ∃ g, hp.fld.iv k (fun i j => beh k (fun i j => sysT hp k (k + i) j) (l.getD i 0) j) = some g := by
  obtain ⟨g, hg⟩ := van_iv hp (k := k) (l := l) (by omega) hl hn (fun x hx => by have := h x hx; omega)
  have := hp.fld.iv_congr (n := k) (f := fun i j => sysT hp k (l.getD i 0) j) (g := fun i j => beh k (fun i j => sysT hp k (k + i) j) (l.getD i 0) j) (fun i j => sysT_bd hp k _ _) (fun i j => hp.fld.beh_bd (sys_bd2 hp k) _ _) (fun i j hi hj => (beh_sys hp (by omega) hj).symm)
  rw [hg] at this
  exact Option.isSome_iff_exists.1 this.symm
theorem prT_any {P : Int} {k m : Nat} {l : List Nat} (hq : pfl P = (wb, q)) (hm : mayP P (k : Int) (m : Int) = true) (hl : l.length = k) (hn : l.Nodup) (h : ∀ x ∈ l, x < k + m) : ∃ g, hp.fld.iv k (fun i j => beh k (prT P k m) (l.getD i 0) j) = some g := by
  obtain ⟨p1, p2, k', m', e1, e2, h3, h4, h5, h6, h7⟩ := mayP_of hm
  obtain rfl : k = k' := by omega
  obtain rfl : m = m' := by omega
  unfold pfl at hq
  unfold prT
  split at hq
  · rename_i h2
    subst h2
    cases hq
    rw [if_neg (by decide), if_pos rfl]
    exact cau_any hp (rn_ok hp.w (by omega) (by omega) (by omega) (by omega)) (rnL_length _ _) (rnL_length _ _) hl hn h
  · rename_i h2
    cases hq
    by_cases c1 : P = 1
    · simp only [c1, if_true]; exact par_any hp (by omega) (by omega) (by omega) hl hn h
    · by_cases c3 : P = 3
      · simp only [c3, show ¬ (3 : Int) = 1 by decide, show ¬ (3 : Int) = 2 by decide, if_false, if_true]; exact isal_beh hp (by omega) (h7 c3) hl hn h
      · by_cases c4 : P = 4
        · simp only [c4, show ¬ (4 : Int) = 1 by decide, show ¬ (4 : Int) = 2 by decide, show ¬ (4 : Int) = 3 by decide, if_false, if_true]
          exact cau_any hp (rn_ok hp.w (by omega) (by omega) (by omega) (by omega)) (rnL_length _ _) (rnL_length _ _) hl hn h
        · simp only [c1, h2, c3, c4, if_false]; exact sys_beh hp (by omega) hl hn h
theorem prT_pick {P : Int} {k m : Nat} {l : List Nat} (hq : pfl P = (wb, q)) (hm : mayP P (k : Int) (m : Int) = true) (hl : l.length = k) (hn : l.Nodup) (h : ∀ x ∈ l, x < k + m) : ∃ J, pickM (some (wb, q)) (tab (k + m) k (beh k (prT P k m))) (casts l) = some J ∧ (invR hp J).1 = 0 := by
  obtain ⟨p1, p2, k', m', e1, e2, h3, h4, h5, h6, h7⟩ := mayP_of hm
  have hb := hp.fld.beh_bd (k := k) (prT_bd hp (k := k) (m := m) hq)
  refine ⟨_, pick_tab hp hb ⟨by omega, by omega⟩ ⟨by omega, by omega⟩ ⟨by omega, by omega⟩ h, ?_⟩
  rw [hl]
  exact inv0 hp (fun i j => hb _ _) (by omega) (by omega) (prT_any hp hq hm hl hn h)
end
theorem pfl_is (P : Int) : ∃ wb q, pfl P = (wb, q) ∧ Prm wb q := by
  unfold pfl
  split
  · exact ⟨_, _, rfl, prm_69643⟩
  · exact ⟨_, _, rfl, prm_285⟩
theorem some_may (n0 n1 n2 : Nat) : mayP ((1 + n0 % 6 : Nat) : Int) ((1 + n1 % 8 : Nat) : Int) ((1 + n2 % (maxM ((1 + n0 % 6 : Nat) : Int)).toNat : Nat) : Int) = true := by
  refine mayP_is (by omega) (by omega) ?_ ?_
  · unfold maxM; split
    · rw [show (3 : Int).toNat = 3 from rfl]; omega
    · rw [show (4 : Int).toNat = 4 from rfl]; omega
  · intro h; unfold maxM; rw [if_pos h, show (3 : Int).toNat = 3 from rfl]; omega
/-! ### parity rows, or none; a field, or none -/
def parO (p k m : Int) : Option Mtx := if mayP p k m = true then some (tab m.toNat k.toNat (prT p k.toNat m.toNat)) else none
def fldO (p : Int) : Fq := if 1 ≤ p ∧ p ≤ 6 then some (pfl p) else none
def pbits (p : Int) : Nat := if 1 ≤ p ∧ p ≤ 6 then (pfl p).1 else 0
end Go.Gam

/- The walks of gambrelref09: the table of profiles. -/
set_option linter.unusedVariables false
set_option linter.unusedSimpArgs false
namespace Go.Proofs.YtkoiolamnnmokaaGreat
open Go Go.Gam


namespace FxFRef09
theorem en8 : Ent Tryz.prog 8 := ent Tryz.func8 (by kernel_rfl) (by kernel_rfl)
theorem ar48 : ArrOf Tryz.prog 48 3 := ar_of Tryz.underlying48 (by kernel_rfl)
theorem fa23_0 : FieldFact Tryz.prog 23 0 0 := ff_of (sz := 0) Tryz.underlying23 (by kernel_rfl)
theorem fa23_2 : FieldFact Tryz.prog 23 2 2 := ff_of (sz := 0) Tryz.underlying23 (by kernel_rfl)
theorem fa30_4 : FieldFact Tryz.prog 30 4 4 := ff_of (sz := 0) Tryz.underlying30 (by kernel_rfl)
theorem on3 : Gam.One Tryz.prog 3 := by unfold Gam.One; kernel_rfl
theorem sc3 : Scalar Tryz.prog 3 := ⟨_, Tryz.underlying3, by simp, by simp⟩
theorem sc5 : Scalar Tryz.prog 5 := ⟨_, Tryz.underlying5, by simp, by simp⟩
end FxFRef09
open FxFRef09

set_option maxRecDepth 100000 in
set_option maxHeartbeats 1000000 in
theorem rPOf_ok (B : Nat) (p : Int) (w : World) (hI : Inv FDx B w) : Ret Tryz.prog 8 [.int .i64 p] w fun v w' => v = .tuple #[.agg (prOf p).toArray, .bool (decide (1 ≤ p ∧ p ≤ 6))] ∧ St FDx B w w' := by
 refine enterCT 24 [(0, .int .i64 p)] 2 30 3 Tryz.func8 rfl rfl rfl rfl rfl ?_; intro a hF
 have hS := St.refl hI
 refine W_sr rfl (fun K hK => ?_)
 refine s_allocN (D := FDx) (B := B) (z := .agg prz.toArray) hF (by kernel_rfl) (by decide) hS.inv rfl ?_; clear hF a; intro gR w' a hm hI' hR hF
 replace hS := hS.mb0 hm
 clear hm hI'
 refine sv hF (v_assign rfl) rfl ?_; clear hF a; intro a hF
 refine WL_nil (hK _ _ ?_)
 clear hK K
 refine W_seq ?_
 refine W_sr rfl (fun K hK => ?_)
 refine sv hF (v_move rfl) rfl ?_; clear hF a; intro a hF
 refine WL_nil (hK _ _ ?_)
 clear hK K
 replace hF := hF.sub _ (c_ 4 rfl (c_ 3 rfl (c_ 2 rfl (n_))))
 refine W_block ?_
 refine W_sr rfl (fun K hK => ?_)
 refine sv hF (v_eql rfl rfl) rfl ?_; clear hF a; intro a hF
 refine sv hF (v_assign rfl) rfl ?_; clear hF a; intro a hF
 refine WL_nil (hK _ _ ?_)
 clear hK K
 replace hF := hF.sub _ (c_ 5 rfl (c_ 4 rfl (c_ 3 rfl (c_ 2 rfl (n_)))))
 refine W_if hF rfl (fun hc1 => ?_) (fun hc1 => ?_)
 ·
  skip
  try simp only [dcl] at hc1
  refine W_sr rfl (fun K hK => ?_)
  refine sv hF (v_build (cs := (prN 0).toArray) rfl (by kernel_rfl)) rfl ?_; clear hF a; intro a hF
  refine s_storeN (D := FDx) (B := B) hF (by kernel_rfl) rfl rfl (rfl) (by rfl) hR hS.inv ?_; intro w' hm hI' hrc'
  replace hS := hS.mb hm (fun k h => by cases h; exact hR.low)
  replace hR := hrc'
  clear hm hI' hrc'
  refine sv hF (v_assign rfl) rfl ?_; clear hF a; intro a hF
  refine WL_nil (hK _ _ ?_)
  clear hK K
  replace hF := hF.sub _ (c_ 3 rfl (c_ 2 rfl (n_)))
  refine W_ret ?_
  refine ⟨_, _, _, _, hF, rfl, (ld_rec Tryz.underlying30 rfl (by kernel_rfl) hR), rfl, ?_⟩
  obtain rfl : p = 1 := by assumption
  exact ⟨rfl, hS⟩
 ·
  skip
  try simp only [dcl] at hc1
  refine W_sr rfl (fun K hK => ?_)
  refine sv hF (v_eql rfl rfl) rfl ?_; clear hF a; intro a hF
  refine sv hF (v_assign rfl) rfl ?_; clear hF a; intro a hF
  refine WL_nil (hK _ _ ?_)
  clear hK K
  replace hF := hF.sub _ (c_ 8 rfl (c_ 4 rfl (c_ 3 rfl (c_ 2 rfl (n_)))))
  refine W_if hF rfl (fun hc2 => ?_) (fun hc2 => ?_)
  ·
   skip
   try simp only [dcl] at hc2
   refine W_sr rfl (fun K hK => ?_)
   refine sv hF (v_build (cs := (prN 1).toArray) rfl (by kernel_rfl)) rfl ?_; clear hF a; intro a hF
   refine s_storeN (D := FDx) (B := B) hF (by kernel_rfl) rfl rfl (rfl) (by rfl) hR hS.inv ?_; intro w' hm hI' hrc'
   replace hS := hS.mb hm (fun k h => by cases h; exact hR.low)
   replace hR := hrc'
   clear hm hI' hrc'
   refine sv hF (v_assign rfl) rfl ?_; clear hF a; intro a hF
   refine WL_nil (hK _ _ ?_)
   clear hK K
   replace hF := hF.sub _ (c_ 3 rfl (c_ 2 rfl (n_)))
   refine W_ret ?_
   refine ⟨_, _, _, _, hF, rfl, (ld_rec Tryz.underlying30 rfl (by kernel_rfl) hR), rfl, ?_⟩
   obtain rfl : p = 2 := by assumption
   exact ⟨rfl, hS⟩
  ·
   skip
   try simp only [dcl] at hc2
   refine W_sr rfl (fun K hK => ?_)
   refine sv hF (v_eql rfl rfl) rfl ?_; clear hF a; intro a hF
   refine sv hF (v_assign rfl) rfl ?_; clear hF a; intro a hF
   refine WL_nil (hK _ _ ?_)
   clear hK K
   replace hF := hF.sub _ (c_ 11 rfl (c_ 4 rfl (c_ 3 rfl (c_ 2 rfl (n_)))))
   refine W_if hF rfl (fun hc3 => ?_) (fun hc3 => ?_)
   ·
    skip
    try simp only [dcl] at hc3
    refine W_sr rfl (fun K hK => ?_)
    refine sv hF (v_build (cs := (prN 2).toArray) rfl (by kernel_rfl)) rfl ?_; clear hF a; intro a hF
    refine s_storeN (D := FDx) (B := B) hF (by kernel_rfl) rfl rfl (rfl) (by rfl) hR hS.inv ?_; intro w' hm hI' hrc'
    replace hS := hS.mb hm (fun k h => by cases h; exact hR.low)
    replace hR := hrc'
    clear hm hI' hrc'
    refine sv hF (v_assign rfl) rfl ?_; clear hF a; intro a hF
    refine WL_nil (hK _ _ ?_)
    clear hK K
    replace hF := hF.sub _ (c_ 3 rfl (c_ 2 rfl (n_)))
    refine W_ret ?_
    refine ⟨_, _, _, _, hF, rfl, (ld_rec Tryz.underlying30 rfl (by kernel_rfl) hR), rfl, ?_⟩
    obtain rfl : p = 3 := by assumption
    exact ⟨rfl, hS⟩
   ·
    skip
    try simp only [dcl] at hc3
    refine W_sr rfl (fun K hK => ?_)
    refine sv hF (v_eql rfl rfl) rfl ?_; clear hF a; intro a hF
    refine sv hF (v_assign rfl) rfl ?_; clear hF a; intro a hF
    refine WL_nil (hK _ _ ?_)
    clear hK K
    replace hF := hF.sub _ (c_ 14 rfl (c_ 4 rfl (c_ 3 rfl (c_ 2 rfl (n_)))))
    refine W_if hF rfl (fun hc4 => ?_) (fun hc4 => ?_)
    ·
     skip
     try simp only [dcl] at hc4
     refine W_sr rfl (fun K hK => ?_)
     refine sv hF (v_build (cs := (prN 3).toArray) rfl (by kernel_rfl)) rfl ?_; clear hF a; intro a hF
     refine s_storeN (D := FDx) (B := B) hF (by kernel_rfl) rfl rfl (rfl) (by rfl) hR hS.inv ?_; intro w' hm hI' hrc'
     replace hS := hS.mb hm (fun k h => by cases h; exact hR.low)
     replace hR := hrc'
     clear hm hI' hrc'
     refine sv hF (v_assign rfl) rfl ?_; clear hF a; intro a hF
     refine WL_nil (hK _ _ ?_)
     clear hK K
     replace hF := hF.sub _ (c_ 3 rfl (c_ 2 rfl (n_)))
     refine W_ret ?_
     refine ⟨_, _, _, _, hF, rfl, (ld_rec Tryz.underlying30 rfl (by kernel_rfl) hR), rfl, ?_⟩
     obtain rfl : p = 4 := by assumption
     exact ⟨rfl, hS⟩
    ·
     skip
     try simp only [dcl] at hc4
     refine W_sr rfl (fun K hK => ?_)
     refine sv hF (v_eql rfl rfl) rfl ?_; clear hF a; intro a hF
     refine sv hF (v_assign rfl) rfl ?_; clear hF a; intro a hF
     refine WL_nil (hK _ _ ?_)
     clear hK K
     replace hF := hF.sub _ (c_ 17 rfl (c_ 4 rfl (c_ 3 rfl (c_ 2 rfl (n_)))))
     refine W_if hF rfl (fun hc5 => ?_) (fun hc5 => ?_)
     ·
      skip
      try simp only [dcl] at hc5
      refine W_sr rfl (fun K hK => ?_)
      refine sv hF (v_build (cs := (prN 4).toArray) rfl (by kernel_rfl)) rfl ?_; clear hF a; intro a hF
      refine s_storeN (D := FDx) (B := B) hF (by kernel_rfl) rfl rfl (rfl) (by rfl) hR hS.inv ?_; intro w' hm hI' hrc'
      replace hS := hS.mb hm (fun k h => by cases h; exact hR.low)
      replace hR := hrc'
      clear hm hI' hrc'
      refine sv hF (v_assign rfl) rfl ?_; clear hF a; intro a hF
      refine WL_nil (hK _ _ ?_)
      clear hK K
      replace hF := hF.sub _ (c_ 3 rfl (c_ 2 rfl (n_)))
      refine W_ret ?_
      refine ⟨_, _, _, _, hF, rfl, (ld_rec Tryz.underlying30 rfl (by kernel_rfl) hR), rfl, ?_⟩
      obtain rfl : p = 5 := by assumption
      exact ⟨rfl, hS⟩
     ·
      skip
      try simp only [dcl] at hc5
      refine W_sr rfl (fun K hK => ?_)
      refine sv hF (v_eql rfl rfl) rfl ?_; clear hF a; intro a hF
      refine sv hF (v_assign rfl) rfl ?_; clear hF a; intro a hF
      refine WL_nil (hK _ _ ?_)
      clear hK K
      replace hF := hF.sub _ (c_ 20 rfl (c_ 3 rfl (c_ 2 rfl (n_))))
      refine W_if hF rfl (fun hc6 => ?_) (fun hc6 => ?_)
      ·
       skip
       try simp only [dcl] at hc6
       refine W_sr rfl (fun K hK => ?_)
       refine sv hF (v_build (cs := (prN 5).toArray) rfl (by kernel_rfl)) rfl ?_; clear hF a; intro a hF
       refine s_storeN (D := FDx) (B := B) hF (by kernel_rfl) rfl rfl (rfl) (by rfl) hR hS.inv ?_; intro w' hm hI' hrc'
       replace hS := hS.mb hm (fun k h => by cases h; exact hR.low)
       replace hR := hrc'
       clear hm hI' hrc'
       refine sv hF (v_assign rfl) rfl ?_; clear hF a; intro a hF
       refine WL_nil (hK _ _ ?_)
       clear hK K
       replace hF := hF.sub _ (c_ 3 rfl (c_ 2 rfl (n_)))
       refine W_ret ?_
       refine ⟨_, _, _, _, hF, rfl, (ld_rec Tryz.underlying30 rfl (by kernel_rfl) hR), rfl, ?_⟩
       obtain rfl : p = 6 := by assumption
       exact ⟨rfl, hS⟩
      ·
       skip
       try simp only [dcl] at hc6
       refine W_skip ?_
       refine W_sr rfl (fun K hK => ?_)
       refine sv hF (v_build (cs := (prz).toArray) rfl (by kernel_rfl)) rfl ?_; clear hF a; intro a hF
       refine s_storeN (D := FDx) (B := B) hF (by kernel_rfl) rfl rfl (rfl) (by rfl) hR hS.inv ?_; intro w' hm hI' hrc'
       replace hS := hS.mb hm (fun k h => by cases h; exact hR.low)
       replace hR := hrc'
       clear hm hI' hrc'
       refine sv hF (v_assign rfl) rfl ?_; clear hF a; intro a hF
       refine WL_nil (hK _ _ ?_)
       clear hK K
       replace hF := hF.sub _ (c_ 3 rfl (c_ 23 rfl (c_ 2 rfl (n_))))
       refine W_ret ?_
       refine ⟨_, _, _, _, hF, rfl, (ld_rec Tryz.underlying30 rfl (by kernel_rfl) hR), rfl, ?_⟩
       exact ⟨by rw [prOf_no (by omega), decide_eq_false (by omega)], hS⟩

set_option maxRecDepth 100000 in
set_option maxHeartbeats 1000000 in
theorem Some_ok (B n0 n1 n2 : Nat) (w : World) (hI : Inv FDx B w) (h0 : n0 < 256) (h1 : n1 < 256) (h2 : n2 < 256) : Ret Tryz.prog 18 [.agg #[.int .u8 (n0 : Int), .int .u8 (n1 : Int), .int .u8 (n2 : Int)]] w fun v w' => v = .agg #[.int .i64 ((1 + n0 % 6 : Nat) : Int), .int .i64 ((1 + n1 % 8 : Nat) : Int), .int .i64 ((1 + n2 % (maxM ((1 + n0 % 6 : Nat) : Int)).toNat : Nat) : Int)] ∧ St FDx B w w' := by
 refine enterC 32 [(0, .agg #[.int .u8 (n0 : Int), .int .u8 (n1 : Int), .int .u8 (n2 : Int)])] 2 23 Tryz.func18 rfl rfl rfl rfl rfl ?_; intro a hF
 have hS := St.refl hI
 refine W_sr rfl (fun K hK => ?_)
 refine s_box (D := FDx) (B := B) hF rfl (by decide) hS.inv rfl ?_; clear hF a; intro w' a hm hbx hsz hF
 replace hS := hS.mb0 hm
 clear hm
 have hs0 := hS.ext.size
 have tb := heap_lt hbx
 refine s_allocN (D := FDx) (B := B) (z := .agg #[.int .i64 0, .int .i64 0, .int .i64 0]) hF (by kernel_rfl) (by decide) hS.inv rfl ?_; clear hF a; intro gx2 w' a hm hI' hx2 hF
 replace hbx := hbx.mb hm (by simp)
 replace hS := hS.mb0 hm
 clear hm hI'
 have hgx2 := hx2.low
 replace hx2 := hx2.le hs0
 clear hs0
 refine WL_nil (hK _ _ ?_)
 clear hK K
 replace hF := hF.sub _ (c_ 2 rfl (c_ 1 rfl (n_)))
 refine W_sr rfl (fun K hK => ?_)
 refine sv hF (v_ixA ar48 rfl rfl (by omega) (by omega)) rfl ?_; clear hF a; intro a hF
 refine sv hF (v_load sc5 rfl (hbx.at 0 rfl)) rfl ?_; clear hF a; intro a hF
 refine sv hF (v_cv Tryz.underlying5 Tryz.underlying3 rfl (wrap_i64 _ (by omega))) rfl ?_; clear hF a; intro a hF
 refine sv hF ((v_remI rfl rfl (by omega) (by omega)).as (show Value.int .i64 ((n0 : Int) % 6) = .int .i64 ((n0 % 6 : Nat) : Int) by simp)) rfl ?_; clear hF a; intro a hF
 refine sv hF ((v_addI rfl rfl (by omega)).as (show Value.int .i64 (1 + ((n0 % 6 : Nat) : Int)) = .int .i64 ((1 + n0 % 6 : Nat) : Int) by simp)) rfl ?_; clear hF a; intro a hF
 refine sv hF (v_ixA ar48 rfl rfl (by omega) (by omega)) rfl ?_; clear hF a; intro a hF
 refine sv hF (v_load sc5 rfl (hbx.at 1 rfl)) rfl ?_; clear hF a; intro a hF
 refine sv hF (v_cv Tryz.underlying5 Tryz.underlying3 rfl (wrap_i64 _ (by omega))) rfl ?_; clear hF a; intro a hF
 refine sv hF ((v_remI rfl rfl (by omega) (by omega)).as (show Value.int .i64 ((n1 : Int) % 8) = .int .i64 ((n1 % 8 : Nat) : Int) by simp)) rfl ?_; clear hF a; intro a hF
 refine sv hF ((v_addI rfl rfl (by omega)).as (show Value.int .i64 (1 + ((n1 % 8 : Nat) : Int)) = .int .i64 ((1 + n1 % 8 : Nat) : Int) by simp)) rfl ?_; clear hF a; intro a hF
 refine sv hF (v_build (cs := #[.int .i64 ((1 + n0 % 6 : Nat) : Int), .int .i64 ((1 + n1 % 8 : Nat) : Int), .int .i64 0]) rfl (by kernel_rfl)) rfl ?_; clear hF a; intro a hF
 have hs0 := hS.ext.size
 have tx2 := heap_lt hx2.blk
 have tb2 := heap_lt hbx
 refine s_allocN (D := FDx) (B := B) (z := .agg #[.int .i64 0, .int .i64 0, .int .i64 0]) hF (by kernel_rfl) (by decide) hS.inv rfl ?_; clear hF a; intro gx w' a hm hI' hx hF
 replace hbx := hbx.mb hm (by simp)
 replace hx2 := hx2.mb hm (by simp)
 replace hS := hS.mb0 hm
 clear hm hI'
 have hgx := hx.low
 replace hx := hx.le hs0
 clear hs0
 refine s_storeN (D := FDx) (B := B) hF (by kernel_rfl) rfl rfl (rfl) (by rfl) hx hS.inv ?_; intro w' hm hI' hrc'
 replace hbx := hbx.mb hm (by simp; omega)
 replace hx2 := hx2.mb hm (by simp; omega)
 replace hS := hS.mb hm (fun k h => by cases h; exact hx.low)
 replace hx := hrc'
 clear hm hI' hrc'
 refine WL_nil (hK _ _ ?_)
 clear hK K
 replace hF := hF.sub _ (c_ 3 rfl (c_ 2 rfl (c_ 1 rfl (n_))))
 refine W_sr rfl (fun K hK => ?_)
 refine sv hF (v_fieldAddr fa23_0 rfl) rfl ?_; clear hF a; intro a hF
 refine sv hF (v_load sc3 rfl (hx.blk.at 0 rfl)) rfl ?_; clear hF a; intro a hF
 refine sc hF rfl rfl rfl en8 rfl (rPOf_ok B ((1 + n0 % 6 : Nat) : Int) _ hS.inv) ?_; clear hF a; intro v w' a hv hF
 obtain ⟨rfl, hS'⟩ := hv
 replace hbx := hbx.st (by decide) hS'
 replace hx2 := hx2.st hS'
 replace hx := hx.st hS'
 replace hS := hS.trans hS'
 clear hS'
 refine sv3 hF (v_move rfl) (v_ext rfl rfl) (v_ext rfl rfl) rfl rfl rfl ?_; clear hF a; intro a hF
 have hs0 := hS.ext.size
 have tx3 := heap_lt hx2.blk
 have tb3 := heap_lt hbx
 have tx4 := heap_lt hx.blk
 refine s_allocN (D := FDx) (B := B) (z := .agg prz.toArray) hF (by kernel_rfl) (by decide) hS.inv rfl ?_; clear hF a; intro gR w' a hm hI' hR hF
 replace hbx := hbx.mb hm (by simp)
 replace hx2 := hx2.mb hm (by simp)
 replace hx := hx.mb hm (by simp)
 replace hS := hS.mb0 hm
 clear hm hI'
 have hgR := hR.low
 replace hR := hR.le hs0
 clear hs0
 refine s_storeN (D := FDx) (B := B) hF (by rw [List.size_toArray, prOf_len]; kernel_rfl) rfl rfl (prOf_one ((1 + n0 % 6 : Nat) : Int)) (by rw [List.size_toArray, prOf_len]; rfl) hR hS.inv ?_; intro w' hm hI' hrc'
 replace hbx := hbx.mb hm (by simp; omega)
 replace hx2 := hx2.mb hm (by simp; omega)
 replace hx := hx.mb hm (by simp; omega)
 replace hS := hS.mb hm (fun k h => by cases h; exact hR.low)
 replace hR := hrc'
 clear hm hI' hrc'
 refine sv hF (v_assign rfl) rfl ?_; clear hF a; intro a hF
 refine WL_nil (hK _ _ ?_)
 clear hK K
 replace hF := hF.sub _ (c_ 4 rfl (c_ 3 rfl (c_ 2 rfl (c_ 1 rfl (n_)))))
 have hmx : ∃ mx : Nat, maxM ((1 + n0 % 6 : Nat) : Int) = (mx : Int) ∧ 3 ≤ mx ∧ mx ≤ 4 := by
  unfold maxM; split
  ·
   exact ⟨3, rfl, by omega⟩
  ·
   exact ⟨4, rfl, by omega⟩
 obtain ⟨mx, hmx, hmx2⟩ := hmx
 refine W_sr rfl (fun K hK => ?_)
 refine sv hF (v_ixA ar48 rfl rfl (by omega) (by omega)) rfl ?_; clear hF a; intro a hF
 refine sv hF (v_load sc5 rfl (hbx.at 2 rfl)) rfl ?_; clear hF a; intro a hF
 refine sv hF (v_cv Tryz.underlying5 Tryz.underlying3 rfl (wrap_i64 _ (by omega))) rfl ?_; clear hF a; intro a hF
 refine sv hF (v_fieldAddr fa30_4 rfl) rfl ?_; clear hF a; intro a hF
 refine sv hF (v_load sc3 rfl (by have h := (hR.kc 4 (prOf_max (by omega) (by omega))).c; rw [hmx] at h; exact h)) rfl ?_; clear hF a; intro a hF
 refine sv hF ((v_remI rfl rfl (by omega) (by omega)).as (show Value.int .i64 ((n2 : Int) % (mx : Int)) = .int .i64 ((n2 % mx : Nat) : Int) by simp)) rfl ?_; clear hF a; intro a hF
 have hmod : n2 % mx < mx := Nat.mod_lt _ (by omega)
 refine sv hF ((v_addI rfl rfl (by omega)).as (show Value.int .i64 (1 + ((n2 % mx : Nat) : Int)) = .int .i64 ((1 + n2 % mx : Nat) : Int) by simp)) rfl ?_; clear hF a; intro a hF
 refine sv hF (v_fieldAddr fa23_2 rfl) rfl ?_; clear hF a; intro a hF
 refine s_storeF (D := FDx) (B := B) hF on3 rfl rfl (rfl) (i := 2) (by simp) hx hS.inv ?_; intro w' hm hI' hrc'
 replace hbx := hbx.mb hm (by simp; omega)
 replace hx2 := hx2.mb hm (by simp; omega)
 replace hR := hR.mb hm (by simp; omega)
 replace hS := hS.mb hm (fun k h => by cases h; exact hx.low)
 replace hx := hrc'
 clear hm hI' hrc'
 refine WL_nil (hK _ _ ?_)
 clear hK K
 replace hF := hF.sub _ (c_ 3 rfl (c_ 2 rfl (n_)))
 refine W_sr rfl (fun K hK => ?_)
 refine sv hF (v_loadN Tryz.underlying23 rfl (by kernel_rfl) rfl hx.blk) rfl ?_; clear hF a; intro a hF
 refine s_storeN (D := FDx) (B := B) hF (by kernel_rfl) rfl rfl (rfl) (by rfl) hx2 hS.inv ?_; intro w' hm hI' hrc'
 replace hbx := hbx.mb hm (by simp; omega)
 replace hx := hx.mb hm (by simp; omega)
 replace hR := hR.mb hm (by simp; omega)
 replace hS := hS.mb hm (fun k h => by cases h; exact hx2.low)
 replace hx2 := hrc'
 clear hm hI' hrc'
 refine WL_nil (hK _ _ ?_)
 clear hK K
 replace hF := hF.sub _ (c_ 2 rfl (n_))
 refine W_ret ?_
 refine ⟨_, _, _, hF, rfl, (ld_rec Tryz.underlying23 rfl (by kernel_rfl) hx2), ?_⟩
 rw [hmx, Int.toNat_natCast]
 exact ⟨rfl, hS⟩

end Go.Proofs.YtkoiolamnnmokaaGreat
