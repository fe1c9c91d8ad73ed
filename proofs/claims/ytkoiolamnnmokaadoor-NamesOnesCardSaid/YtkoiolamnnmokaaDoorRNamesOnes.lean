/- The statement NamesOnes, joined: it returns true at every input, and the input reads as it read. -/
import Derived.Test.YtkoiolamnnmokaaDoorTie
import Derived.Test.YtkoiolamnnmokaaDoorCards
import Derived.Lay
import Derived.LaidMore
import Derived.SevenTiedAt
import Derived.Stop.Joined
import Derived.Test.YtkoiolamnnmokaaDoorRows
import Derived.Test.YtkoiolamnnmokaaDoorGOpen
import Derived.Test.YtkoiolamnnmokaaDoorFNamesOnes
namespace Go.Proofs.YtkoiolamnnmokaaDoor.NamesOnes
open Go Go.Gam Go.ChangeShapes Go.WideShapes Go.ChangeAt Go.RowKit
set_option linter.unusedVariables false

theorem own : ownKnob Tryd.prog.godebug = none := by kernel_rfl
theorem laid : laidOutB Tryd.prog = true := by kernel_rfl

set_option maxRecDepth 100000 in
theorem lifted (os : Os) (started : os.Started) (H : Type) (enc : TypeId × Value → H) :
    ReturnsInHanded {} Tryd.checked os 4 .any (fun w args => (Rows.namesOnesSpec.pre enc Tryd.prog Tryd.f4 Rows.namesOnesRow.domain false w args ∧ laidMetH Tryd.prog Rows.namesOnesRow.laid w) ∧ sizedMet enc Tryd.prog Tryd.f4 (OpenSpec.ofChange Rows.namesOnesSpec) false w args) (Rows.namesOnesSpec.post enc Tryd.prog Tryd.f4 false true false false) := by
  refine returnsInHanded_of_change_and (C := Tryd.checked) (X := fun w _ => laidMetH Tryd.prog Rows.namesOnesRow.laid w) (fun _ _ _ hh h => h.of_heap hh) own started (by kernel_rfl) Tryd.func4
    (ChangeSpec.witness_shaped (enc := enc) (C := Tryd.checked) (os := os) (X := fun w _ => laidMetH Tryd.prog Rows.namesOnesRow.laid w) false (World.laidAll Tryd.prog os Rows.namesOnesRow.laid) #[.agg #[.int .u8 0, .int .u8 0, .int .u8 0], .agg #[.int .u8 0, .int .u8 0, .int .u8 0], .agg #[.int .u8 0, .int .u8 0]] 8 (World.laidAll_os _ _ _)
      (World.shaped_of_ZipB (by kernel_rfl) (by kernel_rfl)) (by kernel_rfl) (by kernel_rfl) (by kernel_rfl)
      (by rw [MakeChecks.laidMetH_plain _ _ _ (by kernel_rfl)]; exact laidMet_laidAll _ (by kernel_rfl) (by kernel_rfl))) ?_
  intro W base args ds gs before hval0 hW hcnd _ _ _
  have hval : ∀ (j : Nat) t v, Tryd.f4.params[j]? = some t → args[j]? = some v → Value.okWide Tryd.prog W .any base t v := hval0
  have hW' := hW
  obtain ⟨p, q, hA0, hV, rfl, hfz, hnd⟩ := hW
  have hA : DataW.TrodAll enc Tryd.prog W 0 (fun _ => true) true Tryd.f4.params.toList args.toList ds p := hA0
  rw [Tryd.params4] at hA hval
  obtain ⟨v0, vs0, d0, ds0, p0, q0, hargs, rfl, rfl, h0, r0⟩ := trodAll_cons hA
  obtain ⟨v1, vs1, d1, ds1, p1, q1, rfl, rfl, rfl, h1, r1⟩ := trodAll_cons r0
  obtain ⟨v2, vs2, d2, ds2, p2, q2, rfl, rfl, rfl, h2, r2⟩ := trodAll_cons r1
  obtain ⟨rfl, rfl, rfl⟩ := trodAll_nil r2
  obtain rfl : args = #[v0, v1, v2] := by cases args; simp_all
  obtain ⟨rfl, rfl⟩ := trodVars_none hV
  obtain ⟨l0, rfl, e0, f0⟩ := open_arr Tryd.underlying32 Tryd.underlying5 (by kernel_rfl) (by kernel_rfl) (hval 0 32 v0 rfl rfl) h0
  obtain ⟨x00, x01, x02, rfl, b00, b01, b02⟩ := three e0 f0
  obtain ⟨n00, rfl, k00⟩ := wf_u8 b00
  obtain ⟨n01, rfl, k01⟩ := wf_u8 b01
  obtain ⟨n02, rfl, k02⟩ := wf_u8 b02
  obtain ⟨l1, rfl, e1, f1⟩ := open_arr Tryd.underlying32 Tryd.underlying5 (by kernel_rfl) (by kernel_rfl) (hval 1 32 v1 rfl rfl) h1
  obtain ⟨x10, x11, x12, rfl, b10, b11, b12⟩ := three e1 f1
  obtain ⟨n10, rfl, k10⟩ := wf_u8 b10
  obtain ⟨n11, rfl, k11⟩ := wf_u8 b11
  obtain ⟨n12, rfl, k12⟩ := wf_u8 b12
  obtain ⟨l2, rfl, e2, f2⟩ := open_arr Tryd.underlying33 Tryd.underlying5 (by kernel_rfl) (by kernel_rfl) (hval 2 33 v2 rfl rfl) h2
  obtain ⟨x20, x21, rfl, b20, b21⟩ := two e2 f2
  obtain ⟨n20, rfl, k20⟩ := wf_u8 b20
  obtain ⟨n21, rfl, k21⟩ := wf_u8 b21
  refine Calls.mono (NamesOnes_ok W.heap.size n00 n01 n02 n10 n11 n12 n20 n21 W (inv_call _ _) k00 k01 k02 k10 k11 k12 k20 k21) ?_
  rintro e W' ⟨v, rfl, rfl, hS⟩
  exact ⟨_, rfl, post_true laid hW' rfl rfl Tryd.underlying4 (by kernel_rfl) rfl hS.below⟩

theorem over : Rows.namesOnesRow.holds Tryd.pinned (OpenSpec.ofChange Rows.namesOnesSpec) :=
  OpenClaim.holds_of_wide 4 Tryd.f4 rfl rfl rfl rfl rfl rfl rfl ⟨rfl, rfl, rfl, rfl, rfl⟩ rfl rfl rfl rfl rfl (by kernel_rfl) Tryd.func4 (by kernel_rfl)
    (of_decide_eq_true (by kernel_rfl)) (by unfold Func.isWrapper; first | (rw [if_pos (by decide +kernel)]; kernel_rfl) | (rw [if_neg (by decide +kernel)]; exact ⟨rfl, rfl⟩))
    (fun os started H enc _ => lifted os started H enc)

theorem proved : Rows.NamesOnesCardSaid :=
  Claim7.holds_tied_plain_at .later [] [.data, .pinned] true (true, "b3e9b02e49b5ce47d18ae6442e39246f7c372cd0e65e8d3d3fab5aeb774d6629") false over (fun _ h => by cases h) (by kernel_rfl) (fun _ h => by cases h) namesOnes_row_tie rfl ⟨rfl, rfl⟩ (by kernel_rfl) rfl
    (fun f fn hf hfn => by
      obtain rfl : f = 4 := Option.some.inj ((show Tryd.prog.funcNamed Rows.namesOnesRow.func = some 4 by kernel_rfl).symm.trans hf) |>.symm
      obtain rfl : fn = Tryd.f4 := (Option.some.inj (Tryd.func4.symm.trans hfn)).symm
      exact ⟨by kernel_rfl, fun j t ht => by
        rw [Tryd.params4] at ht
        have hm : t ∈ [32, 32, 33] := by simpa using Array.mem_of_getElem? ht
        have hall : ([32, 32, 33].all fun u => !Tryd.prog.wantsStandIn u) = true := by kernel_rfl
        exact (show Tryd.prog.wantsStandIn t = false by simpa using List.all_eq_true.1 hall t hm)⟩)
    (by kernel_rfl)
#print axioms proved
end Go.Proofs.YtkoiolamnnmokaaDoor.NamesOnes
