/- Texts of the claim TopUpdates (part 25), put together in the order of their imports. -/
import Derived.Test.YtoabojbpeafdkaaGreatDoorKTopUpdates2
import Derived.Test.YtoabojbpeafdkaaGreatDoorKTopUpdates24
import Derived.Test.YtoabojbpeafdkaaGreatDoorTie
import Derived.Test.YtoabojbpeafdkaaGreatDoorCards
import Derived.Lay
import Derived.LaidMore
import Derived.SevenTiedAt
import Derived.Stop.Joined
import Derived.Test.YtoabojbpeafdkaaGreatDoorRows
set_option linter.all false
set_option maxRecDepth 100000
set_option maxHeartbeats 1000000
/- The row of TopUpdates: it returns true at every input, and the input reads as it read. -/
namespace Go.Proofs.YtoabojbpeafdkaaGreatDoor.TopUpdates
open Go Go.Gam Go.ChangeShapes Go.WideShapes Go.ChangeAt Go.RowKit
theorem own : ownKnob Tryz.prog.godebug = none := by kernel_rfl
theorem laid : laidOutB Tryz.prog = true := by kernel_rfl
theorem lifted (os : Os) (started : os.Started) (H : Type) (enc : TypeId × Value → H) :
  ReturnsInHanded {} Tryz.checked os 5 .any (fun w args => (Rows.topUpdatesSpec.pre enc Tryz.prog Tryz.f5 Rows.topUpdatesRow.domain false w args ∧ laidMetH Tryz.prog Rows.topUpdatesRow.laid w) ∧ sizedMet enc Tryz.prog Tryz.f5 (OpenSpec.ofChange Rows.topUpdatesSpec) false w args) (Rows.topUpdatesSpec.post enc Tryz.prog Tryz.f5 false true false false) := by
 refine returnsInHanded_of_change_and (C := Tryz.checked) (X := fun w _ => laidMetH Tryz.prog Rows.topUpdatesRow.laid w) (fun _ _ _ hh h => h.of_heap hh) own started (by kernel_rfl) Tryz.func5
  (ChangeSpec.witness_shaped (enc := enc) (C := Tryz.checked) (os := os) (X := fun w _ => laidMetH Tryz.prog Rows.topUpdatesRow.laid w) false (World.laidAll Tryz.prog os Rows.topUpdatesRow.laid) #[.agg #[.int .u8 0, .int .u8 0, .int .u8 0], .slice none 0 0, .agg #[.int .u8 0, .int .u8 0]] 8 (World.laidAll_os _ _ _)
   (World.shaped_of_ZipB (by kernel_rfl) (by kernel_rfl)) (by kernel_rfl) (by kernel_rfl) (by kernel_rfl)
   (by rw [MakeChecks.laidMetH_plain _ _ _ (by kernel_rfl)]; exact laidMet_laidAll _ (by kernel_rfl) (by kernel_rfl))) ?_
 intro W base args ds gs before hval0 hW hcnd _ hLaid _
 have hLd : laidMet Tryz.prog Rows.topUpdatesRow.laid W := by rw [← MakeChecks.laidMetH_plain _ _ _ (by kernel_rfl)]; exact hLaid
 have hval : ∀ (j : Nat) t v, Tryz.f5.params[j]? = some t → args[j]? = some v → Value.okWide Tryz.prog W .any base t v := hval0
 have hW' := hW
 obtain ⟨p, q, hA0, hV, rfl, hfz, hnd⟩ := hW
 have hA : DataW.TrodAll enc Tryz.prog W 0 (fun _ => true) true Tryz.f5.params.toList args.toList ds p := hA0
 rw [Tryz.params5] at hA hval
 obtain ⟨v0, vs0, d0, ds0, p0, q0, hargs, rfl, rfl, h0, r0⟩ := trodAll_cons hA
 obtain ⟨v1, vs1, d1, ds1, p1, q1, rfl, rfl, rfl, h1, r1⟩ := trodAll_cons r0
 obtain ⟨v2, vs2, d2, ds2, p2, q2, rfl, rfl, rfl, h2, r2⟩ := trodAll_cons r1
 obtain ⟨rfl, rfl, rfl⟩ := trodAll_nil r2
 obtain rfl : args = #[v0, v1, v2] := by cases args; simp_all
 obtain ⟨rfl, rfl⟩ := trodVars_none hV
 obtain ⟨l0, rfl, e0, f0⟩ := open_arr Tryz.underlying32 Tryz.underlying5 (by kernel_rfl) (by kernel_rfl) (hval 0 32 v0 rfl rfl) h0
 obtain ⟨x00, x01, x02, rfl, b00, b01, b02⟩ := three e0 f0
 obtain ⟨n00, rfl, k00⟩ := wf_u8 b00
 obtain ⟨n01, rfl, k01⟩ := wf_u8 b01
 obtain ⟨n02, rfl, k02⟩ := wf_u8 b02
 obtain ⟨ad1, ca1, li1, rfl, ro1, bo1, mx1⟩ := open_byt (D := FDx) Tryz.underlying23 Tryz.underlying5 (by kernel_rfl) (hval 1 23 v1 rfl rfl) h1
 obtain ⟨l2, rfl, e2, f2⟩ := open_arr Tryz.underlying67 Tryz.underlying5 (by kernel_rfl) (by kernel_rfl) (hval 2 67 v2 rfl rfl) h2
 obtain ⟨x20, x21, rfl, b20, b21⟩ := two e2 f2
 obtain ⟨n20, rfl, k20⟩ := wf_u8 b20
 obtain ⟨n21, rfl, k21⟩ := wf_u8 b21
 refine Calls.mono (TopUpdates_ok W.heap.size W.heap.size n00 n01 n02 ad1 ca1 li1 n20 n21 W (inv_call _ _) (Nat.le_refl _) k00 k01 k02 ro1 bo1 mx1 k20 k21 hLd (Nat.le_refl _)) ?_
 rintro e W' ⟨v, rfl, rfl, hS⟩
 exact ⟨_, rfl, post_true laid hW' rfl rfl Tryz.underlying4 (by kernel_rfl) rfl hS⟩
theorem j1 : OpenClaim.wf (OpenSpec.ofChange Rows.topUpdatesSpec) Rows.topUpdatesRow = true := by kernel_rfl
theorem j2 : mapsRowed Tryz.prog = true := by kernel_rfl
theorem j3 : (Rows.topUpdatesRow.inPlace == Tryz.prog.inPlace 5) = true := by kernel_rfl
theorem j4 : (Rows.topUpdatesRow.unfollowed == Tryz.prog.unfollowed 5) = true := by kernel_rfl
theorem j5 : (Rows.topUpdatesRow.recurses == Tryz.prog.recurses 5) = true := by kernel_rfl
theorem j6 : (Rows.topUpdatesRow.named == Tryz.prog.varsNamed 5) = true := by kernel_rfl
theorem j7 : (Rows.topUpdatesRow.plainKeys == Tryz.prog.plainKeys) = true := by kernel_rfl
theorem j8 : Tryz.prog.stopsHeard = true := by kernel_rfl
theorem j9 : Tryz.prog.mayEnter = true := by kernel_rfl
theorem j10 : (Rows.topUpdatesRow.lifted == Tryz.prog.liftsFinal) = true := by kernel_rfl
theorem j11 : (Tryz.prog.make == some Rows.topUpdatesRow.make) = true := by kernel_rfl
theorem j12 : (Tryz.prog.stopKnobs == []) = true := by kernel_rfl
theorem j13 : (Tryz.prog.stops == []) = true := by kernel_rfl
theorem joined : joinedFacts Tryz.prog 5 Tryz.f5 Rows.topUpdatesSpec Rows.topUpdatesRow = true := by
 unfold joinedFacts
 simp only [Bool.and_eq_true]
 repeat' apply And.intro
 · exact j1
 · exact laid
 · exact j2
 · kernel_rfl
 · kernel_rfl
 · kernel_rfl
 · exact j13
 · kernel_rfl
 · exact j12
 · exact j3
 · exact j4
 · exact j5
 · exact j6
 · kernel_rfl
 · kernel_rfl
 · kernel_rfl
 · kernel_rfl
 · kernel_rfl
 · kernel_rfl
 · kernel_rfl
 · kernel_rfl
 · kernel_rfl
 · exact j7
 · kernel_rfl
 · exact j8
 · exact j9
 · exact j10
 · exact j11
 · kernel_rfl
 · kernel_rfl
 · kernel_rfl
 kernel_rfl
theorem over : Rows.topUpdatesRow.holds Tryz.pinned (OpenSpec.ofChange Rows.topUpdatesSpec) :=
 OpenClaim.holds_of_wide 5 Tryz.f5 rfl rfl rfl rfl rfl rfl rfl ⟨rfl, rfl, rfl, rfl, rfl⟩ rfl rfl rfl rfl rfl (by kernel_rfl) Tryz.func5 joined
  (of_decide_eq_true (by kernel_rfl)) (by unfold Func.isWrapper; first | (rw [if_pos (by decide +kernel)]; kernel_rfl) | (rw [if_neg (by decide +kernel)]; exact ⟨rfl, rfl⟩))
  (fun os started H enc _ => lifted os started H enc)
end Go.Proofs.YtoabojbpeafdkaaGreatDoor.TopUpdates
