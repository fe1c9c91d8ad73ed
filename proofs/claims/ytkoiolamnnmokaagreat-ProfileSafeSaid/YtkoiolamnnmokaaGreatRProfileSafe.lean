/- The statement ProfileSafe, joined: it returns true at every input, and the input reads as it read. -/
import Derived.Test.YtkoiolamnnmokaaGreatRows
import Derived.Test.YtkoiolamnnmokaaGreatKProfileSafe12
namespace Go.Proofs.YtkoiolamnnmokaaGreat.ProfileSafe
open Go Go.Gam Go.ChangeShapes Go.WideShapes Go.ChangeAt Go.RowKit
set_option linter.unusedVariables false

theorem own : ownKnob Tryz.prog.godebug = none := by kernel_rfl
theorem laid : laidOutB Tryz.prog = true := by kernel_rfl

set_option maxRecDepth 100000 in
theorem lifted (os : Os) (started : os.Started) (H : Type) (enc : TypeId × Value → H) :
    ReturnsInHanded {} Tryz.checked os 5 .any (Rows.profileSafeSpec.pre6 enc Tryz.prog Tryz.f5 Rows.profileSafeRow.domain false) (Rows.profileSafeSpec.post enc Tryz.prog Tryz.f5 false true false false) := by
  refine returnsInHanded_of_change (C := Tryz.checked) own started (by kernel_rfl) Tryz.func5
    (ChangeSpec.witness6 (enc := enc) (C := Tryz.checked) false ⟨#[], #[.agg #[.int .u8 0, .int .u8 0, .int .u8 0]], []⟩ 8 (by kernel_rfl) (by kernel_rfl) (by kernel_rfl) (by kernel_rfl)) ?_
  intro W base args ds gs before hval0 hW hcnd _
  have hval : ∀ (j : Nat) t v, Tryz.f5.params[j]? = some t → args[j]? = some v → Value.okWide Tryz.prog W .any base t v := hval0
  have hW' := hW
  obtain ⟨p, q, hA0, hV, rfl, hfz, hnd⟩ := hW
  have hA : DataW.TrodAll enc Tryz.prog W 0 (fun _ => true) true Tryz.f5.params.toList args.toList ds p := hA0
  rw [Tryz.params5] at hA hval
  obtain ⟨v0, vs0, d0, ds0, p0, q0, hargs, rfl, rfl, h0, r0⟩ := trodAll_cons hA
  obtain ⟨rfl, rfl, rfl⟩ := trodAll_nil r0
  obtain rfl : args = #[v0] := by cases args; simp_all
  obtain ⟨rfl, rfl⟩ := trodVars_none hV
  obtain ⟨l0, rfl, e0, f0⟩ := open_arr Tryz.underlying48 Tryz.underlying5 (by kernel_rfl) (by kernel_rfl) (hval 0 48 v0 rfl rfl) h0
  obtain ⟨x00, x01, x02, rfl, b00, b01, b02⟩ := three e0 f0
  obtain ⟨n00, rfl, k00⟩ := wf_u8 b00
  obtain ⟨n01, rfl, k01⟩ := wf_u8 b01
  obtain ⟨n02, rfl, k02⟩ := wf_u8 b02
  refine Calls.mono (ProfileSafe_ok W.heap.size n00 n01 n02 W (inv_call _ _) k00 k01 k02) ?_
  rintro e W' ⟨v, rfl, rfl, hS⟩
  exact ⟨_, rfl, post_true laid hW' rfl rfl Tryz.underlying4 (by kernel_rfl) rfl hS.below⟩

theorem over : Rows.profileSafeRow.holds Tryz.pinned (OpenSpec.ofChange Rows.profileSafeSpec) :=
  OpenClaim.holds_of_wide 5 Tryz.f5 rfl rfl rfl rfl rfl rfl rfl ⟨rfl, rfl, rfl, rfl, rfl⟩ rfl rfl rfl rfl rfl (by kernel_rfl) Tryz.func5 (by kernel_rfl)
    (of_decide_eq_true (by kernel_rfl)) (by unfold Func.isWrapper; first | (rw [if_pos (by decide +kernel)]; kernel_rfl) | (rw [if_neg (by decide +kernel)]; exact ⟨rfl, rfl⟩))
    (fun os started H enc _ => lifted os started H enc)

theorem proved : Rows.ProfileSafeSaid := over
#print axioms proved
end Go.Proofs.YtkoiolamnnmokaaGreat.ProfileSafe
