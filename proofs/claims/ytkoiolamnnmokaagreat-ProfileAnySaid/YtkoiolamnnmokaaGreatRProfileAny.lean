/- The statement ProfileAny, joined: it returns true at every input, and the input reads as it read. -/
import Derived.Test.YtkoiolamnnmokaaGreatRows
import Derived.Test.YtkoiolamnnmokaaGreatKProfileAny11
namespace Go.Proofs.YtkoiolamnnmokaaGreat.ProfileAny
open Go Go.Gam Go.ChangeShapes Go.WideShapes Go.ChangeAt Go.RowKit
set_option linter.unusedVariables false

theorem own : ownKnob Tryz.prog.godebug = none := by kernel_rfl
theorem laid : laidOutB Tryz.prog = true := by kernel_rfl

set_option maxRecDepth 100000 in
theorem lifted (os : Os) (started : os.Started) (H : Type) (enc : TypeId × Value → H) :
    ReturnsInHanded {} Tryz.checked os 4 .any (Rows.profileAnySpec.pre6 enc Tryz.prog Tryz.f4 Rows.profileAnyRow.domain false) (Rows.profileAnySpec.post enc Tryz.prog Tryz.f4 false true false false) := by
  refine returnsInHanded_of_change (C := Tryz.checked) own started (by kernel_rfl) Tryz.func4
    (ChangeSpec.witness6 (enc := enc) (C := Tryz.checked) false ⟨#[], #[.agg #[.int .u8 0, .int .u8 0, .int .u8 0], .agg #[.int .u8 0, .int .u8 0]], []⟩ 8 (by kernel_rfl) (by kernel_rfl) (by kernel_rfl) (by kernel_rfl)) ?_
  intro W base args ds gs before hval0 hW hcnd _
  have hval : ∀ (j : Nat) t v, Tryz.f4.params[j]? = some t → args[j]? = some v → Value.okWide Tryz.prog W .any base t v := hval0
  have hW' := hW
  obtain ⟨p, q, hA0, hV, rfl, hfz, hnd⟩ := hW
  have hA : DataW.TrodAll enc Tryz.prog W 0 (fun _ => true) true Tryz.f4.params.toList args.toList ds p := hA0
  rw [Tryz.params4] at hA hval
  obtain ⟨v0, vs0, d0, ds0, p0, q0, hargs, rfl, rfl, h0, r0⟩ := trodAll_cons hA
  obtain ⟨v1, vs1, d1, ds1, p1, q1, rfl, rfl, rfl, h1, r1⟩ := trodAll_cons r0
  obtain ⟨rfl, rfl, rfl⟩ := trodAll_nil r1
  obtain rfl : args = #[v0, v1] := by cases args; simp_all
  obtain ⟨rfl, rfl⟩ := trodVars_none hV
  obtain ⟨l0, rfl, e0, f0⟩ := open_arr Tryz.underlying48 Tryz.underlying5 (by kernel_rfl) (by kernel_rfl) (hval 0 48 v0 rfl rfl) h0
  obtain ⟨x00, x01, x02, rfl, b00, b01, b02⟩ := three e0 f0
  obtain ⟨n00, rfl, k00⟩ := wf_u8 b00
  obtain ⟨n01, rfl, k01⟩ := wf_u8 b01
  obtain ⟨n02, rfl, k02⟩ := wf_u8 b02
  obtain ⟨l1, rfl, e1, f1⟩ := open_arr Tryz.underlying49 Tryz.underlying5 (by kernel_rfl) (by kernel_rfl) (hval 1 49 v1 rfl rfl) h1
  obtain ⟨x10, x11, rfl, b10, b11⟩ := two e1 f1
  obtain ⟨n10, rfl, k10⟩ := wf_u8 b10
  obtain ⟨n11, rfl, k11⟩ := wf_u8 b11
  refine Calls.mono (ProfileAny_ok W.heap.size n00 n01 n02 n10 n11 W (inv_call _ _) k00 k01 k02 k10 k11) ?_
  rintro e W' ⟨v, rfl, rfl, hS⟩
  exact ⟨_, rfl, post_true laid hW' rfl rfl Tryz.underlying4 (by kernel_rfl) rfl hS.below⟩

theorem over : Rows.profileAnyRow.holds Tryz.pinned (OpenSpec.ofChange Rows.profileAnySpec) :=
  OpenClaim.holds_of_wide 4 Tryz.f4 rfl rfl rfl rfl rfl rfl rfl ⟨rfl, rfl, rfl, rfl, rfl⟩ rfl rfl rfl rfl rfl (by kernel_rfl) Tryz.func4 (by kernel_rfl)
    (of_decide_eq_true (by kernel_rfl)) (by unfold Func.isWrapper; first | (rw [if_pos (by decide +kernel)]; kernel_rfl) | (rw [if_neg (by decide +kernel)]; exact ⟨rfl, rfl⟩))
    (fun os started H enc _ => lifted os started H enc)

theorem proved : Rows.ProfileAnySaid := over
#print axioms proved
end Go.Proofs.YtkoiolamnnmokaaGreat.ProfileAny
