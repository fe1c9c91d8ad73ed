/- The statement GfTells, joined: it returns true at every input, and the input reads as it read. -/
import Derived.Test.YtfpfgkkcmdfdiaaRows
import Derived.Test.YtfpfgkkcmdfdiaaGRow
import Derived.Test.YtfpfgkkcmdfdiaaFLaw02b
namespace Go.Proofs.Ytfpfgkkcmdfdiaa.GfTells
open Go Go.Gam Go.ChangeShapes Go.WideShapes Go.ChangeAt Go.RowKit
set_option linter.unusedVariables false

theorem own : ownKnob Try.prog.godebug = none := by kernel_rfl
theorem laid : laidOutB Try.prog = true := by kernel_rfl

set_option maxRecDepth 100000 in
theorem lifted (os : Os) (started : os.Started) (H : Type) (enc : TypeId × Value → H) :
    ReturnsInHanded {} Try.checked os 13 .any (Rows.gfTellsSpec.pre6 enc Try.prog Try.f13 Rows.gfTellsRow.domain false) (Rows.gfTellsSpec.post enc Try.prog Try.f13 false true false false) := by
  refine returnsInHanded_of_change (C := Try.checked) own started (by kernel_rfl) Try.func13
    (ChangeSpec.witness6 (enc := enc) (C := Try.checked) false ⟨#[], #[.int .u8 0, .agg #[.int .i64 0, .int .i64 0, .int .i64 0]], []⟩ 8 (by kernel_rfl) (by kernel_rfl) (by kernel_rfl) (by kernel_rfl)) ?_
  intro W base args ds gs before hval0 hW hcnd _
  have hval : ∀ (j : Nat) t v, Try.f13.params[j]? = some t → args[j]? = some v → Value.okWide Try.prog W .any base t v := hval0
  have hW' := hW
  obtain ⟨p, q, hA0, hV, rfl, hfz, hnd⟩ := hW
  have hA : DataW.TrodAll enc Try.prog W 0 (fun _ => true) true Try.f13.params.toList args.toList ds p := hA0
  rw [Try.params13] at hA hval
  obtain ⟨v0, vs0, d0, ds0, p0, q0, hargs, rfl, rfl, h0, r0⟩ := trodAll_cons hA
  obtain ⟨v1, vs1, d1, ds1, p1, q1, rfl, rfl, rfl, h1, r1⟩ := trodAll_cons r0
  obtain ⟨rfl, rfl, rfl⟩ := trodAll_nil r1
  obtain rfl : args = #[v0, v1] := by cases args; simp_all
  obtain ⟨rfl, rfl⟩ := trodVars_none hV
  obtain ⟨x0, rfl, -, -, b0⟩ := open_int Try.underlying5 (hval 0 5 v0 rfl rfl) h0
  obtain ⟨n0, rfl, k0⟩ := wf_u8 b0
  obtain ⟨l1, rfl, e1, f1⟩ := open_arr Try.underlying57 Try.underlying3 (by kernel_rfl) (by kernel_rfl) (hval 1 57 v1 rfl rfl) h1
  obtain ⟨x10, x11, x12, rfl, b10, b11, b12⟩ := three e1 f1
  have k10 := bd64 b10
  have k11 := bd64 b11
  have k12 := bd64 b12
  refine Calls.mono (GfTells_ok W.heap.size n0 x10 x11 x12 W (inv_call _ _) k0 k10 k11 k12) ?_
  rintro e W' ⟨v, rfl, rfl, hS⟩
  exact ⟨_, rfl, post_true laid hW' rfl rfl Try.underlying4 (by kernel_rfl) rfl hS.below⟩

theorem over : Rows.gfTellsRow.holds Try.pinned (OpenSpec.ofChange Rows.gfTellsSpec) :=
  OpenClaim.holds_of_wide 13 Try.f13 rfl rfl rfl rfl rfl rfl rfl ⟨rfl, rfl, rfl, rfl, rfl⟩ rfl rfl rfl rfl rfl (by kernel_rfl) Try.func13 (by kernel_rfl)
    (of_decide_eq_true (by kernel_rfl)) (by unfold Func.isWrapper; first | (rw [if_pos (by decide +kernel)]; kernel_rfl) | (rw [if_neg (by decide +kernel)]; exact ⟨rfl, rfl⟩))
    (fun os started H enc _ => lifted os started H enc)

theorem proved : Rows.GfTellsSaid := over
#print axioms proved
end Go.Proofs.Ytfpfgkkcmdfdiaa.GfTells
