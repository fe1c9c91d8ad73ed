/- The statement ProfileTells, joined: it returns true at every input, and the input reads as it read. -/
import Derived.Test.YtkoiolamnnmokaaGreatRows
import Derived.Test.YtkoiolamnnmokaaGreatKProfileTells13
namespace Go.Proofs.YtkoiolamnnmokaaGreat.ProfileTells
open Go Go.Gam Go.ChangeShapes Go.WideShapes Go.ChangeAt Go.RowKit
set_option linter.unusedVariables false

theorem own : ownKnob Tryz.prog.godebug = none := by kernel_rfl
theorem laid : laidOutB Tryz.prog = true := by kernel_rfl

set_option maxRecDepth 100000 in
theorem lifted (os : Os) (started : os.Started) (H : Type) (enc : TypeId × Value → H) :
    ReturnsInHanded {} Tryz.checked os 3 .any (Rows.profileTellsSpec.pre6 enc Tryz.prog Tryz.f3 Rows.profileTellsRow.domain false) (Rows.profileTellsSpec.post enc Tryz.prog Tryz.f3 false true false false) := by
  refine returnsInHanded_of_change (C := Tryz.checked) own started (by kernel_rfl) Tryz.func3
    (ChangeSpec.witness6 (enc := enc) (C := Tryz.checked) false ⟨#[], #[.int .i64 0, .string ⟨#[]⟩, .agg #[.int .i64 0, .int .i64 0, .int .i64 0]], []⟩ 8 (by kernel_rfl) (by kernel_rfl) (by kernel_rfl) (by kernel_rfl)) ?_
  intro W base args ds gs before hval0 hW hcnd _
  have hval : ∀ (j : Nat) t v, Tryz.f3.params[j]? = some t → args[j]? = some v → Value.okWide Tryz.prog W .any base t v := hval0
  have hW' := hW
  obtain ⟨p, q, hA0, hV, rfl, hfz, hnd⟩ := hW
  have hA : DataW.TrodAll enc Tryz.prog W 0 (fun _ => true) true Tryz.f3.params.toList args.toList ds p := hA0
  rw [Tryz.params3] at hA hval
  obtain ⟨v0, vs0, d0, ds0, p0, q0, hargs, rfl, rfl, h0, r0⟩ := trodAll_cons hA
  obtain ⟨v1, vs1, d1, ds1, p1, q1, rfl, rfl, rfl, h1, r1⟩ := trodAll_cons r0
  obtain ⟨v2, vs2, d2, ds2, p2, q2, rfl, rfl, rfl, h2, r2⟩ := trodAll_cons r1
  obtain ⟨rfl, rfl, rfl⟩ := trodAll_nil r2
  obtain rfl : args = #[v0, v1, v2] := by cases args; simp_all
  obtain ⟨rfl, rfl⟩ := trodVars_none hV
  obtain ⟨x0, rfl, -, -, b0⟩ := open_int Tryz.underlying3 (hval 0 3 v0 rfl rfl) h0
  have k0 := bd64 b0
  obtain ⟨x1, rfl, k1⟩ := open_str Tryz.underlying9 (hval 1 9 v1 rfl rfl) h1
  obtain ⟨x20, x21, x22, rfl, b20, b21, b22⟩ := open_p3 Tryz.underlying23 Tryz.underlying3 Tryz.underlying3 Tryz.underlying3 rfl (by kernel_rfl) (by kernel_rfl) (hval 2 23 v2 rfl rfl) h2
  have k20 := bd64 b20
  have k21 := bd64 b21
  have k22 := bd64 b22
  refine Calls.mono (ProfileTells_ok W.heap.size x0 x1 x20 x21 x22 W (inv_call _ _) k0 k1 k20 k21 k22) ?_
  rintro e W' ⟨v, rfl, rfl, hS⟩
  exact ⟨_, rfl, post_true laid hW' rfl rfl Tryz.underlying4 (by kernel_rfl) rfl hS.below⟩

theorem over : Rows.profileTellsRow.holds Tryz.pinned (OpenSpec.ofChange Rows.profileTellsSpec) :=
  OpenClaim.holds_of_wide 3 Tryz.f3 rfl rfl rfl rfl rfl rfl rfl ⟨rfl, rfl, rfl, rfl, rfl⟩ rfl rfl rfl rfl rfl (by kernel_rfl) Tryz.func3 (by kernel_rfl)
    (of_decide_eq_true (by kernel_rfl)) (by unfold Func.isWrapper; first | (rw [if_pos (by decide +kernel)]; kernel_rfl) | (rw [if_neg (by decide +kernel)]; exact ⟨rfl, rfl⟩))
    (fun os started H enc _ => lifted os started H enc)

theorem proved : Rows.ProfileTellsSaid := over
#print axioms proved
end Go.Proofs.YtkoiolamnnmokaaGreat.ProfileTells
