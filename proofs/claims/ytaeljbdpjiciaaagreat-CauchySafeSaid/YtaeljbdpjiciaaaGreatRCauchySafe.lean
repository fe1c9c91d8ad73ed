/- The statement CauchySafe, joined: it returns true at every input, and the input reads as it read. -/
import Derived.Test.YtaeljbdpjiciaaaGreatRows
import Derived.Test.YtaeljbdpjiciaaaGreatKCauchySafe11
namespace Go.Proofs.YtaeljbdpjiciaaaGreat.CauchySafe
open Go Go.Gam Go.ChangeShapes Go.WideShapes Go.ChangeAt Go.RowKit
set_option linter.unusedVariables false

theorem own : ownKnob Tryz.prog.godebug = none := by kernel_rfl
theorem laid : laidOutB Tryz.prog = true := by kernel_rfl

set_option maxRecDepth 100000 in
theorem lifted (os : Os) (started : os.Started) (H : Type) (enc : TypeId × Value → H) :
    ReturnsInHanded {} Tryz.checked os 3 .any (Rows.cauchySafeSpec.pre6 enc Tryz.prog Tryz.f3 Rows.cauchySafeRow.domain false) (Rows.cauchySafeSpec.post enc Tryz.prog Tryz.f3 false true false false) := by
  refine returnsInHanded_of_change (C := Tryz.checked) own started (by kernel_rfl) Tryz.func3
    (ChangeSpec.witness6 (enc := enc) (C := Tryz.checked) false ⟨#[], #[.bool false, .slice none 0 0], []⟩ 8 (by kernel_rfl) (by kernel_rfl) (by kernel_rfl) (by kernel_rfl)) ?_
  intro W base args ds gs before hval0 hW hcnd _
  have hval : ∀ (j : Nat) t v, Tryz.f3.params[j]? = some t → args[j]? = some v → Value.okWide Tryz.prog W .any base t v := hval0
  have hW' := hW
  obtain ⟨p, q, hA0, hV, rfl, hfz, hnd⟩ := hW
  have hA : DataW.TrodAll enc Tryz.prog W 0 (fun _ => true) true Tryz.f3.params.toList args.toList ds p := hA0
  rw [Tryz.params3] at hA hval
  obtain ⟨v0, vs0, d0, ds0, p0, q0, hargs, rfl, rfl, h0, r0⟩ := trodAll_cons hA
  obtain ⟨v1, vs1, d1, ds1, p1, q1, rfl, rfl, rfl, h1, r1⟩ := trodAll_cons r0
  obtain ⟨rfl, rfl, rfl⟩ := trodAll_nil r1
  obtain rfl : args = #[v0, v1] := by cases args; simp_all
  obtain ⟨rfl, rfl⟩ := trodVars_none hV
  obtain ⟨x0, rfl, -, -⟩ := open_bool Tryz.underlying4 (hval 0 4 v0 rfl rfl) h0
  obtain ⟨ad1, ca1, ma1, rfl, ro1, bo1, mx1⟩ := open_mat (D := FDx) Tryz.underlying22 Tryz.underlying39 Tryz.underlying3 (by kernel_rfl) (by kernel_rfl) (hval 1 22 v1 rfl rfl) h1
  refine Calls.mono (CauchySafe_ok W.heap.size W.heap.size x0 ad1 ca1 ma1 W (inv_call _ _) (Nat.le_refl _) ro1 bo1 mx1) ?_
  rintro e W' ⟨v, rfl, rfl, hS⟩
  exact ⟨_, rfl, post_true laid hW' rfl rfl Tryz.underlying4 (by kernel_rfl) rfl hS.below⟩

theorem over : Rows.cauchySafeRow.holds Tryz.pinned (OpenSpec.ofChange Rows.cauchySafeSpec) :=
  OpenClaim.holds_of_wide 3 Tryz.f3 rfl rfl rfl rfl rfl rfl rfl ⟨rfl, rfl, rfl, rfl, rfl⟩ rfl rfl rfl rfl rfl (by kernel_rfl) Tryz.func3 (by kernel_rfl)
    (of_decide_eq_true (by kernel_rfl)) (by unfold Func.isWrapper; first | (rw [if_pos (by decide +kernel)]; kernel_rfl) | (rw [if_neg (by decide +kernel)]; exact ⟨rfl, rfl⟩))
    (fun os started H enc _ => lifted os started H enc)

theorem proved : Rows.CauchySafeSaid := over
#print axioms proved
end Go.Proofs.YtaeljbdpjiciaaaGreat.CauchySafe
