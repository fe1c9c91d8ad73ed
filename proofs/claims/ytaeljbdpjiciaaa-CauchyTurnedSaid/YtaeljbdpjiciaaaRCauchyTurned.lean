/- The statement CauchyTurned, joined: it returns true at every input, and the input reads as it read. -/
import Derived.Test.YtaeljbdpjiciaaaRows
import Derived.Test.YtaeljbdpjiciaaaKCauchyTurned9
namespace Go.Proofs.Ytaeljbdpjiciaaa.CauchyTurned
open Go Go.Gam Go.ChangeShapes Go.WideShapes Go.ChangeAt Go.RowKit
set_option linter.unusedVariables false

theorem own : ownKnob Try.prog.godebug = none := by kernel_rfl
theorem laid : laidOutB Try.prog = true := by kernel_rfl

set_option maxRecDepth 100000 in
theorem lifted (os : Os) (started : os.Started) (H : Type) (enc : TypeId × Value → H) :
    ReturnsInHanded {} Try.checked os 8 .any (Rows.cauchyTurnedSpec.pre6 enc Try.prog Try.f8 Rows.cauchyTurnedRow.domain false) (Rows.cauchyTurnedSpec.post enc Try.prog Try.f8 false true false false) := by
  refine returnsInHanded_of_change (C := Try.checked) own started (by kernel_rfl) Try.func8
    (ChangeSpec.witness6 (enc := enc) (C := Try.checked) false ⟨#[], #[.bool false, .slice none 0 0, .slice none 0 0], []⟩ 8 (by kernel_rfl) (by kernel_rfl) (by kernel_rfl) (by kernel_rfl)) ?_
  intro W base args ds gs before hval0 hW hcnd _
  have hval : ∀ (j : Nat) t v, Try.f8.params[j]? = some t → args[j]? = some v → Value.okWide Try.prog W .any base t v := hval0
  have hW' := hW
  obtain ⟨p, q, hA0, hV, rfl, hfz, hnd⟩ := hW
  have hA : DataW.TrodAll enc Try.prog W 0 (fun _ => true) true Try.f8.params.toList args.toList ds p := hA0
  rw [Try.params8] at hA hval
  obtain ⟨v0, vs0, d0, ds0, p0, q0, hargs, rfl, rfl, h0, r0⟩ := trodAll_cons hA
  obtain ⟨v1, vs1, d1, ds1, p1, q1, rfl, rfl, rfl, h1, r1⟩ := trodAll_cons r0
  obtain ⟨v2, vs2, d2, ds2, p2, q2, rfl, rfl, rfl, h2, r2⟩ := trodAll_cons r1
  obtain ⟨rfl, rfl, rfl⟩ := trodAll_nil r2
  obtain rfl : args = #[v0, v1, v2] := by cases args; simp_all
  obtain ⟨rfl, rfl⟩ := trodVars_none hV
  obtain ⟨x0, rfl, -, -⟩ := open_bool Try.underlying4 (hval 0 4 v0 rfl rfl) h0
  obtain ⟨ad1, ca1, li1, rfl, ro1, bo1, mx1⟩ := open_u16 (D := FDx) Try.underlying49 Try.underlying50 (by kernel_rfl) (hval 1 49 v1 rfl rfl) h1
  obtain ⟨ad2, ca2, li2, rfl, ro2, bo2, mx2⟩ := open_u16 (D := FDx) Try.underlying49 Try.underlying50 (by kernel_rfl) (hval 2 49 v2 rfl rfl) h2
  refine Calls.mono (CauchyTurned_ok W.heap.size W.heap.size x0 ad1 ca1 li1 ad2 ca2 li2 W (inv_call _ _) (Nat.le_refl _) ro1 bo1 mx1 ro2 bo2 mx2) ?_
  rintro e W' ⟨v, rfl, rfl, hS⟩
  exact ⟨_, rfl, post_true laid hW' rfl rfl Try.underlying4 (by kernel_rfl) rfl hS.below⟩

theorem over : Rows.cauchyTurnedRow.holds Try.pinned (OpenSpec.ofChange Rows.cauchyTurnedSpec) :=
  OpenClaim.holds_of_wide 8 Try.f8 rfl rfl rfl rfl rfl rfl rfl ⟨rfl, rfl, rfl, rfl, rfl⟩ rfl rfl rfl rfl rfl (by kernel_rfl) Try.func8 (by kernel_rfl)
    (of_decide_eq_true (by kernel_rfl)) (by unfold Func.isWrapper; first | (rw [if_pos (by decide +kernel)]; kernel_rfl) | (rw [if_neg (by decide +kernel)]; exact ⟨rfl, rfl⟩))
    (fun os started H enc _ => lifted os started H enc)

theorem proved : Rows.CauchyTurnedSaid := over
#print axioms proved
end Go.Proofs.Ytaeljbdpjiciaaa.CauchyTurned
