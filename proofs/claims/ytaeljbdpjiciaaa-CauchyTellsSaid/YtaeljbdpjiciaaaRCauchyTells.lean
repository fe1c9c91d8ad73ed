/- The statement CauchyTells, joined: it returns true at every input, and the input reads as it read. -/
import Derived.Test.YtaeljbdpjiciaaaRows
import Derived.Test.YtaeljbdpjiciaaaKCauchyTells10
namespace Go.Proofs.Ytaeljbdpjiciaaa.CauchyTells
open Go Go.Gam Go.ChangeShapes Go.WideShapes Go.ChangeAt Go.RowKit
set_option linter.unusedVariables false

theorem own : ownKnob Try.prog.godebug = none := by kernel_rfl
theorem laid : laidOutB Try.prog = true := by kernel_rfl

set_option maxRecDepth 100000 in
theorem lifted (os : Os) (started : os.Started) (H : Type) (enc : TypeId × Value → H) :
    ReturnsInHanded {} Try.checked os 10 .any (Rows.cauchyTellsSpec.pre6 enc Try.prog Try.f10 Rows.cauchyTellsRow.domain false) (Rows.cauchyTellsSpec.post enc Try.prog Try.f10 false true false false) := by
  refine returnsInHanded_of_change (C := Try.checked) own started (by kernel_rfl) Try.func10
    (ChangeSpec.witness6 (enc := enc) (C := Try.checked) false ⟨#[], #[.bool false, .agg #[.slice none 0 0, .slice none 0 0], .agg #[.int .i64 0, .int .i64 0]], []⟩ 8 (by kernel_rfl) (by kernel_rfl) (by kernel_rfl) (by kernel_rfl)) ?_
  intro W base args ds gs before hval0 hW hcnd _
  have hval : ∀ (j : Nat) t v, Try.f10.params[j]? = some t → args[j]? = some v → Value.okWide Try.prog W .any base t v := hval0
  have hW' := hW
  obtain ⟨p, q, hA0, hV, rfl, hfz, hnd⟩ := hW
  have hA : DataW.TrodAll enc Try.prog W 0 (fun _ => true) true Try.f10.params.toList args.toList ds p := hA0
  rw [Try.params10] at hA hval
  obtain ⟨v0, vs0, d0, ds0, p0, q0, hargs, rfl, rfl, h0, r0⟩ := trodAll_cons hA
  obtain ⟨v1, vs1, d1, ds1, p1, q1, rfl, rfl, rfl, h1, r1⟩ := trodAll_cons r0
  obtain ⟨v2, vs2, d2, ds2, p2, q2, rfl, rfl, rfl, h2, r2⟩ := trodAll_cons r1
  obtain ⟨rfl, rfl, rfl⟩ := trodAll_nil r2
  obtain rfl : args = #[v0, v1, v2] := by cases args; simp_all
  obtain ⟨rfl, rfl⟩ := trodVars_none hV
  obtain ⟨x0, rfl, -, -⟩ := open_bool Try.underlying4 (hval 0 4 v0 rfl rfl) h0
  obtain ⟨l1, rfl, e1, f1⟩ := open_arrV (fun v => ∃ sa cap, ∃ zs : List Int, v = .slice sa zs.length cap ∧ Row FDx W.heap.size W.heap.size W v (zints zs) ∧ (∀ z ∈ zs, (Lit.int .i64 z).wf = true) ∧ zs.length ≤ maxLen) Try.underlying59 (by kernel_rfl) (by kernel_rfl) (fun fuel u x h => zrow_c (D := FDx) Try.underlying37 Try.underlying3 (by kernel_rfl) h) (hval 1 59 v1 rfl rfl) h1
  obtain ⟨_, _, rfl, ⟨ad10, ca10, li10, rfl, ro10, bo10, mx10⟩, ⟨ad11, ca11, li11, rfl, ro11, bo11, mx11⟩⟩ := twoV e1 f1
  obtain ⟨l2, rfl, e2, f2⟩ := open_arr Try.underlying60 Try.underlying3 (by kernel_rfl) (by kernel_rfl) (hval 2 60 v2 rfl rfl) h2
  obtain ⟨x20, x21, rfl, b20, b21⟩ := two e2 f2
  have k20 := bd64 b20
  have k21 := bd64 b21
  refine Calls.mono (CauchyTells_ok W.heap.size W.heap.size x0 ad10 ca10 li10 ad11 ca11 li11 x20 x21 W (inv_call _ _) (Nat.le_refl _) ro10 bo10 mx10 ro11 bo11 mx11 k20 k21) ?_
  rintro e W' ⟨v, rfl, rfl, hS⟩
  exact ⟨_, rfl, post_true laid hW' rfl rfl Try.underlying4 (by kernel_rfl) rfl hS.below⟩

theorem over : Rows.cauchyTellsRow.holds Try.pinned (OpenSpec.ofChange Rows.cauchyTellsSpec) :=
  OpenClaim.holds_of_wide 10 Try.f10 rfl rfl rfl rfl rfl rfl rfl ⟨rfl, rfl, rfl, rfl, rfl⟩ rfl rfl rfl rfl rfl (by kernel_rfl) Try.func10 (by kernel_rfl)
    (of_decide_eq_true (by kernel_rfl)) (by unfold Func.isWrapper; first | (rw [if_pos (by decide +kernel)]; kernel_rfl) | (rw [if_neg (by decide +kernel)]; exact ⟨rfl, rfl⟩))
    (fun os started H enc _ => lifted os started H enc)

theorem proved : Rows.CauchyTellsSaid := over
#print axioms proved
end Go.Proofs.Ytaeljbdpjiciaaa.CauchyTells
