/- The statement JvanExtended, joined: it returns true at every input, and the input reads as it read. -/
import Derived.Test.YtaeljbdpjiciaaaRows
import Derived.Test.YtaeljbdpjiciaaaGOpen
import Derived.Test.YtaeljbdpjiciaaaFJvanExtended
namespace Go.Proofs.Ytaeljbdpjiciaaa.JvanExtended
open Go Go.Gam Go.ChangeShapes Go.WideShapes Go.ChangeAt Go.RowKit
set_option linter.unusedVariables false

theorem own : ownKnob Try.prog.godebug = none := by kernel_rfl
theorem laid : laidOutB Try.prog = true := by kernel_rfl

set_option maxRecDepth 100000 in
theorem lifted (os : Os) (started : os.Started) (H : Type) (enc : TypeId × Value → H) :
    ReturnsInHanded {} Try.checked os 9 .any (Rows.jvanExtendedSpec.pre6 enc Try.prog Try.f9 Rows.jvanExtendedRow.domain false) (Rows.jvanExtendedSpec.post enc Try.prog Try.f9 false true false false) := by
  refine returnsInHanded_of_change (C := Try.checked) own started (by kernel_rfl) Try.func9
    (ChangeSpec.witness6 (enc := enc) (C := Try.checked) false ⟨#[], #[.bool false, .agg #[.int .u8 0, .int .u8 0], .agg #[.int .u8 0, .int .u8 0]], []⟩ 8 (by kernel_rfl) (by kernel_rfl) (by kernel_rfl) (by kernel_rfl)) ?_
  intro W base args ds gs before hval0 hW hcnd _
  have hval : ∀ (j : Nat) t v, Try.f9.params[j]? = some t → args[j]? = some v → Value.okWide Try.prog W .any base t v := hval0
  have hW' := hW
  obtain ⟨p, q, hA0, hV, rfl, hfz, hnd⟩ := hW
  have hA : DataW.TrodAll enc Try.prog W 0 (fun _ => true) true Try.f9.params.toList args.toList ds p := hA0
  rw [Try.params9] at hA hval
  obtain ⟨v0, vs0, d0, ds0, p0, q0, hargs, rfl, rfl, h0, r0⟩ := trodAll_cons hA
  obtain ⟨v1, vs1, d1, ds1, p1, q1, rfl, rfl, rfl, h1, r1⟩ := trodAll_cons r0
  obtain ⟨v2, vs2, d2, ds2, p2, q2, rfl, rfl, rfl, h2, r2⟩ := trodAll_cons r1
  obtain ⟨rfl, rfl, rfl⟩ := trodAll_nil r2
  obtain rfl : args = #[v0, v1, v2] := by cases args; simp_all
  obtain ⟨rfl, rfl⟩ := trodVars_none hV
  obtain ⟨x0, rfl, -, -⟩ := open_bool Try.underlying4 (hval 0 4 v0 rfl rfl) h0
  obtain ⟨l1, rfl, e1, f1⟩ := open_arr Try.underlying53 Try.underlying5 (by kernel_rfl) (by kernel_rfl) (hval 1 53 v1 rfl rfl) h1
  obtain ⟨x10, x11, rfl, b10, b11⟩ := two e1 f1
  obtain ⟨n10, rfl, k10⟩ := wf_u8 b10
  obtain ⟨n11, rfl, k11⟩ := wf_u8 b11
  obtain ⟨l2, rfl, e2, f2⟩ := open_arr Try.underlying53 Try.underlying5 (by kernel_rfl) (by kernel_rfl) (hval 2 53 v2 rfl rfl) h2
  obtain ⟨x20, x21, rfl, b20, b21⟩ := two e2 f2
  obtain ⟨n20, rfl, k20⟩ := wf_u8 b20
  obtain ⟨n21, rfl, k21⟩ := wf_u8 b21
  refine Calls.mono (JvanExtended_ok W.heap.size x0 n10 n11 n20 n21 W (inv_call _ _) k10 k11 k20 k21) ?_
  rintro e W' ⟨v, rfl, rfl, hS⟩
  exact ⟨_, rfl, post_true laid hW' rfl rfl Try.underlying4 (by kernel_rfl) rfl hS.below⟩

theorem over : Rows.jvanExtendedRow.holds Try.pinned (OpenSpec.ofChange Rows.jvanExtendedSpec) :=
  OpenClaim.holds_of_wide 9 Try.f9 rfl rfl rfl rfl rfl rfl rfl ⟨rfl, rfl, rfl, rfl, rfl⟩ rfl rfl rfl rfl rfl (by kernel_rfl) Try.func9 (by kernel_rfl)
    (of_decide_eq_true (by kernel_rfl)) (by unfold Func.isWrapper; first | (rw [if_pos (by decide +kernel)]; kernel_rfl) | (rw [if_neg (by decide +kernel)]; exact ⟨rfl, rfl⟩))
    (fun os started H enc _ => lifted os started H enc)

theorem proved : Rows.JvanExtendedSaid := over
#print axioms proved
end Go.Proofs.Ytaeljbdpjiciaaa.JvanExtended
