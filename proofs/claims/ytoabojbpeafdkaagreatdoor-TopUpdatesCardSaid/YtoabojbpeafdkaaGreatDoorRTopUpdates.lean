/- The statement TopUpdates: the card. -/
import Derived.Lay
import Derived.LaidMore
import Derived.SevenTiedAt
import Derived.Stop.Joined
import Derived.Test.YtoabojbpeafdkaaGreatDoorTie
import Derived.Test.YtoabojbpeafdkaaGreatDoorCards
import Derived.Test.YtoabojbpeafdkaaGreatDoorKTopUpdates25
namespace Go.Proofs.YtoabojbpeafdkaaGreatDoor.TopUpdates
open Go Go.Gam Go.ChangeShapes Go.WideShapes Go.ChangeAt Go.RowKit
set_option linter.unusedVariables false

set_option maxRecDepth 100000 in
theorem looks1 : true = Tryz.pinned.checked.prog.looks [] := by kernel_rfl
set_option maxRecDepth 100000 in
theorem nogo : Tryz.pinned.checked.prog.funcs.any Func.goes = false := by kernel_rfl
theorem goes_none {P : Program} (h : P.funcs.any Func.goes = false) (f : FuncId) : P.goes f = false := by
  have hg : ∀ g : FuncId, (P.funcs[g]?).any Func.goes = false := fun g => by
    cases hf : P.funcs[g]? with
    | none => rfl
    | some fn =>
      have hm := Array.mem_of_getElem? hf
      cases hb : fn.goes with
      | false => simpa using hb
      | true => rw [Array.any_eq_true'.2 ⟨fn, hm, hb⟩] at h; cases h
  unfold Program.goes
  rw [h, Bool.and_false, Bool.or_false]
  exact List.any_eq_false.2 fun g _ => by simp [hg g]
theorem goesBy_none {P : Program} {c : OpenClaim} (hs : c.start = .entering) (h : P.funcs.any Func.goes = false) : false = c.goesBy P := by
  unfold OpenClaim.goesBy Program.goesAt Program.goesFrom
  rw [hs]
  cases P.funcNamed c.func with
  | none => rfl
  | some f =>
    show false = (P.goes f || false)
    rw [goes_none h f]; rfl
theorem proved : Rows.TopUpdatesCardSaid :=
  Claim7.holds_tied_plain_at .later [] [.data, .data, .data, .data, .sentinel, .sentinel, .sentinel, .pinned] true (true, "ec249240f22800d6b4ea908e1c79384449e85661a25bde71dc5b7e4f5f0c620b") true over (fun _ h => by cases h) (by kernel_rfl) (fun _ h => by cases h) topUpdates_row_tie rfl ⟨rfl, rfl⟩ (by kernel_rfl) rfl
    (fun f fn hf hfn => by
      obtain rfl : f = 5 := Option.some.inj ((show Tryz.prog.funcNamed Rows.topUpdatesRow.func = some 5 by kernel_rfl).symm.trans hf) |>.symm
      obtain rfl : fn = Tryz.f5 := (Option.some.inj (Tryz.func5.symm.trans hfn)).symm
      exact ⟨looks1, fun j t ht => by
        rw [Tryz.params5] at ht
        have hm : t ∈ [32, 23, 67] := by simpa using Array.mem_of_getElem? ht
        have hall : ([32, 23, 67].all fun u => !Tryz.prog.wantsStandIn u) = true := by kernel_rfl
        exact (show Tryz.prog.wantsStandIn t = false by simpa using List.all_eq_true.1 hall t hm)⟩)
    (goesBy_none rfl nogo)
#print axioms proved
end Go.Proofs.YtoabojbpeafdkaaGreatDoor.TopUpdates
