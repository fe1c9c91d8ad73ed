/-
  No cell of these rows narrows 'for every input' (looked for: loops, veiled, ifaces, maps, wideKeys, modest, calm, conditions, laid).
  DERIVED. THE GIVEN ROWS OF THIS SEAT. 12 by the template 'for every input the law returns true; each argument reads behind the call as it read before'; 0 by the template 'total and deterministic' (their statements: YtfpfgkkcmdfdiaaTotals.lean).
  GIVEN WITH THE SEED: the statements are not yours to turn. If you find one false, say at which input.
  Laid BY PROGRAM, IN A SANDBOX (cutbox-rows.mjs): the forced cells as the released guide's own fill.sh prints them over the translation 747ae88b7700843d… (all of the seat's roots in one cut). By AI agents, Wed Nov 11 2026. No macro, syntax, notation, axiom, sorry.
-/
import Derived.Test.YtfpfgkkcmdfdiaaChecked
import GoSem.Claim
import GoSem.ClaimJoined
import GoSem.ClaimMapViews
import Derived.JoinedTies
import Derived.KernelRfl
namespace Go.Proofs.Ytfpfgkkcmdfdiaa
/- THE CELL 'sum', in the pinned program and in every row, IS THE sha256 OF THE DUMP (.gsa) THAT YtfpfgkkcmdfdiaaProg.lean LOADS. Nothing in Lean hashes anything: it is a label: what it is worth is what the hold of that sum in a sandbox is worth. -/
noncomputable def Try.pinned : Pinned := { name := "ytfpfgkkcmdfdiaa", sum := "747ae88b7700843da93ee2f211a0c69eebf0f4e9fc7c39d8d19d7bd5ff030fab", checked := Try.checked }
namespace Rows
def none {H : Type} : Left H := { results := [], args := [] }

/-- 'gambrellaw01.PolyTells': WHATEVER THE INPUT: true; the input reads as it did. -/
def polyTellsSpec : ChangeSpec := { name := "polyTells", fn := fun _ => fun
  | [d1, d2] => { results := [.lit (.bool true)], args := [d1, d2] }
  | _ => none }
def polyTellsRow : OpenClaim := { program := "ytfpfgkkcmdfdiaa", sum := "747ae88b7700843da93ee2f211a0c69eebf0f4e9fc7c39d8d19d7bd5ff030fab", func := "gambrel/gambrellaw01.PolyTells", spec := "polyTells", unfollowed := true, recurses := true, apart := false }
def PolyTellsSaid : Prop := polyTellsRow.holds Try.pinned (OpenSpec.ofChange polyTellsSpec)

/-- ITS FALSE NEIGHBOUR: 'it returns false'. Refute it at one input. -/
def polyTellsWrong : ChangeSpec := { name := "polyTells", fn := fun _ => fun
  | [d1, d2] => { results := [.lit (.bool false)], args := [d1, d2] }
  | _ => none }
def PolyTellsWrongFalsely : Prop := polyTellsRow.holds Try.pinned (OpenSpec.ofChange polyTellsWrong)

/-- 'gambrellaw01.PolyIrreducible': WHATEVER THE INPUT: true; the input reads as it did. -/
def polyIrreducibleSpec : ChangeSpec := { name := "polyIrreducible", fn := fun _ => fun
  | [d] => { results := [.lit (.bool true)], args := [d] }
  | _ => none }
def polyIrreducibleRow : OpenClaim := { program := "ytfpfgkkcmdfdiaa", sum := "747ae88b7700843da93ee2f211a0c69eebf0f4e9fc7c39d8d19d7bd5ff030fab", func := "gambrel/gambrellaw01.PolyIrreducible", spec := "polyIrreducible", unfollowed := true, recurses := true, apart := false }
def PolyIrreducibleSaid : Prop := polyIrreducibleRow.holds Try.pinned (OpenSpec.ofChange polyIrreducibleSpec)

/-- ITS FALSE NEIGHBOUR: 'it returns false'. Refute it at one input. -/
def polyIrreducibleWrong : ChangeSpec := { name := "polyIrreducible", fn := fun _ => fun
  | [d] => { results := [.lit (.bool false)], args := [d] }
  | _ => none }
def PolyIrreducibleWrongFalsely : Prop := polyIrreducibleRow.holds Try.pinned (OpenSpec.ofChange polyIrreducibleWrong)

/-- 'gambrellaw01.PolyRing': WHATEVER THE INPUT: true; the input reads as it did. -/
def polyRingSpec : ChangeSpec := { name := "polyRing", fn := fun _ => fun
  | [d1, d2, d3] => { results := [.lit (.bool true)], args := [d1, d2, d3] }
  | _ => none }
def polyRingRow : OpenClaim := { program := "ytfpfgkkcmdfdiaa", sum := "747ae88b7700843da93ee2f211a0c69eebf0f4e9fc7c39d8d19d7bd5ff030fab", func := "gambrel/gambrellaw01.PolyRing", spec := "polyRing", unfollowed := true, recurses := true, apart := false }
def PolyRingSaid : Prop := polyRingRow.holds Try.pinned (OpenSpec.ofChange polyRingSpec)

/-- ITS FALSE NEIGHBOUR: 'it returns false'. Refute it at one input. -/
def polyRingWrong : ChangeSpec := { name := "polyRing", fn := fun _ => fun
  | [d1, d2, d3] => { results := [.lit (.bool false)], args := [d1, d2, d3] }
  | _ => none }
def PolyRingWrongFalsely : Prop := polyRingRow.holds Try.pinned (OpenSpec.ofChange polyRingWrong)

/-- 'gambrellaw01.PolyMod': WHATEVER THE INPUT: true; the input reads as it did. -/
def polyModSpec : ChangeSpec := { name := "polyMod", fn := fun _ => fun
  | [d1, d2, d3] => { results := [.lit (.bool true)], args := [d1, d2, d3] }
  | _ => none }
def polyModRow : OpenClaim := { program := "ytfpfgkkcmdfdiaa", sum := "747ae88b7700843da93ee2f211a0c69eebf0f4e9fc7c39d8d19d7bd5ff030fab", func := "gambrel/gambrellaw01.PolyMod", spec := "polyMod", unfollowed := true, recurses := true, apart := false }
def PolyModSaid : Prop := polyModRow.holds Try.pinned (OpenSpec.ofChange polyModSpec)

/-- ITS FALSE NEIGHBOUR: 'it returns false'. Refute it at one input. -/
def polyModWrong : ChangeSpec := { name := "polyMod", fn := fun _ => fun
  | [d1, d2, d3] => { results := [.lit (.bool false)], args := [d1, d2, d3] }
  | _ => none }
def PolyModWrongFalsely : Prop := polyModRow.holds Try.pinned (OpenSpec.ofChange polyModWrong)

/-- 'gambrellaw01.PolyField': WHATEVER THE INPUT: true; the input reads as it did. -/
def polyFieldSpec : ChangeSpec := { name := "polyField", fn := fun _ => fun
  | [d1, d2, d3] => { results := [.lit (.bool true)], args := [d1, d2, d3] }
  | _ => none }
def polyFieldRow : OpenClaim := { program := "ytfpfgkkcmdfdiaa", sum := "747ae88b7700843da93ee2f211a0c69eebf0f4e9fc7c39d8d19d7bd5ff030fab", func := "gambrel/gambrellaw01.PolyField", spec := "polyField", unfollowed := true, recurses := true, apart := false }
def PolyFieldSaid : Prop := polyFieldRow.holds Try.pinned (OpenSpec.ofChange polyFieldSpec)

/-- ITS FALSE NEIGHBOUR: 'it returns false'. Refute it at one input. -/
def polyFieldWrong : ChangeSpec := { name := "polyField", fn := fun _ => fun
  | [d1, d2, d3] => { results := [.lit (.bool false)], args := [d1, d2, d3] }
  | _ => none }
def PolyFieldWrongFalsely : Prop := polyFieldRow.holds Try.pinned (OpenSpec.ofChange polyFieldWrong)

/-- 'gambrellaw01.PolyDegree': WHATEVER THE INPUT: true; the input reads as it did. -/
def polyDegreeSpec : ChangeSpec := { name := "polyDegree", fn := fun _ => fun
  | [d1, d2] => { results := [.lit (.bool true)], args := [d1, d2] }
  | _ => none }
def polyDegreeRow : OpenClaim := { program := "ytfpfgkkcmdfdiaa", sum := "747ae88b7700843da93ee2f211a0c69eebf0f4e9fc7c39d8d19d7bd5ff030fab", func := "gambrel/gambrellaw01.PolyDegree", spec := "polyDegree", unfollowed := true, recurses := true, apart := false }
def PolyDegreeSaid : Prop := polyDegreeRow.holds Try.pinned (OpenSpec.ofChange polyDegreeSpec)

/-- ITS FALSE NEIGHBOUR: 'it returns false'. Refute it at one input. -/
def polyDegreeWrong : ChangeSpec := { name := "polyDegree", fn := fun _ => fun
  | [d1, d2] => { results := [.lit (.bool false)], args := [d1, d2] }
  | _ => none }
def PolyDegreeWrongFalsely : Prop := polyDegreeRow.holds Try.pinned (OpenSpec.ofChange polyDegreeWrong)

/-- 'gambrellaw02.GfPowers': WHATEVER THE INPUT: true; the input reads as it did. -/
def gfPowersSpec : ChangeSpec := { name := "gfPowers", fn := fun _ => fun
  | [d1, d2, d3] => { results := [.lit (.bool true)], args := [d1, d2, d3] }
  | _ => none }
def gfPowersRow : OpenClaim := { program := "ytfpfgkkcmdfdiaa", sum := "747ae88b7700843da93ee2f211a0c69eebf0f4e9fc7c39d8d19d7bd5ff030fab", func := "gambrel/gambrellaw02.GfPowers", spec := "gfPowers", inPlace := ["sync/atomic.LoadUint32", "(*internal/sync.Mutex).Lock", "internal/race.Disable", "sync/atomic.CompareAndSwapInt32", "internal/race.Enable", "internal/race.Acquire", "(*internal/sync.Mutex).lockSlow", "internal/sync.runtime_canSpin", "internal/sync.runtime_doSpin", "internal/sync.throw", "internal/sync.runtime_nanotime", "internal/sync.runtime_SemacquireMutex", "sync/atomic.AddInt32", "(*internal/sync.Mutex).Unlock", "internal/race.ReleaseMerge", "(*internal/sync.Mutex).unlockSlow", "internal/sync.fatal", "internal/sync.runtime_Semrelease", "sync/atomic.StoreUint32"], unfollowed := true, recurses := true, apart := false }
def GfPowersSaid : Prop := gfPowersRow.holds Try.pinned (OpenSpec.ofChange gfPowersSpec)

/-- ITS FALSE NEIGHBOUR: 'it returns false'. Refute it at one input. -/
def gfPowersWrong : ChangeSpec := { name := "gfPowers", fn := fun _ => fun
  | [d1, d2, d3] => { results := [.lit (.bool false)], args := [d1, d2, d3] }
  | _ => none }
def GfPowersWrongFalsely : Prop := gfPowersRow.holds Try.pinned (OpenSpec.ofChange gfPowersWrong)

/-- 'gambrellaw02.GfNew': WHATEVER THE INPUT: true; the input reads as it did. -/
def gfNewSpec : ChangeSpec := { name := "gfNew", fn := fun _ => fun
  | [d1, d2] => { results := [.lit (.bool true)], args := [d1, d2] }
  | _ => none }
def gfNewRow : OpenClaim := { program := "ytfpfgkkcmdfdiaa", sum := "747ae88b7700843da93ee2f211a0c69eebf0f4e9fc7c39d8d19d7bd5ff030fab", func := "gambrel/gambrellaw02.GfNew", spec := "gfNew", inPlace := ["sync/atomic.LoadUint32", "(*internal/sync.Mutex).Lock", "internal/race.Disable", "sync/atomic.CompareAndSwapInt32", "internal/race.Enable", "internal/race.Acquire", "(*internal/sync.Mutex).lockSlow", "internal/sync.runtime_canSpin", "internal/sync.runtime_doSpin", "internal/sync.throw", "internal/sync.runtime_nanotime", "internal/sync.runtime_SemacquireMutex", "sync/atomic.AddInt32", "(*internal/sync.Mutex).Unlock", "internal/race.ReleaseMerge", "(*internal/sync.Mutex).unlockSlow", "internal/sync.fatal", "internal/sync.runtime_Semrelease", "sync/atomic.StoreUint32"], unfollowed := true, recurses := true, apart := false }
def GfNewSaid : Prop := gfNewRow.holds Try.pinned (OpenSpec.ofChange gfNewSpec)

/-- ITS FALSE NEIGHBOUR: 'it returns false'. Refute it at one input. -/
def gfNewWrong : ChangeSpec := { name := "gfNew", fn := fun _ => fun
  | [d1, d2] => { results := [.lit (.bool false)], args := [d1, d2] }
  | _ => none }
def GfNewWrongFalsely : Prop := gfNewRow.holds Try.pinned (OpenSpec.ofChange gfNewWrong)

/-- 'gambrellaw02.GfLogs': WHATEVER THE INPUT: true; the input reads as it did. -/
def gfLogsSpec : ChangeSpec := { name := "gfLogs", fn := fun _ => fun
  | [d1, d2, d3] => { results := [.lit (.bool true)], args := [d1, d2, d3] }
  | _ => none }
def gfLogsRow : OpenClaim := { program := "ytfpfgkkcmdfdiaa", sum := "747ae88b7700843da93ee2f211a0c69eebf0f4e9fc7c39d8d19d7bd5ff030fab", func := "gambrel/gambrellaw02.GfLogs", spec := "gfLogs", inPlace := ["sync/atomic.LoadUint32", "(*internal/sync.Mutex).Lock", "internal/race.Disable", "sync/atomic.CompareAndSwapInt32", "internal/race.Enable", "internal/race.Acquire", "(*internal/sync.Mutex).lockSlow", "internal/sync.runtime_canSpin", "internal/sync.runtime_doSpin", "internal/sync.throw", "internal/sync.runtime_nanotime", "internal/sync.runtime_SemacquireMutex", "sync/atomic.AddInt32", "(*internal/sync.Mutex).Unlock", "internal/race.ReleaseMerge", "(*internal/sync.Mutex).unlockSlow", "internal/sync.fatal", "internal/sync.runtime_Semrelease", "sync/atomic.StoreUint32"], unfollowed := true, recurses := true, apart := false }
def GfLogsSaid : Prop := gfLogsRow.holds Try.pinned (OpenSpec.ofChange gfLogsSpec)

/-- ITS FALSE NEIGHBOUR: 'it returns false'. Refute it at one input. -/
def gfLogsWrong : ChangeSpec := { name := "gfLogs", fn := fun _ => fun
  | [d1, d2, d3] => { results := [.lit (.bool false)], args := [d1, d2, d3] }
  | _ => none }
def GfLogsWrongFalsely : Prop := gfLogsRow.holds Try.pinned (OpenSpec.ofChange gfLogsWrong)

/-- 'gambrellaw02.GfBack': WHATEVER THE INPUT: true; the input reads as it did. -/
def gfBackSpec : ChangeSpec := { name := "gfBack", fn := fun _ => fun
  | [d1, d2] => { results := [.lit (.bool true)], args := [d1, d2] }
  | _ => none }
def gfBackRow : OpenClaim := { program := "ytfpfgkkcmdfdiaa", sum := "747ae88b7700843da93ee2f211a0c69eebf0f4e9fc7c39d8d19d7bd5ff030fab", func := "gambrel/gambrellaw02.GfBack", spec := "gfBack", inPlace := ["sync/atomic.LoadUint32", "(*internal/sync.Mutex).Lock", "internal/race.Disable", "sync/atomic.CompareAndSwapInt32", "internal/race.Enable", "internal/race.Acquire", "(*internal/sync.Mutex).lockSlow", "internal/sync.runtime_canSpin", "internal/sync.runtime_doSpin", "internal/sync.throw", "internal/sync.runtime_nanotime", "internal/sync.runtime_SemacquireMutex", "sync/atomic.AddInt32", "(*internal/sync.Mutex).Unlock", "internal/race.ReleaseMerge", "(*internal/sync.Mutex).unlockSlow", "internal/sync.fatal", "internal/sync.runtime_Semrelease", "sync/atomic.StoreUint32"], unfollowed := true, recurses := true, apart := false }
def GfBackSaid : Prop := gfBackRow.holds Try.pinned (OpenSpec.ofChange gfBackSpec)

/-- ITS FALSE NEIGHBOUR: 'it returns false'. Refute it at one input. -/
def gfBackWrong : ChangeSpec := { name := "gfBack", fn := fun _ => fun
  | [d1, d2] => { results := [.lit (.bool false)], args := [d1, d2] }
  | _ => none }
def GfBackWrongFalsely : Prop := gfBackRow.holds Try.pinned (OpenSpec.ofChange gfBackWrong)

/-- 'gambrellaw02.GfTells': WHATEVER THE INPUT: true; the input reads as it did. -/
def gfTellsSpec : ChangeSpec := { name := "gfTells", fn := fun _ => fun
  | [d1, d2] => { results := [.lit (.bool true)], args := [d1, d2] }
  | _ => none }
def gfTellsRow : OpenClaim := { program := "ytfpfgkkcmdfdiaa", sum := "747ae88b7700843da93ee2f211a0c69eebf0f4e9fc7c39d8d19d7bd5ff030fab", func := "gambrel/gambrellaw02.GfTells", spec := "gfTells", inPlace := ["sync/atomic.LoadUint32", "(*internal/sync.Mutex).Lock", "internal/race.Disable", "sync/atomic.CompareAndSwapInt32", "internal/race.Enable", "internal/race.Acquire", "(*internal/sync.Mutex).lockSlow", "internal/sync.runtime_canSpin", "internal/sync.runtime_doSpin", "internal/sync.throw", "internal/sync.runtime_nanotime", "internal/sync.runtime_SemacquireMutex", "sync/atomic.AddInt32", "(*internal/sync.Mutex).Unlock", "internal/race.ReleaseMerge", "(*internal/sync.Mutex).unlockSlow", "internal/sync.fatal", "internal/sync.runtime_Semrelease", "sync/atomic.StoreUint32"], unfollowed := true, recurses := true, apart := false }
def GfTellsSaid : Prop := gfTellsRow.holds Try.pinned (OpenSpec.ofChange gfTellsSpec)

/-- ITS FALSE NEIGHBOUR: 'it returns false'. Refute it at one input. -/
def gfTellsWrong : ChangeSpec := { name := "gfTells", fn := fun _ => fun
  | [d1, d2] => { results := [.lit (.bool false)], args := [d1, d2] }
  | _ => none }
def GfTellsWrongFalsely : Prop := gfTellsRow.holds Try.pinned (OpenSpec.ofChange gfTellsWrong)

/-- 'gambrellaw02.GfLaws': WHATEVER THE INPUT: true; the input reads as it did. -/
def gfLawsSpec : ChangeSpec := { name := "gfLaws", fn := fun _ => fun
  | [d1, d2] => { results := [.lit (.bool true)], args := [d1, d2] }
  | _ => none }
def gfLawsRow : OpenClaim := { program := "ytfpfgkkcmdfdiaa", sum := "747ae88b7700843da93ee2f211a0c69eebf0f4e9fc7c39d8d19d7bd5ff030fab", func := "gambrel/gambrellaw02.GfLaws", spec := "gfLaws", inPlace := ["sync/atomic.LoadUint32", "(*internal/sync.Mutex).Lock", "internal/race.Disable", "sync/atomic.CompareAndSwapInt32", "internal/race.Enable", "internal/race.Acquire", "(*internal/sync.Mutex).lockSlow", "internal/sync.runtime_canSpin", "internal/sync.runtime_doSpin", "internal/sync.throw", "internal/sync.runtime_nanotime", "internal/sync.runtime_SemacquireMutex", "sync/atomic.AddInt32", "(*internal/sync.Mutex).Unlock", "internal/race.ReleaseMerge", "(*internal/sync.Mutex).unlockSlow", "internal/sync.fatal", "internal/sync.runtime_Semrelease", "sync/atomic.StoreUint32"], unfollowed := true, recurses := true, apart := false }
def GfLawsSaid : Prop := gfLawsRow.holds Try.pinned (OpenSpec.ofChange gfLawsSpec)

/-- ITS FALSE NEIGHBOUR: 'it returns false'. Refute it at one input. -/
def gfLawsWrong : ChangeSpec := { name := "gfLaws", fn := fun _ => fun
  | [d1, d2] => { results := [.lit (.bool false)], args := [d1, d2] }
  | _ => none }
def GfLawsWrongFalsely : Prop := gfLawsRow.holds Try.pinned (OpenSpec.ofChange gfLawsWrong)

/- THE SECOND FORM. 'bulk': how many values and letters a reading holds, each counted each time it is reached (what is shared counts as often as it is met; a slice's spare places count too). A statement '..UptoSaid' is the law's where the arguments, and the package variables that the reading takes, are together of bulk at most 1048576: NARROWER than '..Said'. Prove '..Said' where nothing that the law and all that it calls make is longer than what came in: it says more and counts as full. Else prove '..UptoSaid'. A law counts once. -/
mutual
def uptoBulk {H : Type} : DataW H → Nat
  | .lit (.string bytes) => bytes.length + 1
  | .lit _ => 1
  | .nil => 1
  | .ptr d => uptoBulk d + 1
  | .slice elems spare => uptoBulkAll elems + uptoBulkAll spare + 1
  | .agg parts => uptoBulkAll parts + 1
  | .iface _ d => uptoBulk d + 1
  | .map entries => uptoBulkEntries entries + 1
  | .held _ => 1
def uptoBulkAll {H : Type} : List (DataW H) → Nat
  | [] => 0
  | d :: r => uptoBulk d + uptoBulkAll r
def uptoBulkEntries {H : Type} : List (Lit × DataW H) → Nat
  | [] => 0
  | x :: r => uptoBulkEntry x + uptoBulkEntries r
def uptoBulkEntry {H : Type} : Lit × DataW H → Nat
  | (.string bytes, d) => bytes.length + uptoBulk d + 1
  | (_, d) => uptoBulk d + 1
 end
def uptoSmall : (H : Type) → List (DataW H) → Bool := fun _ ds => decide (uptoBulkAll ds ≤ 1048576)
def OpenSpec.upto (s : _root_.Go.ChangeSpec) : _root_.Go.OpenSpec := { _root_.Go.OpenSpec.ofChange s with cond := some uptoSmall }

/-- 'gambrellaw01.PolyTells', WHERE WHAT IT READS IS OF BULK AT MOST 1048576: true; the input reads as it did. -/
def polyTellsUptoRow : OpenClaim := { program := "ytfpfgkkcmdfdiaa", sum := "747ae88b7700843da93ee2f211a0c69eebf0f4e9fc7c39d8d19d7bd5ff030fab", func := "gambrel/gambrellaw01.PolyTells", spec := "polyTells", unfollowed := true, recurses := true, apart := false, narrowed := true }
def PolyTellsUptoSaid : Prop := polyTellsUptoRow.holds Try.pinned (OpenSpec.upto polyTellsSpec)

/-- 'gambrellaw01.PolyIrreducible', WHERE WHAT IT READS IS OF BULK AT MOST 1048576: true; the input reads as it did. -/
def polyIrreducibleUptoRow : OpenClaim := { program := "ytfpfgkkcmdfdiaa", sum := "747ae88b7700843da93ee2f211a0c69eebf0f4e9fc7c39d8d19d7bd5ff030fab", func := "gambrel/gambrellaw01.PolyIrreducible", spec := "polyIrreducible", unfollowed := true, recurses := true, apart := false, narrowed := true }
def PolyIrreducibleUptoSaid : Prop := polyIrreducibleUptoRow.holds Try.pinned (OpenSpec.upto polyIrreducibleSpec)

/-- 'gambrellaw01.PolyRing', WHERE WHAT IT READS IS OF BULK AT MOST 1048576: true; the input reads as it did. -/
def polyRingUptoRow : OpenClaim := { program := "ytfpfgkkcmdfdiaa", sum := "747ae88b7700843da93ee2f211a0c69eebf0f4e9fc7c39d8d19d7bd5ff030fab", func := "gambrel/gambrellaw01.PolyRing", spec := "polyRing", unfollowed := true, recurses := true, apart := false, narrowed := true }
def PolyRingUptoSaid : Prop := polyRingUptoRow.holds Try.pinned (OpenSpec.upto polyRingSpec)

/-- 'gambrellaw01.PolyMod', WHERE WHAT IT READS IS OF BULK AT MOST 1048576: true; the input reads as it did. -/
def polyModUptoRow : OpenClaim := { program := "ytfpfgkkcmdfdiaa", sum := "747ae88b7700843da93ee2f211a0c69eebf0f4e9fc7c39d8d19d7bd5ff030fab", func := "gambrel/gambrellaw01.PolyMod", spec := "polyMod", unfollowed := true, recurses := true, apart := false, narrowed := true }
def PolyModUptoSaid : Prop := polyModUptoRow.holds Try.pinned (OpenSpec.upto polyModSpec)

/-- 'gambrellaw01.PolyField', WHERE WHAT IT READS IS OF BULK AT MOST 1048576: true; the input reads as it did. -/
def polyFieldUptoRow : OpenClaim := { program := "ytfpfgkkcmdfdiaa", sum := "747ae88b7700843da93ee2f211a0c69eebf0f4e9fc7c39d8d19d7bd5ff030fab", func := "gambrel/gambrellaw01.PolyField", spec := "polyField", unfollowed := true, recurses := true, apart := false, narrowed := true }
def PolyFieldUptoSaid : Prop := polyFieldUptoRow.holds Try.pinned (OpenSpec.upto polyFieldSpec)

/-- 'gambrellaw01.PolyDegree', WHERE WHAT IT READS IS OF BULK AT MOST 1048576: true; the input reads as it did. -/
def polyDegreeUptoRow : OpenClaim := { program := "ytfpfgkkcmdfdiaa", sum := "747ae88b7700843da93ee2f211a0c69eebf0f4e9fc7c39d8d19d7bd5ff030fab", func := "gambrel/gambrellaw01.PolyDegree", spec := "polyDegree", unfollowed := true, recurses := true, apart := false, narrowed := true }
def PolyDegreeUptoSaid : Prop := polyDegreeUptoRow.holds Try.pinned (OpenSpec.upto polyDegreeSpec)

/-- 'gambrellaw02.GfPowers', WHERE WHAT IT READS IS OF BULK AT MOST 1048576: true; the input reads as it did. -/
def gfPowersUptoRow : OpenClaim := { program := "ytfpfgkkcmdfdiaa", sum := "747ae88b7700843da93ee2f211a0c69eebf0f4e9fc7c39d8d19d7bd5ff030fab", func := "gambrel/gambrellaw02.GfPowers", spec := "gfPowers", inPlace := ["sync/atomic.LoadUint32", "(*internal/sync.Mutex).Lock", "internal/race.Disable", "sync/atomic.CompareAndSwapInt32", "internal/race.Enable", "internal/race.Acquire", "(*internal/sync.Mutex).lockSlow", "internal/sync.runtime_canSpin", "internal/sync.runtime_doSpin", "internal/sync.throw", "internal/sync.runtime_nanotime", "internal/sync.runtime_SemacquireMutex", "sync/atomic.AddInt32", "(*internal/sync.Mutex).Unlock", "internal/race.ReleaseMerge", "(*internal/sync.Mutex).unlockSlow", "internal/sync.fatal", "internal/sync.runtime_Semrelease", "sync/atomic.StoreUint32"], unfollowed := true, recurses := true, apart := false, narrowed := true }
def GfPowersUptoSaid : Prop := gfPowersUptoRow.holds Try.pinned (OpenSpec.upto gfPowersSpec)

/-- 'gambrellaw02.GfNew', WHERE WHAT IT READS IS OF BULK AT MOST 1048576: true; the input reads as it did. -/
def gfNewUptoRow : OpenClaim := { program := "ytfpfgkkcmdfdiaa", sum := "747ae88b7700843da93ee2f211a0c69eebf0f4e9fc7c39d8d19d7bd5ff030fab", func := "gambrel/gambrellaw02.GfNew", spec := "gfNew", inPlace := ["sync/atomic.LoadUint32", "(*internal/sync.Mutex).Lock", "internal/race.Disable", "sync/atomic.CompareAndSwapInt32", "internal/race.Enable", "internal/race.Acquire", "(*internal/sync.Mutex).lockSlow", "internal/sync.runtime_canSpin", "internal/sync.runtime_doSpin", "internal/sync.throw", "internal/sync.runtime_nanotime", "internal/sync.runtime_SemacquireMutex", "sync/atomic.AddInt32", "(*internal/sync.Mutex).Unlock", "internal/race.ReleaseMerge", "(*internal/sync.Mutex).unlockSlow", "internal/sync.fatal", "internal/sync.runtime_Semrelease", "sync/atomic.StoreUint32"], unfollowed := true, recurses := true, apart := false, narrowed := true }
def GfNewUptoSaid : Prop := gfNewUptoRow.holds Try.pinned (OpenSpec.upto gfNewSpec)

/-- 'gambrellaw02.GfLogs', WHERE WHAT IT READS IS OF BULK AT MOST 1048576: true; the input reads as it did. -/
def gfLogsUptoRow : OpenClaim := { program := "ytfpfgkkcmdfdiaa", sum := "747ae88b7700843da93ee2f211a0c69eebf0f4e9fc7c39d8d19d7bd5ff030fab", func := "gambrel/gambrellaw02.GfLogs", spec := "gfLogs", inPlace := ["sync/atomic.LoadUint32", "(*internal/sync.Mutex).Lock", "internal/race.Disable", "sync/atomic.CompareAndSwapInt32", "internal/race.Enable", "internal/race.Acquire", "(*internal/sync.Mutex).lockSlow", "internal/sync.runtime_canSpin", "internal/sync.runtime_doSpin", "internal/sync.throw", "internal/sync.runtime_nanotime", "internal/sync.runtime_SemacquireMutex", "sync/atomic.AddInt32", "(*internal/sync.Mutex).Unlock", "internal/race.ReleaseMerge", "(*internal/sync.Mutex).unlockSlow", "internal/sync.fatal", "internal/sync.runtime_Semrelease", "sync/atomic.StoreUint32"], unfollowed := true, recurses := true, apart := false, narrowed := true }
def GfLogsUptoSaid : Prop := gfLogsUptoRow.holds Try.pinned (OpenSpec.upto gfLogsSpec)

/-- 'gambrellaw02.GfBack', WHERE WHAT IT READS IS OF BULK AT MOST 1048576: true; the input reads as it did. -/
def gfBackUptoRow : OpenClaim := { program := "ytfpfgkkcmdfdiaa", sum := "747ae88b7700843da93ee2f211a0c69eebf0f4e9fc7c39d8d19d7bd5ff030fab", func := "gambrel/gambrellaw02.GfBack", spec := "gfBack", inPlace := ["sync/atomic.LoadUint32", "(*internal/sync.Mutex).Lock", "internal/race.Disable", "sync/atomic.CompareAndSwapInt32", "internal/race.Enable", "internal/race.Acquire", "(*internal/sync.Mutex).lockSlow", "internal/sync.runtime_canSpin", "internal/sync.runtime_doSpin", "internal/sync.throw", "internal/sync.runtime_nanotime", "internal/sync.runtime_SemacquireMutex", "sync/atomic.AddInt32", "(*internal/sync.Mutex).Unlock", "internal/race.ReleaseMerge", "(*internal/sync.Mutex).unlockSlow", "internal/sync.fatal", "internal/sync.runtime_Semrelease", "sync/atomic.StoreUint32"], unfollowed := true, recurses := true, apart := false, narrowed := true }
def GfBackUptoSaid : Prop := gfBackUptoRow.holds Try.pinned (OpenSpec.upto gfBackSpec)

/-- 'gambrellaw02.GfTells', WHERE WHAT IT READS IS OF BULK AT MOST 1048576: true; the input reads as it did. -/
def gfTellsUptoRow : OpenClaim := { program := "ytfpfgkkcmdfdiaa", sum := "747ae88b7700843da93ee2f211a0c69eebf0f4e9fc7c39d8d19d7bd5ff030fab", func := "gambrel/gambrellaw02.GfTells", spec := "gfTells", inPlace := ["sync/atomic.LoadUint32", "(*internal/sync.Mutex).Lock", "internal/race.Disable", "sync/atomic.CompareAndSwapInt32", "internal/race.Enable", "internal/race.Acquire", "(*internal/sync.Mutex).lockSlow", "internal/sync.runtime_canSpin", "internal/sync.runtime_doSpin", "internal/sync.throw", "internal/sync.runtime_nanotime", "internal/sync.runtime_SemacquireMutex", "sync/atomic.AddInt32", "(*internal/sync.Mutex).Unlock", "internal/race.ReleaseMerge", "(*internal/sync.Mutex).unlockSlow", "internal/sync.fatal", "internal/sync.runtime_Semrelease", "sync/atomic.StoreUint32"], unfollowed := true, recurses := true, apart := false, narrowed := true }
def GfTellsUptoSaid : Prop := gfTellsUptoRow.holds Try.pinned (OpenSpec.upto gfTellsSpec)

/-- 'gambrellaw02.GfLaws', WHERE WHAT IT READS IS OF BULK AT MOST 1048576: true; the input reads as it did. -/
def gfLawsUptoRow : OpenClaim := { program := "ytfpfgkkcmdfdiaa", sum := "747ae88b7700843da93ee2f211a0c69eebf0f4e9fc7c39d8d19d7bd5ff030fab", func := "gambrel/gambrellaw02.GfLaws", spec := "gfLaws", inPlace := ["sync/atomic.LoadUint32", "(*internal/sync.Mutex).Lock", "internal/race.Disable", "sync/atomic.CompareAndSwapInt32", "internal/race.Enable", "internal/race.Acquire", "(*internal/sync.Mutex).lockSlow", "internal/sync.runtime_canSpin", "internal/sync.runtime_doSpin", "internal/sync.throw", "internal/sync.runtime_nanotime", "internal/sync.runtime_SemacquireMutex", "sync/atomic.AddInt32", "(*internal/sync.Mutex).Unlock", "internal/race.ReleaseMerge", "(*internal/sync.Mutex).unlockSlow", "internal/sync.fatal", "internal/sync.runtime_Semrelease", "sync/atomic.StoreUint32"], unfollowed := true, recurses := true, apart := false, narrowed := true }
def GfLawsUptoSaid : Prop := gfLawsUptoRow.holds Try.pinned (OpenSpec.upto gfLawsSpec)

end Rows
end Go.Proofs.Ytfpfgkkcmdfdiaa
