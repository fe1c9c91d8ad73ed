/-
  No cell of these rows narrows 'for every input' (looked for: loops, veiled, ifaces, maps, wideKeys, modest, calm, conditions, laid).
  DERIVED. THE GIVEN ROWS OF THIS SEAT. 12 by the template 'for every input the law returns true; each argument reads behind the call as it read before'; 0 by the template 'total and deterministic' (their statements: YtlkifpmlpnaaoaaTotals.lean).
  GIVEN WITH THE SEED: the statements are not yours to turn. If you find one false, say at which input.
  Laid BY PROGRAM, IN A SANDBOX (cutbox-rows.mjs): the forced cells as the released guide's own fill.sh prints them over the translation 7813972f44be5237… (all of the seat's roots in one cut). By AI agents, Wed Nov 11 2026. No macro, syntax, notation, axiom, sorry.
-/
import Derived.Test.YtlkifpmlpnaaoaaChecked
import GoSem.Claim
import GoSem.ClaimJoined
import GoSem.ClaimMapViews
import Derived.JoinedTies
import Derived.KernelRfl
namespace Go.Proofs.Ytlkifpmlpnaaoaa
/- THE CELL 'sum', in the pinned program and in every row, IS THE sha256 OF THE DUMP (.gsa) THAT YtlkifpmlpnaaoaaProg.lean LOADS. Nothing in Lean hashes anything: it is a label: what it is worth is what the hold of that sum in a sandbox is worth. -/
noncomputable def Try.pinned : Pinned := { name := "ytlkifpmlpnaaoaa", sum := "7813972f44be5237a114c086b56d99f13ae90edfbf8d588eae96c2e04a89b71b", checked := Try.checked }
namespace Rows
def none {H : Type} : Left H := { results := [], args := [] }

/-- 'gambrellaw03.RegionWords': WHATEVER THE INPUT: true; the input reads as it did. -/
def regionWordsSpec : ChangeSpec := { name := "regionWords", fn := fun _ => fun
  | [d1, d2, d3] => { results := [.lit (.bool true)], args := [d1, d2, d3] }
  | _ => none }
def regionWordsRow : OpenClaim := { program := "ytlkifpmlpnaaoaa", sum := "7813972f44be5237a114c086b56d99f13ae90edfbf8d588eae96c2e04a89b71b", func := "gambrel/gambrellaw03.RegionWords", spec := "regionWords", inPlace := ["sync/atomic.LoadUint32", "(*internal/sync.Mutex).Lock", "internal/race.Disable", "sync/atomic.CompareAndSwapInt32", "internal/race.Enable", "internal/race.Acquire", "(*internal/sync.Mutex).lockSlow", "internal/sync.runtime_canSpin", "internal/sync.runtime_doSpin", "internal/sync.throw", "internal/sync.runtime_nanotime", "internal/sync.runtime_SemacquireMutex", "sync/atomic.AddInt32", "(*internal/sync.Mutex).Unlock", "internal/race.ReleaseMerge", "(*internal/sync.Mutex).unlockSlow", "internal/sync.fatal", "internal/sync.runtime_Semrelease", "sync/atomic.StoreUint32"], unfollowed := true, recurses := true, apart := false }
def RegionWordsSaid : Prop := regionWordsRow.holds Try.pinned (OpenSpec.ofChange regionWordsSpec)

/-- ITS FALSE NEIGHBOUR: 'it returns false'. Refute it at one input. -/
def regionWordsWrong : ChangeSpec := { name := "regionWords", fn := fun _ => fun
  | [d1, d2, d3] => { results := [.lit (.bool false)], args := [d1, d2, d3] }
  | _ => none }
def RegionWordsWrongFalsely : Prop := regionWordsRow.holds Try.pinned (OpenSpec.ofChange regionWordsWrong)

/-- 'gambrellaw03.RegionBack': WHATEVER THE INPUT: true; the input reads as it did. -/
def regionBackSpec : ChangeSpec := { name := "regionBack", fn := fun _ => fun
  | [d1, d2, d3] => { results := [.lit (.bool true)], args := [d1, d2, d3] }
  | _ => none }
def regionBackRow : OpenClaim := { program := "ytlkifpmlpnaaoaa", sum := "7813972f44be5237a114c086b56d99f13ae90edfbf8d588eae96c2e04a89b71b", func := "gambrel/gambrellaw03.RegionBack", spec := "regionBack", inPlace := ["sync/atomic.LoadUint32", "(*internal/sync.Mutex).Lock", "internal/race.Disable", "sync/atomic.CompareAndSwapInt32", "internal/race.Enable", "internal/race.Acquire", "(*internal/sync.Mutex).lockSlow", "internal/sync.runtime_canSpin", "internal/sync.runtime_doSpin", "internal/sync.throw", "internal/sync.runtime_nanotime", "internal/sync.runtime_SemacquireMutex", "sync/atomic.AddInt32", "(*internal/sync.Mutex).Unlock", "internal/race.ReleaseMerge", "(*internal/sync.Mutex).unlockSlow", "internal/sync.fatal", "internal/sync.runtime_Semrelease", "sync/atomic.StoreUint32"], unfollowed := true, recurses := true, apart := false }
def RegionBackSaid : Prop := regionBackRow.holds Try.pinned (OpenSpec.ofChange regionBackSpec)

/-- ITS FALSE NEIGHBOUR: 'it returns false'. Refute it at one input. -/
def regionBackWrong : ChangeSpec := { name := "regionBack", fn := fun _ => fun
  | [d1, d2, d3] => { results := [.lit (.bool false)], args := [d1, d2, d3] }
  | _ => none }
def RegionBackWrongFalsely : Prop := regionBackRow.holds Try.pinned (OpenSpec.ofChange regionBackWrong)

/-- 'gambrellaw03.RegionSpreads': WHATEVER THE INPUT: true; the input reads as it did. -/
def regionSpreadsSpec : ChangeSpec := { name := "regionSpreads", fn := fun _ => fun
  | [d1, d2, d3] => { results := [.lit (.bool true)], args := [d1, d2, d3] }
  | _ => none }
def regionSpreadsRow : OpenClaim := { program := "ytlkifpmlpnaaoaa", sum := "7813972f44be5237a114c086b56d99f13ae90edfbf8d588eae96c2e04a89b71b", func := "gambrel/gambrellaw03.RegionSpreads", spec := "regionSpreads", inPlace := ["sync/atomic.LoadUint32", "(*internal/sync.Mutex).Lock", "internal/race.Disable", "sync/atomic.CompareAndSwapInt32", "internal/race.Enable", "internal/race.Acquire", "(*internal/sync.Mutex).lockSlow", "internal/sync.runtime_canSpin", "internal/sync.runtime_doSpin", "internal/sync.throw", "internal/sync.runtime_nanotime", "internal/sync.runtime_SemacquireMutex", "sync/atomic.AddInt32", "(*internal/sync.Mutex).Unlock", "internal/race.ReleaseMerge", "(*internal/sync.Mutex).unlockSlow", "internal/sync.fatal", "internal/sync.runtime_Semrelease", "sync/atomic.StoreUint32"], unfollowed := true, recurses := true, apart := false }
def RegionSpreadsSaid : Prop := regionSpreadsRow.holds Try.pinned (OpenSpec.ofChange regionSpreadsSpec)

/-- ITS FALSE NEIGHBOUR: 'it returns false'. Refute it at one input. -/
def regionSpreadsWrong : ChangeSpec := { name := "regionSpreads", fn := fun _ => fun
  | [d1, d2, d3] => { results := [.lit (.bool false)], args := [d1, d2, d3] }
  | _ => none }
def RegionSpreadsWrongFalsely : Prop := regionSpreadsRow.holds Try.pinned (OpenSpec.ofChange regionSpreadsWrong)

/-- 'gambrellaw04.MatrixLaws': WHATEVER THE INPUT: true; the input reads as it did. -/
def matrixLawsSpec : ChangeSpec := { name := "matrixLaws", fn := fun _ => fun
  | [d1, d2, d3] => { results := [.lit (.bool true)], args := [d1, d2, d3] }
  | _ => none }
def matrixLawsRow : OpenClaim := { program := "ytlkifpmlpnaaoaa", sum := "7813972f44be5237a114c086b56d99f13ae90edfbf8d588eae96c2e04a89b71b", func := "gambrel/gambrellaw04.MatrixLaws", spec := "matrixLaws", inPlace := ["sync/atomic.LoadUint32", "(*internal/sync.Mutex).Lock", "internal/race.Disable", "sync/atomic.CompareAndSwapInt32", "internal/race.Enable", "internal/race.Acquire", "(*internal/sync.Mutex).lockSlow", "internal/sync.runtime_canSpin", "internal/sync.runtime_doSpin", "internal/sync.throw", "internal/sync.runtime_nanotime", "internal/sync.runtime_SemacquireMutex", "sync/atomic.AddInt32", "(*internal/sync.Mutex).Unlock", "internal/race.ReleaseMerge", "(*internal/sync.Mutex).unlockSlow", "internal/sync.fatal", "internal/sync.runtime_Semrelease", "sync/atomic.StoreUint32"], unfollowed := true, recurses := true, apart := false }
def MatrixLawsSaid : Prop := matrixLawsRow.holds Try.pinned (OpenSpec.ofChange matrixLawsSpec)

/-- ITS FALSE NEIGHBOUR: 'it returns false'. Refute it at one input. -/
def matrixLawsWrong : ChangeSpec := { name := "matrixLaws", fn := fun _ => fun
  | [d1, d2, d3] => { results := [.lit (.bool false)], args := [d1, d2, d3] }
  | _ => none }
def MatrixLawsWrongFalsely : Prop := matrixLawsRow.holds Try.pinned (OpenSpec.ofChange matrixLawsWrong)

/-- 'gambrellaw03.RegionTells': WHATEVER THE INPUT: true; the input reads as it did. -/
def regionTellsSpec : ChangeSpec := { name := "regionTells", fn := fun _ => fun
  | [d1, d2, d3] => { results := [.lit (.bool true)], args := [d1, d2, d3] }
  | _ => none }
def regionTellsRow : OpenClaim := { program := "ytlkifpmlpnaaoaa", sum := "7813972f44be5237a114c086b56d99f13ae90edfbf8d588eae96c2e04a89b71b", func := "gambrel/gambrellaw03.RegionTells", spec := "regionTells", inPlace := ["sync/atomic.LoadUint32", "(*internal/sync.Mutex).Lock", "internal/race.Disable", "sync/atomic.CompareAndSwapInt32", "internal/race.Enable", "internal/race.Acquire", "(*internal/sync.Mutex).lockSlow", "internal/sync.runtime_canSpin", "internal/sync.runtime_doSpin", "internal/sync.throw", "internal/sync.runtime_nanotime", "internal/sync.runtime_SemacquireMutex", "sync/atomic.AddInt32", "(*internal/sync.Mutex).Unlock", "internal/race.ReleaseMerge", "(*internal/sync.Mutex).unlockSlow", "internal/sync.fatal", "internal/sync.runtime_Semrelease", "sync/atomic.StoreUint32"], unfollowed := true, recurses := true, apart := false }
def RegionTellsSaid : Prop := regionTellsRow.holds Try.pinned (OpenSpec.ofChange regionTellsSpec)

/-- ITS FALSE NEIGHBOUR: 'it returns false'. Refute it at one input. -/
def regionTellsWrong : ChangeSpec := { name := "regionTells", fn := fun _ => fun
  | [d1, d2, d3] => { results := [.lit (.bool false)], args := [d1, d2, d3] }
  | _ => none }
def RegionTellsWrongFalsely : Prop := regionTellsRow.holds Try.pinned (OpenSpec.ofChange regionTellsWrong)

/-- 'gambrellaw03.RegionNobody': WHATEVER THE INPUT: true; the input reads as it did. -/
def regionNobodySpec : ChangeSpec := { name := "regionNobody", fn := fun _ => fun
  | [d1, d2] => { results := [.lit (.bool true)], args := [d1, d2] }
  | _ => none }
def regionNobodyRow : OpenClaim := { program := "ytlkifpmlpnaaoaa", sum := "7813972f44be5237a114c086b56d99f13ae90edfbf8d588eae96c2e04a89b71b", func := "gambrel/gambrellaw03.RegionNobody", spec := "regionNobody", inPlace := ["sync/atomic.LoadUint32", "(*internal/sync.Mutex).Lock", "internal/race.Disable", "sync/atomic.CompareAndSwapInt32", "internal/race.Enable", "internal/race.Acquire", "(*internal/sync.Mutex).lockSlow", "internal/sync.runtime_canSpin", "internal/sync.runtime_doSpin", "internal/sync.throw", "internal/sync.runtime_nanotime", "internal/sync.runtime_SemacquireMutex", "sync/atomic.AddInt32", "(*internal/sync.Mutex).Unlock", "internal/race.ReleaseMerge", "(*internal/sync.Mutex).unlockSlow", "internal/sync.fatal", "internal/sync.runtime_Semrelease", "sync/atomic.StoreUint32"], unfollowed := true, recurses := true, apart := false }
def RegionNobodySaid : Prop := regionNobodyRow.holds Try.pinned (OpenSpec.ofChange regionNobodySpec)

/-- ITS FALSE NEIGHBOUR: 'it returns false'. Refute it at one input. -/
def regionNobodyWrong : ChangeSpec := { name := "regionNobody", fn := fun _ => fun
  | [d1, d2] => { results := [.lit (.bool false)], args := [d1, d2] }
  | _ => none }
def RegionNobodyWrongFalsely : Prop := regionNobodyRow.holds Try.pinned (OpenSpec.ofChange regionNobodyWrong)

/-- 'gambrellaw03.RegionUndo': WHATEVER THE INPUT: true; the input reads as it did. -/
def regionUndoSpec : ChangeSpec := { name := "regionUndo", fn := fun _ => fun
  | [d1, d2, d3] => { results := [.lit (.bool true)], args := [d1, d2, d3] }
  | _ => none }
def regionUndoRow : OpenClaim := { program := "ytlkifpmlpnaaoaa", sum := "7813972f44be5237a114c086b56d99f13ae90edfbf8d588eae96c2e04a89b71b", func := "gambrel/gambrellaw03.RegionUndo", spec := "regionUndo", inPlace := ["sync/atomic.LoadUint32", "(*internal/sync.Mutex).Lock", "internal/race.Disable", "sync/atomic.CompareAndSwapInt32", "internal/race.Enable", "internal/race.Acquire", "(*internal/sync.Mutex).lockSlow", "internal/sync.runtime_canSpin", "internal/sync.runtime_doSpin", "internal/sync.throw", "internal/sync.runtime_nanotime", "internal/sync.runtime_SemacquireMutex", "sync/atomic.AddInt32", "(*internal/sync.Mutex).Unlock", "internal/race.ReleaseMerge", "(*internal/sync.Mutex).unlockSlow", "internal/sync.fatal", "internal/sync.runtime_Semrelease", "sync/atomic.StoreUint32"], unfollowed := true, recurses := true, apart := false }
def RegionUndoSaid : Prop := regionUndoRow.holds Try.pinned (OpenSpec.ofChange regionUndoSpec)

/-- ITS FALSE NEIGHBOUR: 'it returns false'. Refute it at one input. -/
def regionUndoWrong : ChangeSpec := { name := "regionUndo", fn := fun _ => fun
  | [d1, d2, d3] => { results := [.lit (.bool false)], args := [d1, d2, d3] }
  | _ => none }
def RegionUndoWrongFalsely : Prop := regionUndoRow.holds Try.pinned (OpenSpec.ofChange regionUndoWrong)

/-- 'gambrellaw04.MatrixMuls': WHATEVER THE INPUT: true; the input reads as it did. -/
def matrixMulsSpec : ChangeSpec := { name := "matrixMuls", fn := fun _ => fun
  | [d1, d2, d3] => { results := [.lit (.bool true)], args := [d1, d2, d3] }
  | _ => none }
def matrixMulsRow : OpenClaim := { program := "ytlkifpmlpnaaoaa", sum := "7813972f44be5237a114c086b56d99f13ae90edfbf8d588eae96c2e04a89b71b", func := "gambrel/gambrellaw04.MatrixMuls", spec := "matrixMuls", inPlace := ["sync/atomic.LoadUint32", "(*internal/sync.Mutex).Lock", "internal/race.Disable", "sync/atomic.CompareAndSwapInt32", "internal/race.Enable", "internal/race.Acquire", "(*internal/sync.Mutex).lockSlow", "internal/sync.runtime_canSpin", "internal/sync.runtime_doSpin", "internal/sync.throw", "internal/sync.runtime_nanotime", "internal/sync.runtime_SemacquireMutex", "sync/atomic.AddInt32", "(*internal/sync.Mutex).Unlock", "internal/race.ReleaseMerge", "(*internal/sync.Mutex).unlockSlow", "internal/sync.fatal", "internal/sync.runtime_Semrelease", "sync/atomic.StoreUint32"], unfollowed := true, recurses := true, apart := false }
def MatrixMulsSaid : Prop := matrixMulsRow.holds Try.pinned (OpenSpec.ofChange matrixMulsSpec)

/-- ITS FALSE NEIGHBOUR: 'it returns false'. Refute it at one input. -/
def matrixMulsWrong : ChangeSpec := { name := "matrixMuls", fn := fun _ => fun
  | [d1, d2, d3] => { results := [.lit (.bool false)], args := [d1, d2, d3] }
  | _ => none }
def MatrixMulsWrongFalsely : Prop := matrixMulsRow.holds Try.pinned (OpenSpec.ofChange matrixMulsWrong)

/-- 'gambrellaw04.MatrixApply': WHATEVER THE INPUT: true; the input reads as it did. -/
def matrixApplySpec : ChangeSpec := { name := "matrixApply", fn := fun _ => fun
  | [d1, d2, d3] => { results := [.lit (.bool true)], args := [d1, d2, d3] }
  | _ => none }
def matrixApplyRow : OpenClaim := { program := "ytlkifpmlpnaaoaa", sum := "7813972f44be5237a114c086b56d99f13ae90edfbf8d588eae96c2e04a89b71b", func := "gambrel/gambrellaw04.MatrixApply", spec := "matrixApply", inPlace := ["sync/atomic.LoadUint32", "(*internal/sync.Mutex).Lock", "internal/race.Disable", "sync/atomic.CompareAndSwapInt32", "internal/race.Enable", "internal/race.Acquire", "(*internal/sync.Mutex).lockSlow", "internal/sync.runtime_canSpin", "internal/sync.runtime_doSpin", "internal/sync.throw", "internal/sync.runtime_nanotime", "internal/sync.runtime_SemacquireMutex", "sync/atomic.AddInt32", "(*internal/sync.Mutex).Unlock", "internal/race.ReleaseMerge", "(*internal/sync.Mutex).unlockSlow", "internal/sync.fatal", "internal/sync.runtime_Semrelease", "sync/atomic.StoreUint32"], unfollowed := true, recurses := true, apart := false }
def MatrixApplySaid : Prop := matrixApplyRow.holds Try.pinned (OpenSpec.ofChange matrixApplySpec)

/-- ITS FALSE NEIGHBOUR: 'it returns false'. Refute it at one input. -/
def matrixApplyWrong : ChangeSpec := { name := "matrixApply", fn := fun _ => fun
  | [d1, d2, d3] => { results := [.lit (.bool false)], args := [d1, d2, d3] }
  | _ => none }
def MatrixApplyWrongFalsely : Prop := matrixApplyRow.holds Try.pinned (OpenSpec.ofChange matrixApplyWrong)

/-- 'gambrellaw04.MatrixTells': WHATEVER THE INPUT: true; the input reads as it did. -/
def matrixTellsSpec : ChangeSpec := { name := "matrixTells", fn := fun _ => fun
  | [d1, d2, d3] => { results := [.lit (.bool true)], args := [d1, d2, d3] }
  | _ => none }
def matrixTellsRow : OpenClaim := { program := "ytlkifpmlpnaaoaa", sum := "7813972f44be5237a114c086b56d99f13ae90edfbf8d588eae96c2e04a89b71b", func := "gambrel/gambrellaw04.MatrixTells", spec := "matrixTells", inPlace := ["sync/atomic.LoadUint32", "(*internal/sync.Mutex).Lock", "internal/race.Disable", "sync/atomic.CompareAndSwapInt32", "internal/race.Enable", "internal/race.Acquire", "(*internal/sync.Mutex).lockSlow", "internal/sync.runtime_canSpin", "internal/sync.runtime_doSpin", "internal/sync.throw", "internal/sync.runtime_nanotime", "internal/sync.runtime_SemacquireMutex", "sync/atomic.AddInt32", "(*internal/sync.Mutex).Unlock", "internal/race.ReleaseMerge", "(*internal/sync.Mutex).unlockSlow", "internal/sync.fatal", "internal/sync.runtime_Semrelease", "sync/atomic.StoreUint32"], unfollowed := true, recurses := true, apart := false }
def MatrixTellsSaid : Prop := matrixTellsRow.holds Try.pinned (OpenSpec.ofChange matrixTellsSpec)

/-- ITS FALSE NEIGHBOUR: 'it returns false'. Refute it at one input. -/
def matrixTellsWrong : ChangeSpec := { name := "matrixTells", fn := fun _ => fun
  | [d1, d2, d3] => { results := [.lit (.bool false)], args := [d1, d2, d3] }
  | _ => none }
def MatrixTellsWrongFalsely : Prop := matrixTellsRow.holds Try.pinned (OpenSpec.ofChange matrixTellsWrong)

/-- 'gambrellaw04.MatrixRows': WHATEVER THE INPUT: true; the input reads as it did. -/
def matrixRowsSpec : ChangeSpec := { name := "matrixRows", fn := fun _ => fun
  | [d1, d2, d3] => { results := [.lit (.bool true)], args := [d1, d2, d3] }
  | _ => none }
def matrixRowsRow : OpenClaim := { program := "ytlkifpmlpnaaoaa", sum := "7813972f44be5237a114c086b56d99f13ae90edfbf8d588eae96c2e04a89b71b", func := "gambrel/gambrellaw04.MatrixRows", spec := "matrixRows", inPlace := ["sync/atomic.LoadUint32", "(*internal/sync.Mutex).Lock", "internal/race.Disable", "sync/atomic.CompareAndSwapInt32", "internal/race.Enable", "internal/race.Acquire", "(*internal/sync.Mutex).lockSlow", "internal/sync.runtime_canSpin", "internal/sync.runtime_doSpin", "internal/sync.throw", "internal/sync.runtime_nanotime", "internal/sync.runtime_SemacquireMutex", "sync/atomic.AddInt32", "(*internal/sync.Mutex).Unlock", "internal/race.ReleaseMerge", "(*internal/sync.Mutex).unlockSlow", "internal/sync.fatal", "internal/sync.runtime_Semrelease", "sync/atomic.StoreUint32"], unfollowed := true, recurses := true, apart := false }
def MatrixRowsSaid : Prop := matrixRowsRow.holds Try.pinned (OpenSpec.ofChange matrixRowsSpec)

/-- ITS FALSE NEIGHBOUR: 'it returns false'. Refute it at one input. -/
def matrixRowsWrong : ChangeSpec := { name := "matrixRows", fn := fun _ => fun
  | [d1, d2, d3] => { results := [.lit (.bool false)], args := [d1, d2, d3] }
  | _ => none }
def MatrixRowsWrongFalsely : Prop := matrixRowsRow.holds Try.pinned (OpenSpec.ofChange matrixRowsWrong)

/-- 'gambrellaw04.MatrixNobody': WHATEVER THE INPUT: true; the input reads as it did. -/
def matrixNobodySpec : ChangeSpec := { name := "matrixNobody", fn := fun _ => fun
  | [d1, d2] => { results := [.lit (.bool true)], args := [d1, d2] }
  | _ => none }
def matrixNobodyRow : OpenClaim := { program := "ytlkifpmlpnaaoaa", sum := "7813972f44be5237a114c086b56d99f13ae90edfbf8d588eae96c2e04a89b71b", func := "gambrel/gambrellaw04.MatrixNobody", spec := "matrixNobody", inPlace := ["sync/atomic.LoadUint32", "(*internal/sync.Mutex).Lock", "internal/race.Disable", "sync/atomic.CompareAndSwapInt32", "internal/race.Enable", "internal/race.Acquire", "(*internal/sync.Mutex).lockSlow", "internal/sync.runtime_canSpin", "internal/sync.runtime_doSpin", "internal/sync.throw", "internal/sync.runtime_nanotime", "internal/sync.runtime_SemacquireMutex", "sync/atomic.AddInt32", "(*internal/sync.Mutex).Unlock", "internal/race.ReleaseMerge", "(*internal/sync.Mutex).unlockSlow", "internal/sync.fatal", "internal/sync.runtime_Semrelease", "sync/atomic.StoreUint32"], unfollowed := true, recurses := true, apart := false }
def MatrixNobodySaid : Prop := matrixNobodyRow.holds Try.pinned (OpenSpec.ofChange matrixNobodySpec)

/-- ITS FALSE NEIGHBOUR: 'it returns false'. Refute it at one input. -/
def matrixNobodyWrong : ChangeSpec := { name := "matrixNobody", fn := fun _ => fun
  | [d1, d2] => { results := [.lit (.bool false)], args := [d1, d2] }
  | _ => none }
def MatrixNobodyWrongFalsely : Prop := matrixNobodyRow.holds Try.pinned (OpenSpec.ofChange matrixNobodyWrong)

/- THE SECOND FORM. 'bulk': how many values and letters a reading holds, each counted each time it is reached (what is shared counts as often as it is met; a slice's spare places count too). A statement '..UptoSaid' is the law's where the arguments, and the package variables that the reading takes, are together of bulk at most 1048576: NARROWER than '..Said'. Prove '..Said' where nothing that the law and all that it calls make is longer than what came in: it says more and counts as full. Else prove '..UptoSaid'. A law counts once. -/
mutual
def uptoBulk {H : Type} : DataW H → Nat
  | .lit (.string bytes) => bytes.length + 1
  | .lit _ => 1
  | .nil => 1
  | .ptr d => uptoBulk d + 1
  | .slice elems spare => uptoBulkAll elems + uptoBulkAll spare + 1
  | .agg parts => uptoBulkAll parts + 1
  | .iface _ d => uptoBulk d + 1
  | .map entries => uptoBulkEntries entries + 1
  | .held _ => 1
def uptoBulkAll {H : Type} : List (DataW H) → Nat
  | [] => 0
  | d :: r => uptoBulk d + uptoBulkAll r
def uptoBulkEntries {H : Type} : List (Lit × DataW H) → Nat
  | [] => 0
  | x :: r => uptoBulkEntry x + uptoBulkEntries r
def uptoBulkEntry {H : Type} : Lit × DataW H → Nat
  | (.string bytes, d) => bytes.length + uptoBulk d + 1
  | (_, d) => uptoBulk d + 1
 end
def uptoSmall : (H : Type) → List (DataW H) → Bool := fun _ ds => decide (uptoBulkAll ds ≤ 1048576)
def OpenSpec.upto (s : _root_.Go.ChangeSpec) : _root_.Go.OpenSpec := { _root_.Go.OpenSpec.ofChange s with cond := some uptoSmall }

/-- 'gambrellaw03.RegionWords', WHERE WHAT IT READS IS OF BULK AT MOST 1048576: true; the input reads as it did. -/
def regionWordsUptoRow : OpenClaim := { program := "ytlkifpmlpnaaoaa", sum := "7813972f44be5237a114c086b56d99f13ae90edfbf8d588eae96c2e04a89b71b", func := "gambrel/gambrellaw03.RegionWords", spec := "regionWords", inPlace := ["sync/atomic.LoadUint32", "(*internal/sync.Mutex).Lock", "internal/race.Disable", "sync/atomic.CompareAndSwapInt32", "internal/race.Enable", "internal/race.Acquire", "(*internal/sync.Mutex).lockSlow", "internal/sync.runtime_canSpin", "internal/sync.runtime_doSpin", "internal/sync.throw", "internal/sync.runtime_nanotime", "internal/sync.runtime_SemacquireMutex", "sync/atomic.AddInt32", "(*internal/sync.Mutex).Unlock", "internal/race.ReleaseMerge", "(*internal/sync.Mutex).unlockSlow", "internal/sync.fatal", "internal/sync.runtime_Semrelease", "sync/atomic.StoreUint32"], unfollowed := true, recurses := true, apart := false, narrowed := true }
def RegionWordsUptoSaid : Prop := regionWordsUptoRow.holds Try.pinned (OpenSpec.upto regionWordsSpec)

/-- 'gambrellaw03.RegionBack', WHERE WHAT IT READS IS OF BULK AT MOST 1048576: true; the input reads as it did. -/
def regionBackUptoRow : OpenClaim := { program := "ytlkifpmlpnaaoaa", sum := "7813972f44be5237a114c086b56d99f13ae90edfbf8d588eae96c2e04a89b71b", func := "gambrel/gambrellaw03.RegionBack", spec := "regionBack", inPlace := ["sync/atomic.LoadUint32", "(*internal/sync.Mutex).Lock", "internal/race.Disable", "sync/atomic.CompareAndSwapInt32", "internal/race.Enable", "internal/race.Acquire", "(*internal/sync.Mutex).lockSlow", "internal/sync.runtime_canSpin", "internal/sync.runtime_doSpin", "internal/sync.throw", "internal/sync.runtime_nanotime", "internal/sync.runtime_SemacquireMutex", "sync/atomic.AddInt32", "(*internal/sync.Mutex).Unlock", "internal/race.ReleaseMerge", "(*internal/sync.Mutex).unlockSlow", "internal/sync.fatal", "internal/sync.runtime_Semrelease", "sync/atomic.StoreUint32"], unfollowed := true, recurses := true, apart := false, narrowed := true }
def RegionBackUptoSaid : Prop := regionBackUptoRow.holds Try.pinned (OpenSpec.upto regionBackSpec)

/-- 'gambrellaw03.RegionSpreads', WHERE WHAT IT READS IS OF BULK AT MOST 1048576: true; the input reads as it did. -/
def regionSpreadsUptoRow : OpenClaim := { program := "ytlkifpmlpnaaoaa", sum := "7813972f44be5237a114c086b56d99f13ae90edfbf8d588eae96c2e04a89b71b", func := "gambrel/gambrellaw03.RegionSpreads", spec := "regionSpreads", inPlace := ["sync/atomic.LoadUint32", "(*internal/sync.Mutex).Lock", "internal/race.Disable", "sync/atomic.CompareAndSwapInt32", "internal/race.Enable", "internal/race.Acquire", "(*internal/sync.Mutex).lockSlow", "internal/sync.runtime_canSpin", "internal/sync.runtime_doSpin", "internal/sync.throw", "internal/sync.runtime_nanotime", "internal/sync.runtime_SemacquireMutex", "sync/atomic.AddInt32", "(*internal/sync.Mutex).Unlock", "internal/race.ReleaseMerge", "(*internal/sync.Mutex).unlockSlow", "internal/sync.fatal", "internal/sync.runtime_Semrelease", "sync/atomic.StoreUint32"], unfollowed := true, recurses := true, apart := false, narrowed := true }
def RegionSpreadsUptoSaid : Prop := regionSpreadsUptoRow.holds Try.pinned (OpenSpec.upto regionSpreadsSpec)

/-- 'gambrellaw04.MatrixLaws', WHERE WHAT IT READS IS OF BULK AT MOST 1048576: true; the input reads as it did. -/
def matrixLawsUptoRow : OpenClaim := { program := "ytlkifpmlpnaaoaa", sum := "7813972f44be5237a114c086b56d99f13ae90edfbf8d588eae96c2e04a89b71b", func := "gambrel/gambrellaw04.MatrixLaws", spec := "matrixLaws", inPlace := ["sync/atomic.LoadUint32", "(*internal/sync.Mutex).Lock", "internal/race.Disable", "sync/atomic.CompareAndSwapInt32", "internal/race.Enable", "internal/race.Acquire", "(*internal/sync.Mutex).lockSlow", "internal/sync.runtime_canSpin", "internal/sync.runtime_doSpin", "internal/sync.throw", "internal/sync.runtime_nanotime", "internal/sync.runtime_SemacquireMutex", "sync/atomic.AddInt32", "(*internal/sync.Mutex).Unlock", "internal/race.ReleaseMerge", "(*internal/sync.Mutex).unlockSlow", "internal/sync.fatal", "internal/sync.runtime_Semrelease", "sync/atomic.StoreUint32"], unfollowed := true, recurses := true, apart := false, narrowed := true }
def MatrixLawsUptoSaid : Prop := matrixLawsUptoRow.holds Try.pinned (OpenSpec.upto matrixLawsSpec)

/-- 'gambrellaw03.RegionTells', WHERE WHAT IT READS IS OF BULK AT MOST 1048576: true; the input reads as it did. -/
def regionTellsUptoRow : OpenClaim := { program := "ytlkifpmlpnaaoaa", sum := "7813972f44be5237a114c086b56d99f13ae90edfbf8d588eae96c2e04a89b71b", func := "gambrel/gambrellaw03.RegionTells", spec := "regionTells", inPlace := ["sync/atomic.LoadUint32", "(*internal/sync.Mutex).Lock", "internal/race.Disable", "sync/atomic.CompareAndSwapInt32", "internal/race.Enable", "internal/race.Acquire", "(*internal/sync.Mutex).lockSlow", "internal/sync.runtime_canSpin", "internal/sync.runtime_doSpin", "internal/sync.throw", "internal/sync.runtime_nanotime", "internal/sync.runtime_SemacquireMutex", "sync/atomic.AddInt32", "(*internal/sync.Mutex).Unlock", "internal/race.ReleaseMerge", "(*internal/sync.Mutex).unlockSlow", "internal/sync.fatal", "internal/sync.runtime_Semrelease", "sync/atomic.StoreUint32"], unfollowed := true, recurses := true, apart := false, narrowed := true }
def RegionTellsUptoSaid : Prop := regionTellsUptoRow.holds Try.pinned (OpenSpec.upto regionTellsSpec)

/-- 'gambrellaw03.RegionNobody', WHERE WHAT IT READS IS OF BULK AT MOST 1048576: true; the input reads as it did. -/
def regionNobodyUptoRow : OpenClaim := { program := "ytlkifpmlpnaaoaa", sum := "7813972f44be5237a114c086b56d99f13ae90edfbf8d588eae96c2e04a89b71b", func := "gambrel/gambrellaw03.RegionNobody", spec := "regionNobody", inPlace := ["sync/atomic.LoadUint32", "(*internal/sync.Mutex).Lock", "internal/race.Disable", "sync/atomic.CompareAndSwapInt32", "internal/race.Enable", "internal/race.Acquire", "(*internal/sync.Mutex).lockSlow", "internal/sync.runtime_canSpin", "internal/sync.runtime_doSpin", "internal/sync.throw", "internal/sync.runtime_nanotime", "internal/sync.runtime_SemacquireMutex", "sync/atomic.AddInt32", "(*internal/sync.Mutex).Unlock", "internal/race.ReleaseMerge", "(*internal/sync.Mutex).unlockSlow", "internal/sync.fatal", "internal/sync.runtime_Semrelease", "sync/atomic.StoreUint32"], unfollowed := true, recurses := true, apart := false, narrowed := true }
def RegionNobodyUptoSaid : Prop := regionNobodyUptoRow.holds Try.pinned (OpenSpec.upto regionNobodySpec)

/-- 'gambrellaw03.RegionUndo', WHERE WHAT IT READS IS OF BULK AT MOST 1048576: true; the input reads as it did. -/
def regionUndoUptoRow : OpenClaim := { program := "ytlkifpmlpnaaoaa", sum := "7813972f44be5237a114c086b56d99f13ae90edfbf8d588eae96c2e04a89b71b", func := "gambrel/gambrellaw03.RegionUndo", spec := "regionUndo", inPlace := ["sync/atomic.LoadUint32", "(*internal/sync.Mutex).Lock", "internal/race.Disable", "sync/atomic.CompareAndSwapInt32", "internal/race.Enable", "internal/race.Acquire", "(*internal/sync.Mutex).lockSlow", "internal/sync.runtime_canSpin", "internal/sync.runtime_doSpin", "internal/sync.throw", "internal/sync.runtime_nanotime", "internal/sync.runtime_SemacquireMutex", "sync/atomic.AddInt32", "(*internal/sync.Mutex).Unlock", "internal/race.ReleaseMerge", "(*internal/sync.Mutex).unlockSlow", "internal/sync.fatal", "internal/sync.runtime_Semrelease", "sync/atomic.StoreUint32"], unfollowed := true, recurses := true, apart := false, narrowed := true }
def RegionUndoUptoSaid : Prop := regionUndoUptoRow.holds Try.pinned (OpenSpec.upto regionUndoSpec)

/-- 'gambrellaw04.MatrixMuls', WHERE WHAT IT READS IS OF BULK AT MOST 1048576: true; the input reads as it did. -/
def matrixMulsUptoRow : OpenClaim := { program := "ytlkifpmlpnaaoaa", sum := "7813972f44be5237a114c086b56d99f13ae90edfbf8d588eae96c2e04a89b71b", func := "gambrel/gambrellaw04.MatrixMuls", spec := "matrixMuls", inPlace := ["sync/atomic.LoadUint32", "(*internal/sync.Mutex).Lock", "internal/race.Disable", "sync/atomic.CompareAndSwapInt32", "internal/race.Enable", "internal/race.Acquire", "(*internal/sync.Mutex).lockSlow", "internal/sync.runtime_canSpin", "internal/sync.runtime_doSpin", "internal/sync.throw", "internal/sync.runtime_nanotime", "internal/sync.runtime_SemacquireMutex", "sync/atomic.AddInt32", "(*internal/sync.Mutex).Unlock", "internal/race.ReleaseMerge", "(*internal/sync.Mutex).unlockSlow", "internal/sync.fatal", "internal/sync.runtime_Semrelease", "sync/atomic.StoreUint32"], unfollowed := true, recurses := true, apart := false, narrowed := true }
def MatrixMulsUptoSaid : Prop := matrixMulsUptoRow.holds Try.pinned (OpenSpec.upto matrixMulsSpec)

/-- 'gambrellaw04.MatrixApply', WHERE WHAT IT READS IS OF BULK AT MOST 1048576: true; the input reads as it did. -/
def matrixApplyUptoRow : OpenClaim := { program := "ytlkifpmlpnaaoaa", sum := "7813972f44be5237a114c086b56d99f13ae90edfbf8d588eae96c2e04a89b71b", func := "gambrel/gambrellaw04.MatrixApply", spec := "matrixApply", inPlace := ["sync/atomic.LoadUint32", "(*internal/sync.Mutex).Lock", "internal/race.Disable", "sync/atomic.CompareAndSwapInt32", "internal/race.Enable", "internal/race.Acquire", "(*internal/sync.Mutex).lockSlow", "internal/sync.runtime_canSpin", "internal/sync.runtime_doSpin", "internal/sync.throw", "internal/sync.runtime_nanotime", "internal/sync.runtime_SemacquireMutex", "sync/atomic.AddInt32", "(*internal/sync.Mutex).Unlock", "internal/race.ReleaseMerge", "(*internal/sync.Mutex).unlockSlow", "internal/sync.fatal", "internal/sync.runtime_Semrelease", "sync/atomic.StoreUint32"], unfollowed := true, recurses := true, apart := false, narrowed := true }
def MatrixApplyUptoSaid : Prop := matrixApplyUptoRow.holds Try.pinned (OpenSpec.upto matrixApplySpec)

/-- 'gambrellaw04.MatrixTells', WHERE WHAT IT READS IS OF BULK AT MOST 1048576: true; the input reads as it did. -/
def matrixTellsUptoRow : OpenClaim := { program := "ytlkifpmlpnaaoaa", sum := "7813972f44be5237a114c086b56d99f13ae90edfbf8d588eae96c2e04a89b71b", func := "gambrel/gambrellaw04.MatrixTells", spec := "matrixTells", inPlace := ["sync/atomic.LoadUint32", "(*internal/sync.Mutex).Lock", "internal/race.Disable", "sync/atomic.CompareAndSwapInt32", "internal/race.Enable", "internal/race.Acquire", "(*internal/sync.Mutex).lockSlow", "internal/sync.runtime_canSpin", "internal/sync.runtime_doSpin", "internal/sync.throw", "internal/sync.runtime_nanotime", "internal/sync.runtime_SemacquireMutex", "sync/atomic.AddInt32", "(*internal/sync.Mutex).Unlock", "internal/race.ReleaseMerge", "(*internal/sync.Mutex).unlockSlow", "internal/sync.fatal", "internal/sync.runtime_Semrelease", "sync/atomic.StoreUint32"], unfollowed := true, recurses := true, apart := false, narrowed := true }
def MatrixTellsUptoSaid : Prop := matrixTellsUptoRow.holds Try.pinned (OpenSpec.upto matrixTellsSpec)

/-- 'gambrellaw04.MatrixRows', WHERE WHAT IT READS IS OF BULK AT MOST 1048576: true; the input reads as it did. -/
def matrixRowsUptoRow : OpenClaim := { program := "ytlkifpmlpnaaoaa", sum := "7813972f44be5237a114c086b56d99f13ae90edfbf8d588eae96c2e04a89b71b", func := "gambrel/gambrellaw04.MatrixRows", spec := "matrixRows", inPlace := ["sync/atomic.LoadUint32", "(*internal/sync.Mutex).Lock", "internal/race.Disable", "sync/atomic.CompareAndSwapInt32", "internal/race.Enable", "internal/race.Acquire", "(*internal/sync.Mutex).lockSlow", "internal/sync.runtime_canSpin", "internal/sync.runtime_doSpin", "internal/sync.throw", "internal/sync.runtime_nanotime", "internal/sync.runtime_SemacquireMutex", "sync/atomic.AddInt32", "(*internal/sync.Mutex).Unlock", "internal/race.ReleaseMerge", "(*internal/sync.Mutex).unlockSlow", "internal/sync.fatal", "internal/sync.runtime_Semrelease", "sync/atomic.StoreUint32"], unfollowed := true, recurses := true, apart := false, narrowed := true }
def MatrixRowsUptoSaid : Prop := matrixRowsUptoRow.holds Try.pinned (OpenSpec.upto matrixRowsSpec)

/-- 'gambrellaw04.MatrixNobody', WHERE WHAT IT READS IS OF BULK AT MOST 1048576: true; the input reads as it did. -/
def matrixNobodyUptoRow : OpenClaim := { program := "ytlkifpmlpnaaoaa", sum := "7813972f44be5237a114c086b56d99f13ae90edfbf8d588eae96c2e04a89b71b", func := "gambrel/gambrellaw04.MatrixNobody", spec := "matrixNobody", inPlace := ["sync/atomic.LoadUint32", "(*internal/sync.Mutex).Lock", "internal/race.Disable", "sync/atomic.CompareAndSwapInt32", "internal/race.Enable", "internal/race.Acquire", "(*internal/sync.Mutex).lockSlow", "internal/sync.runtime_canSpin", "internal/sync.runtime_doSpin", "internal/sync.throw", "internal/sync.runtime_nanotime", "internal/sync.runtime_SemacquireMutex", "sync/atomic.AddInt32", "(*internal/sync.Mutex).Unlock", "internal/race.ReleaseMerge", "(*internal/sync.Mutex).unlockSlow", "internal/sync.fatal", "internal/sync.runtime_Semrelease", "sync/atomic.StoreUint32"], unfollowed := true, recurses := true, apart := false, narrowed := true }
def MatrixNobodyUptoSaid : Prop := matrixNobodyUptoRow.holds Try.pinned (OpenSpec.upto matrixNobodySpec)

end Rows
end Go.Proofs.Ytlkifpmlpnaaoaa
