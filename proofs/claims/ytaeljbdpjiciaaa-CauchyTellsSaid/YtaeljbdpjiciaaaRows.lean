/-
  No cell of these rows narrows 'for every input' (looked for: loops, veiled, ifaces, maps, wideKeys, modest, calm, conditions, laid).
  DERIVED. THE GIVEN ROWS OF THIS SEAT. 11 by the template 'for every input the law returns true; each argument reads behind the call as it read before'; 0 by the template 'total and deterministic' (their statements: YtaeljbdpjiciaaaTotals.lean).
  GIVEN WITH THE SEED: the statements are not yours to turn. If you find one false, say at which input.
  Laid BY PROGRAM, IN A SANDBOX (cutbox-rows.mjs): the forced cells as the released guide's own fill.sh prints them over the translation 36305d92c02d5fbd… (all of the seat's roots in one cut). By AI agents, Wed Nov 11 2026. No macro, syntax, notation, axiom, sorry.
-/
import Derived.Test.YtaeljbdpjiciaaaChecked
import GoSem.Claim
import GoSem.ClaimJoined
import GoSem.ClaimMapViews
import Derived.JoinedTies
import Derived.KernelRfl
namespace Go.Proofs.Ytaeljbdpjiciaaa
/- THE CELL 'sum', in the pinned program and in every row, IS THE sha256 OF THE DUMP (.gsa) THAT YtaeljbdpjiciaaaProg.lean LOADS. Nothing in Lean hashes anything: it is a label: what it is worth is what the hold of that sum in a sandbox is worth. -/
noncomputable def Try.pinned : Pinned := { name := "ytaeljbdpjiciaaa", sum := "36305d92c02d5fbdbf97e4cd7d9289974c15f4b07216398afa01cd0223a8635d", checked := Try.checked }
namespace Rows
def none {H : Type} : Left H := { results := [], args := [] }

/-- 'gambrellaw07.JvanTells': WHATEVER THE INPUT: true; the input reads as it did. -/
def jvanTellsSpec : ChangeSpec := { name := "jvanTells", fn := fun _ => fun
  | [d1, d2, d3] => { results := [.lit (.bool true)], args := [d1, d2, d3] }
  | _ => none }
def jvanTellsRow : OpenClaim := { program := "ytaeljbdpjiciaaa", sum := "36305d92c02d5fbdbf97e4cd7d9289974c15f4b07216398afa01cd0223a8635d", func := "gambrel/gambrellaw07.JvanTells", spec := "jvanTells", inPlace := ["sync/atomic.LoadUint32", "(*internal/sync.Mutex).Lock", "internal/race.Disable", "sync/atomic.CompareAndSwapInt32", "internal/race.Enable", "internal/race.Acquire", "(*internal/sync.Mutex).lockSlow", "internal/sync.runtime_canSpin", "internal/sync.runtime_doSpin", "internal/sync.throw", "internal/sync.runtime_nanotime", "internal/sync.runtime_SemacquireMutex", "sync/atomic.AddInt32", "(*internal/sync.Mutex).Unlock", "internal/race.ReleaseMerge", "(*internal/sync.Mutex).unlockSlow", "internal/sync.fatal", "internal/sync.runtime_Semrelease", "sync/atomic.StoreUint32"], unfollowed := true, recurses := true, apart := false }
def JvanTellsSaid : Prop := jvanTellsRow.holds Try.pinned (OpenSpec.ofChange jvanTellsSpec)

/-- ITS FALSE NEIGHBOUR: 'it returns false'. Refute it at one input. -/
def jvanTellsWrong : ChangeSpec := { name := "jvanTells", fn := fun _ => fun
  | [d1, d2, d3] => { results := [.lit (.bool false)], args := [d1, d2, d3] }
  | _ => none }
def JvanTellsWrongFalsely : Prop := jvanTellsRow.holds Try.pinned (OpenSpec.ofChange jvanTellsWrong)

/-- 'gambrellaw07.JvanOnes': WHATEVER THE INPUT: true; the input reads as it did. -/
def jvanOnesSpec : ChangeSpec := { name := "jvanOnes", fn := fun _ => fun
  | [d1, d2, d3] => { results := [.lit (.bool true)], args := [d1, d2, d3] }
  | _ => none }
def jvanOnesRow : OpenClaim := { program := "ytaeljbdpjiciaaa", sum := "36305d92c02d5fbdbf97e4cd7d9289974c15f4b07216398afa01cd0223a8635d", func := "gambrel/gambrellaw07.JvanOnes", spec := "jvanOnes", inPlace := ["sync/atomic.LoadUint32", "(*internal/sync.Mutex).Lock", "internal/race.Disable", "sync/atomic.CompareAndSwapInt32", "internal/race.Enable", "internal/race.Acquire", "(*internal/sync.Mutex).lockSlow", "internal/sync.runtime_canSpin", "internal/sync.runtime_doSpin", "internal/sync.throw", "internal/sync.runtime_nanotime", "internal/sync.runtime_SemacquireMutex", "sync/atomic.AddInt32", "(*internal/sync.Mutex).Unlock", "internal/race.ReleaseMerge", "(*internal/sync.Mutex).unlockSlow", "internal/sync.fatal", "internal/sync.runtime_Semrelease", "sync/atomic.StoreUint32"], unfollowed := true, recurses := true, apart := false }
def JvanOnesSaid : Prop := jvanOnesRow.holds Try.pinned (OpenSpec.ofChange jvanOnesSpec)

/-- ITS FALSE NEIGHBOUR: 'it returns false'. Refute it at one input. -/
def jvanOnesWrong : ChangeSpec := { name := "jvanOnes", fn := fun _ => fun
  | [d1, d2, d3] => { results := [.lit (.bool false)], args := [d1, d2, d3] }
  | _ => none }
def JvanOnesWrongFalsely : Prop := jvanOnesRow.holds Try.pinned (OpenSpec.ofChange jvanOnesWrong)

/-- 'gambrellaw07.JvanNobody': WHATEVER THE INPUT: true; the input reads as it did. -/
def jvanNobodySpec : ChangeSpec := { name := "jvanNobody", fn := fun _ => fun
  | [d1, d2] => { results := [.lit (.bool true)], args := [d1, d2] }
  | _ => none }
def jvanNobodyRow : OpenClaim := { program := "ytaeljbdpjiciaaa", sum := "36305d92c02d5fbdbf97e4cd7d9289974c15f4b07216398afa01cd0223a8635d", func := "gambrel/gambrellaw07.JvanNobody", spec := "jvanNobody", inPlace := ["sync/atomic.LoadUint32", "(*internal/sync.Mutex).Lock", "internal/race.Disable", "sync/atomic.CompareAndSwapInt32", "internal/race.Enable", "internal/race.Acquire", "(*internal/sync.Mutex).lockSlow", "internal/sync.runtime_canSpin", "internal/sync.runtime_doSpin", "internal/sync.throw", "internal/sync.runtime_nanotime", "internal/sync.runtime_SemacquireMutex", "sync/atomic.AddInt32", "(*internal/sync.Mutex).Unlock", "internal/race.ReleaseMerge", "(*internal/sync.Mutex).unlockSlow", "internal/sync.fatal", "internal/sync.runtime_Semrelease", "sync/atomic.StoreUint32"], unfollowed := true, recurses := true, apart := false }
def JvanNobodySaid : Prop := jvanNobodyRow.holds Try.pinned (OpenSpec.ofChange jvanNobodySpec)

/-- ITS FALSE NEIGHBOUR: 'it returns false'. Refute it at one input. -/
def jvanNobodyWrong : ChangeSpec := { name := "jvanNobody", fn := fun _ => fun
  | [d1, d2] => { results := [.lit (.bool false)], args := [d1, d2] }
  | _ => none }
def JvanNobodyWrongFalsely : Prop := jvanNobodyRow.holds Try.pinned (OpenSpec.ofChange jvanNobodyWrong)

/-- 'gambrellaw08.CauchyAll': WHATEVER THE INPUT: true; the input reads as it did. -/
def cauchyAllSpec : ChangeSpec := { name := "cauchyAll", fn := fun _ => fun
  | [d1, d2, d3] => { results := [.lit (.bool true)], args := [d1, d2, d3] }
  | _ => none }
def cauchyAllRow : OpenClaim := { program := "ytaeljbdpjiciaaa", sum := "36305d92c02d5fbdbf97e4cd7d9289974c15f4b07216398afa01cd0223a8635d", func := "gambrel/gambrellaw08.CauchyAll", spec := "cauchyAll", inPlace := ["sync/atomic.LoadUint32", "(*internal/sync.Mutex).Lock", "internal/race.Disable", "sync/atomic.CompareAndSwapInt32", "internal/race.Enable", "internal/race.Acquire", "(*internal/sync.Mutex).lockSlow", "internal/sync.runtime_canSpin", "internal/sync.runtime_doSpin", "internal/sync.throw", "internal/sync.runtime_nanotime", "internal/sync.runtime_SemacquireMutex", "sync/atomic.AddInt32", "(*internal/sync.Mutex).Unlock", "internal/race.ReleaseMerge", "(*internal/sync.Mutex).unlockSlow", "internal/sync.fatal", "internal/sync.runtime_Semrelease", "sync/atomic.StoreUint32"], unfollowed := true, recurses := true, apart := false }
def CauchyAllSaid : Prop := cauchyAllRow.holds Try.pinned (OpenSpec.ofChange cauchyAllSpec)

/-- ITS FALSE NEIGHBOUR: 'it returns false'. Refute it at one input. -/
def cauchyAllWrong : ChangeSpec := { name := "cauchyAll", fn := fun _ => fun
  | [d1, d2, d3] => { results := [.lit (.bool false)], args := [d1, d2, d3] }
  | _ => none }
def CauchyAllWrongFalsely : Prop := cauchyAllRow.holds Try.pinned (OpenSpec.ofChange cauchyAllWrong)

/-- 'gambrellaw08.CauchySquares': WHATEVER THE INPUT: true; the input reads as it did. -/
def cauchySquaresSpec : ChangeSpec := { name := "cauchySquares", fn := fun _ => fun
  | [d1, d2] => { results := [.lit (.bool true)], args := [d1, d2] }
  | _ => none }
def cauchySquaresRow : OpenClaim := { program := "ytaeljbdpjiciaaa", sum := "36305d92c02d5fbdbf97e4cd7d9289974c15f4b07216398afa01cd0223a8635d", func := "gambrel/gambrellaw08.CauchySquares", spec := "cauchySquares", inPlace := ["sync/atomic.LoadUint32", "(*internal/sync.Mutex).Lock", "internal/race.Disable", "sync/atomic.CompareAndSwapInt32", "internal/race.Enable", "internal/race.Acquire", "(*internal/sync.Mutex).lockSlow", "internal/sync.runtime_canSpin", "internal/sync.runtime_doSpin", "internal/sync.throw", "internal/sync.runtime_nanotime", "internal/sync.runtime_SemacquireMutex", "sync/atomic.AddInt32", "(*internal/sync.Mutex).Unlock", "internal/race.ReleaseMerge", "(*internal/sync.Mutex).unlockSlow", "internal/sync.fatal", "internal/sync.runtime_Semrelease", "sync/atomic.StoreUint32"], unfollowed := true, recurses := true, apart := false }
def CauchySquaresSaid : Prop := cauchySquaresRow.holds Try.pinned (OpenSpec.ofChange cauchySquaresSpec)

/-- ITS FALSE NEIGHBOUR: 'it returns false'. Refute it at one input. -/
def cauchySquaresWrong : ChangeSpec := { name := "cauchySquares", fn := fun _ => fun
  | [d1, d2] => { results := [.lit (.bool false)], args := [d1, d2] }
  | _ => none }
def CauchySquaresWrongFalsely : Prop := cauchySquaresRow.holds Try.pinned (OpenSpec.ofChange cauchySquaresWrong)

/-- 'gambrellaw08.CauchyTurned': WHATEVER THE INPUT: true; the input reads as it did. -/
def cauchyTurnedSpec : ChangeSpec := { name := "cauchyTurned", fn := fun _ => fun
  | [d1, d2, d3] => { results := [.lit (.bool true)], args := [d1, d2, d3] }
  | _ => none }
def cauchyTurnedRow : OpenClaim := { program := "ytaeljbdpjiciaaa", sum := "36305d92c02d5fbdbf97e4cd7d9289974c15f4b07216398afa01cd0223a8635d", func := "gambrel/gambrellaw08.CauchyTurned", spec := "cauchyTurned", inPlace := ["sync/atomic.LoadUint32", "(*internal/sync.Mutex).Lock", "internal/race.Disable", "sync/atomic.CompareAndSwapInt32", "internal/race.Enable", "internal/race.Acquire", "(*internal/sync.Mutex).lockSlow", "internal/sync.runtime_canSpin", "internal/sync.runtime_doSpin", "internal/sync.throw", "internal/sync.runtime_nanotime", "internal/sync.runtime_SemacquireMutex", "sync/atomic.AddInt32", "(*internal/sync.Mutex).Unlock", "internal/race.ReleaseMerge", "(*internal/sync.Mutex).unlockSlow", "internal/sync.fatal", "internal/sync.runtime_Semrelease", "sync/atomic.StoreUint32"], unfollowed := true, recurses := true, apart := false }
def CauchyTurnedSaid : Prop := cauchyTurnedRow.holds Try.pinned (OpenSpec.ofChange cauchyTurnedSpec)

/-- ITS FALSE NEIGHBOUR: 'it returns false'. Refute it at one input. -/
def cauchyTurnedWrong : ChangeSpec := { name := "cauchyTurned", fn := fun _ => fun
  | [d1, d2, d3] => { results := [.lit (.bool false)], args := [d1, d2, d3] }
  | _ => none }
def CauchyTurnedWrongFalsely : Prop := cauchyTurnedRow.holds Try.pinned (OpenSpec.ofChange cauchyTurnedWrong)

/-- 'gambrellaw07.JvanExtended': WHATEVER THE INPUT: true; the input reads as it did. -/
def jvanExtendedSpec : ChangeSpec := { name := "jvanExtended", fn := fun _ => fun
  | [d1, d2, d3] => { results := [.lit (.bool true)], args := [d1, d2, d3] }
  | _ => none }
def jvanExtendedRow : OpenClaim := { program := "ytaeljbdpjiciaaa", sum := "36305d92c02d5fbdbf97e4cd7d9289974c15f4b07216398afa01cd0223a8635d", func := "gambrel/gambrellaw07.JvanExtended", spec := "jvanExtended", inPlace := ["sync/atomic.LoadUint32", "(*internal/sync.Mutex).Lock", "internal/race.Disable", "sync/atomic.CompareAndSwapInt32", "internal/race.Enable", "internal/race.Acquire", "(*internal/sync.Mutex).lockSlow", "internal/sync.runtime_canSpin", "internal/sync.runtime_doSpin", "internal/sync.throw", "internal/sync.runtime_nanotime", "internal/sync.runtime_SemacquireMutex", "sync/atomic.AddInt32", "(*internal/sync.Mutex).Unlock", "internal/race.ReleaseMerge", "(*internal/sync.Mutex).unlockSlow", "internal/sync.fatal", "internal/sync.runtime_Semrelease", "sync/atomic.StoreUint32"], unfollowed := true, recurses := true, apart := false }
def JvanExtendedSaid : Prop := jvanExtendedRow.holds Try.pinned (OpenSpec.ofChange jvanExtendedSpec)

/-- ITS FALSE NEIGHBOUR: 'it returns false'. Refute it at one input. -/
def jvanExtendedWrong : ChangeSpec := { name := "jvanExtended", fn := fun _ => fun
  | [d1, d2, d3] => { results := [.lit (.bool false)], args := [d1, d2, d3] }
  | _ => none }
def JvanExtendedWrongFalsely : Prop := jvanExtendedRow.holds Try.pinned (OpenSpec.ofChange jvanExtendedWrong)

/-- 'gambrellaw08.CauchyTells': WHATEVER THE INPUT: true; the input reads as it did. -/
def cauchyTellsSpec : ChangeSpec := { name := "cauchyTells", fn := fun _ => fun
  | [d1, d2, d3] => { results := [.lit (.bool true)], args := [d1, d2, d3] }
  | _ => none }
def cauchyTellsRow : OpenClaim := { program := "ytaeljbdpjiciaaa", sum := "36305d92c02d5fbdbf97e4cd7d9289974c15f4b07216398afa01cd0223a8635d", func := "gambrel/gambrellaw08.CauchyTells", spec := "cauchyTells", inPlace := ["sync/atomic.LoadUint32", "(*internal/sync.Mutex).Lock", "internal/race.Disable", "sync/atomic.CompareAndSwapInt32", "internal/race.Enable", "internal/race.Acquire", "(*internal/sync.Mutex).lockSlow", "internal/sync.runtime_canSpin", "internal/sync.runtime_doSpin", "internal/sync.throw", "internal/sync.runtime_nanotime", "internal/sync.runtime_SemacquireMutex", "sync/atomic.AddInt32", "(*internal/sync.Mutex).Unlock", "internal/race.ReleaseMerge", "(*internal/sync.Mutex).unlockSlow", "internal/sync.fatal", "internal/sync.runtime_Semrelease", "sync/atomic.StoreUint32"], unfollowed := true, recurses := true, apart := false }
def CauchyTellsSaid : Prop := cauchyTellsRow.holds Try.pinned (OpenSpec.ofChange cauchyTellsSpec)

/-- ITS FALSE NEIGHBOUR: 'it returns false'. Refute it at one input. -/
def cauchyTellsWrong : ChangeSpec := { name := "cauchyTells", fn := fun _ => fun
  | [d1, d2, d3] => { results := [.lit (.bool false)], args := [d1, d2, d3] }
  | _ => none }
def CauchyTellsWrongFalsely : Prop := cauchyTellsRow.holds Try.pinned (OpenSpec.ofChange cauchyTellsWrong)

/-- 'gambrellaw07.JvanAny': WHATEVER THE INPUT: true; the input reads as it did. -/
def jvanAnySpec : ChangeSpec := { name := "jvanAny", fn := fun _ => fun
  | [d1, d2, d3] => { results := [.lit (.bool true)], args := [d1, d2, d3] }
  | _ => none }
def jvanAnyRow : OpenClaim := { program := "ytaeljbdpjiciaaa", sum := "36305d92c02d5fbdbf97e4cd7d9289974c15f4b07216398afa01cd0223a8635d", func := "gambrel/gambrellaw07.JvanAny", spec := "jvanAny", inPlace := ["sync/atomic.LoadUint32", "(*internal/sync.Mutex).Lock", "internal/race.Disable", "sync/atomic.CompareAndSwapInt32", "internal/race.Enable", "internal/race.Acquire", "(*internal/sync.Mutex).lockSlow", "internal/sync.runtime_canSpin", "internal/sync.runtime_doSpin", "internal/sync.throw", "internal/sync.runtime_nanotime", "internal/sync.runtime_SemacquireMutex", "sync/atomic.AddInt32", "(*internal/sync.Mutex).Unlock", "internal/race.ReleaseMerge", "(*internal/sync.Mutex).unlockSlow", "internal/sync.fatal", "internal/sync.runtime_Semrelease", "sync/atomic.StoreUint32"], unfollowed := true, recurses := true, apart := false }
def JvanAnySaid : Prop := jvanAnyRow.holds Try.pinned (OpenSpec.ofChange jvanAnySpec)

/-- ITS FALSE NEIGHBOUR: 'it returns false'. Refute it at one input. -/
def jvanAnyWrong : ChangeSpec := { name := "jvanAny", fn := fun _ => fun
  | [d1, d2, d3] => { results := [.lit (.bool false)], args := [d1, d2, d3] }
  | _ => none }
def JvanAnyWrongFalsely : Prop := jvanAnyRow.holds Try.pinned (OpenSpec.ofChange jvanAnyWrong)

/-- 'gambrellaw07.JvanScaled': WHATEVER THE INPUT: true; the input reads as it did. -/
def jvanScaledSpec : ChangeSpec := { name := "jvanScaled", fn := fun _ => fun
  | [d1, d2, d3] => { results := [.lit (.bool true)], args := [d1, d2, d3] }
  | _ => none }
def jvanScaledRow : OpenClaim := { program := "ytaeljbdpjiciaaa", sum := "36305d92c02d5fbdbf97e4cd7d9289974c15f4b07216398afa01cd0223a8635d", func := "gambrel/gambrellaw07.JvanScaled", spec := "jvanScaled", inPlace := ["sync/atomic.LoadUint32", "(*internal/sync.Mutex).Lock", "internal/race.Disable", "sync/atomic.CompareAndSwapInt32", "internal/race.Enable", "internal/race.Acquire", "(*internal/sync.Mutex).lockSlow", "internal/sync.runtime_canSpin", "internal/sync.runtime_doSpin", "internal/sync.throw", "internal/sync.runtime_nanotime", "internal/sync.runtime_SemacquireMutex", "sync/atomic.AddInt32", "(*internal/sync.Mutex).Unlock", "internal/race.ReleaseMerge", "(*internal/sync.Mutex).unlockSlow", "internal/sync.fatal", "internal/sync.runtime_Semrelease", "sync/atomic.StoreUint32"], unfollowed := true, recurses := true, apart := false }
def JvanScaledSaid : Prop := jvanScaledRow.holds Try.pinned (OpenSpec.ofChange jvanScaledSpec)

/-- ITS FALSE NEIGHBOUR: 'it returns false'. Refute it at one input. -/
def jvanScaledWrong : ChangeSpec := { name := "jvanScaled", fn := fun _ => fun
  | [d1, d2, d3] => { results := [.lit (.bool false)], args := [d1, d2, d3] }
  | _ => none }
def JvanScaledWrongFalsely : Prop := jvanScaledRow.holds Try.pinned (OpenSpec.ofChange jvanScaledWrong)

/-- 'gambrellaw08.CauchyOthers': WHATEVER THE INPUT: true; the input reads as it did. -/
def cauchyOthersSpec : ChangeSpec := { name := "cauchyOthers", fn := fun _ => fun
  | [d1, d2, d3] => { results := [.lit (.bool true)], args := [d1, d2, d3] }
  | _ => none }
def cauchyOthersRow : OpenClaim := { program := "ytaeljbdpjiciaaa", sum := "36305d92c02d5fbdbf97e4cd7d9289974c15f4b07216398afa01cd0223a8635d", func := "gambrel/gambrellaw08.CauchyOthers", spec := "cauchyOthers", inPlace := ["sync/atomic.LoadUint32", "(*internal/sync.Mutex).Lock", "internal/race.Disable", "sync/atomic.CompareAndSwapInt32", "internal/race.Enable", "internal/race.Acquire", "(*internal/sync.Mutex).lockSlow", "internal/sync.runtime_canSpin", "internal/sync.runtime_doSpin", "internal/sync.throw", "internal/sync.runtime_nanotime", "internal/sync.runtime_SemacquireMutex", "sync/atomic.AddInt32", "(*internal/sync.Mutex).Unlock", "internal/race.ReleaseMerge", "(*internal/sync.Mutex).unlockSlow", "internal/sync.fatal", "internal/sync.runtime_Semrelease", "sync/atomic.StoreUint32"], unfollowed := true, recurses := true, apart := false }
def CauchyOthersSaid : Prop := cauchyOthersRow.holds Try.pinned (OpenSpec.ofChange cauchyOthersSpec)

/-- ITS FALSE NEIGHBOUR: 'it returns false'. Refute it at one input. -/
def cauchyOthersWrong : ChangeSpec := { name := "cauchyOthers", fn := fun _ => fun
  | [d1, d2, d3] => { results := [.lit (.bool false)], args := [d1, d2, d3] }
  | _ => none }
def CauchyOthersWrongFalsely : Prop := cauchyOthersRow.holds Try.pinned (OpenSpec.ofChange cauchyOthersWrong)

/- THE SECOND FORM. 'bulk': how many values and letters a reading holds, each counted each time it is reached (what is shared counts as often as it is met; a slice's spare places count too). A statement '..UptoSaid' is the law's where the arguments, and the package variables that the reading takes, are together of bulk at most 1048576: NARROWER than '..Said'. Prove '..Said' where nothing that the law and all that it calls make is longer than what came in: it says more and counts as full. Else prove '..UptoSaid'. A law counts once. -/
mutual
def uptoBulk {H : Type} : DataW H → Nat
  | .lit (.string bytes) => bytes.length + 1
  | .lit _ => 1
  | .nil => 1
  | .ptr d => uptoBulk d + 1
  | .slice elems spare => uptoBulkAll elems + uptoBulkAll spare + 1
  | .agg parts => uptoBulkAll parts + 1
  | .iface _ d => uptoBulk d + 1
  | .map entries => uptoBulkEntries entries + 1
  | .held _ => 1
def uptoBulkAll {H : Type} : List (DataW H) → Nat
  | [] => 0
  | d :: r => uptoBulk d + uptoBulkAll r
def uptoBulkEntries {H : Type} : List (Lit × DataW H) → Nat
  | [] => 0
  | x :: r => uptoBulkEntry x + uptoBulkEntries r
def uptoBulkEntry {H : Type} : Lit × DataW H → Nat
  | (.string bytes, d) => bytes.length + uptoBulk d + 1
  | (_, d) => uptoBulk d + 1
 end
def uptoSmall : (H : Type) → List (DataW H) → Bool := fun _ ds => decide (uptoBulkAll ds ≤ 1048576)
def OpenSpec.upto (s : _root_.Go.ChangeSpec) : _root_.Go.OpenSpec := { _root_.Go.OpenSpec.ofChange s with cond := some uptoSmall }

/-- 'gambrellaw07.JvanTells', WHERE WHAT IT READS IS OF BULK AT MOST 1048576: true; the input reads as it did. -/
def jvanTellsUptoRow : OpenClaim := { program := "ytaeljbdpjiciaaa", sum := "36305d92c02d5fbdbf97e4cd7d9289974c15f4b07216398afa01cd0223a8635d", func := "gambrel/gambrellaw07.JvanTells", spec := "jvanTells", inPlace := ["sync/atomic.LoadUint32", "(*internal/sync.Mutex).Lock", "internal/race.Disable", "sync/atomic.CompareAndSwapInt32", "internal/race.Enable", "internal/race.Acquire", "(*internal/sync.Mutex).lockSlow", "internal/sync.runtime_canSpin", "internal/sync.runtime_doSpin", "internal/sync.throw", "internal/sync.runtime_nanotime", "internal/sync.runtime_SemacquireMutex", "sync/atomic.AddInt32", "(*internal/sync.Mutex).Unlock", "internal/race.ReleaseMerge", "(*internal/sync.Mutex).unlockSlow", "internal/sync.fatal", "internal/sync.runtime_Semrelease", "sync/atomic.StoreUint32"], unfollowed := true, recurses := true, apart := false, narrowed := true }
def JvanTellsUptoSaid : Prop := jvanTellsUptoRow.holds Try.pinned (OpenSpec.upto jvanTellsSpec)

/-- 'gambrellaw07.JvanOnes', WHERE WHAT IT READS IS OF BULK AT MOST 1048576: true; the input reads as it did. -/
def jvanOnesUptoRow : OpenClaim := { program := "ytaeljbdpjiciaaa", sum := "36305d92c02d5fbdbf97e4cd7d9289974c15f4b07216398afa01cd0223a8635d", func := "gambrel/gambrellaw07.JvanOnes", spec := "jvanOnes", inPlace := ["sync/atomic.LoadUint32", "(*internal/sync.Mutex).Lock", "internal/race.Disable", "sync/atomic.CompareAndSwapInt32", "internal/race.Enable", "internal/race.Acquire", "(*internal/sync.Mutex).lockSlow", "internal/sync.runtime_canSpin", "internal/sync.runtime_doSpin", "internal/sync.throw", "internal/sync.runtime_nanotime", "internal/sync.runtime_SemacquireMutex", "sync/atomic.AddInt32", "(*internal/sync.Mutex).Unlock", "internal/race.ReleaseMerge", "(*internal/sync.Mutex).unlockSlow", "internal/sync.fatal", "internal/sync.runtime_Semrelease", "sync/atomic.StoreUint32"], unfollowed := true, recurses := true, apart := false, narrowed := true }
def JvanOnesUptoSaid : Prop := jvanOnesUptoRow.holds Try.pinned (OpenSpec.upto jvanOnesSpec)

/-- 'gambrellaw07.JvanNobody', WHERE WHAT IT READS IS OF BULK AT MOST 1048576: true; the input reads as it did. -/
def jvanNobodyUptoRow : OpenClaim := { program := "ytaeljbdpjiciaaa", sum := "36305d92c02d5fbdbf97e4cd7d9289974c15f4b07216398afa01cd0223a8635d", func := "gambrel/gambrellaw07.JvanNobody", spec := "jvanNobody", inPlace := ["sync/atomic.LoadUint32", "(*internal/sync.Mutex).Lock", "internal/race.Disable", "sync/atomic.CompareAndSwapInt32", "internal/race.Enable", "internal/race.Acquire", "(*internal/sync.Mutex).lockSlow", "internal/sync.runtime_canSpin", "internal/sync.runtime_doSpin", "internal/sync.throw", "internal/sync.runtime_nanotime", "internal/sync.runtime_SemacquireMutex", "sync/atomic.AddInt32", "(*internal/sync.Mutex).Unlock", "internal/race.ReleaseMerge", "(*internal/sync.Mutex).unlockSlow", "internal/sync.fatal", "internal/sync.runtime_Semrelease", "sync/atomic.StoreUint32"], unfollowed := true, recurses := true, apart := false, narrowed := true }
def JvanNobodyUptoSaid : Prop := jvanNobodyUptoRow.holds Try.pinned (OpenSpec.upto jvanNobodySpec)

/-- 'gambrellaw08.CauchyAll', WHERE WHAT IT READS IS OF BULK AT MOST 1048576: true; the input reads as it did. -/
def cauchyAllUptoRow : OpenClaim := { program := "ytaeljbdpjiciaaa", sum := "36305d92c02d5fbdbf97e4cd7d9289974c15f4b07216398afa01cd0223a8635d", func := "gambrel/gambrellaw08.CauchyAll", spec := "cauchyAll", inPlace := ["sync/atomic.LoadUint32", "(*internal/sync.Mutex).Lock", "internal/race.Disable", "sync/atomic.CompareAndSwapInt32", "internal/race.Enable", "internal/race.Acquire", "(*internal/sync.Mutex).lockSlow", "internal/sync.runtime_canSpin", "internal/sync.runtime_doSpin", "internal/sync.throw", "internal/sync.runtime_nanotime", "internal/sync.runtime_SemacquireMutex", "sync/atomic.AddInt32", "(*internal/sync.Mutex).Unlock", "internal/race.ReleaseMerge", "(*internal/sync.Mutex).unlockSlow", "internal/sync.fatal", "internal/sync.runtime_Semrelease", "sync/atomic.StoreUint32"], unfollowed := true, recurses := true, apart := false, narrowed := true }
def CauchyAllUptoSaid : Prop := cauchyAllUptoRow.holds Try.pinned (OpenSpec.upto cauchyAllSpec)

/-- 'gambrellaw08.CauchySquares', WHERE WHAT IT READS IS OF BULK AT MOST 1048576: true; the input reads as it did. -/
def cauchySquaresUptoRow : OpenClaim := { program := "ytaeljbdpjiciaaa", sum := "36305d92c02d5fbdbf97e4cd7d9289974c15f4b07216398afa01cd0223a8635d", func := "gambrel/gambrellaw08.CauchySquares", spec := "cauchySquares", inPlace := ["sync/atomic.LoadUint32", "(*internal/sync.Mutex).Lock", "internal/race.Disable", "sync/atomic.CompareAndSwapInt32", "internal/race.Enable", "internal/race.Acquire", "(*internal/sync.Mutex).lockSlow", "internal/sync.runtime_canSpin", "internal/sync.runtime_doSpin", "internal/sync.throw", "internal/sync.runtime_nanotime", "internal/sync.runtime_SemacquireMutex", "sync/atomic.AddInt32", "(*internal/sync.Mutex).Unlock", "internal/race.ReleaseMerge", "(*internal/sync.Mutex).unlockSlow", "internal/sync.fatal", "internal/sync.runtime_Semrelease", "sync/atomic.StoreUint32"], unfollowed := true, recurses := true, apart := false, narrowed := true }
def CauchySquaresUptoSaid : Prop := cauchySquaresUptoRow.holds Try.pinned (OpenSpec.upto cauchySquaresSpec)

/-- 'gambrellaw08.CauchyTurned', WHERE WHAT IT READS IS OF BULK AT MOST 1048576: true; the input reads as it did. -/
def cauchyTurnedUptoRow : OpenClaim := { program := "ytaeljbdpjiciaaa", sum := "36305d92c02d5fbdbf97e4cd7d9289974c15f4b07216398afa01cd0223a8635d", func := "gambrel/gambrellaw08.CauchyTurned", spec := "cauchyTurned", inPlace := ["sync/atomic.LoadUint32", "(*internal/sync.Mutex).Lock", "internal/race.Disable", "sync/atomic.CompareAndSwapInt32", "internal/race.Enable", "internal/race.Acquire", "(*internal/sync.Mutex).lockSlow", "internal/sync.runtime_canSpin", "internal/sync.runtime_doSpin", "internal/sync.throw", "internal/sync.runtime_nanotime", "internal/sync.runtime_SemacquireMutex", "sync/atomic.AddInt32", "(*internal/sync.Mutex).Unlock", "internal/race.ReleaseMerge", "(*internal/sync.Mutex).unlockSlow", "internal/sync.fatal", "internal/sync.runtime_Semrelease", "sync/atomic.StoreUint32"], unfollowed := true, recurses := true, apart := false, narrowed := true }
def CauchyTurnedUptoSaid : Prop := cauchyTurnedUptoRow.holds Try.pinned (OpenSpec.upto cauchyTurnedSpec)

/-- 'gambrellaw07.JvanExtended', WHERE WHAT IT READS IS OF BULK AT MOST 1048576: true; the input reads as it did. -/
def jvanExtendedUptoRow : OpenClaim := { program := "ytaeljbdpjiciaaa", sum := "36305d92c02d5fbdbf97e4cd7d9289974c15f4b07216398afa01cd0223a8635d", func := "gambrel/gambrellaw07.JvanExtended", spec := "jvanExtended", inPlace := ["sync/atomic.LoadUint32", "(*internal/sync.Mutex).Lock", "internal/race.Disable", "sync/atomic.CompareAndSwapInt32", "internal/race.Enable", "internal/race.Acquire", "(*internal/sync.Mutex).lockSlow", "internal/sync.runtime_canSpin", "internal/sync.runtime_doSpin", "internal/sync.throw", "internal/sync.runtime_nanotime", "internal/sync.runtime_SemacquireMutex", "sync/atomic.AddInt32", "(*internal/sync.Mutex).Unlock", "internal/race.ReleaseMerge", "(*internal/sync.Mutex).unlockSlow", "internal/sync.fatal", "internal/sync.runtime_Semrelease", "sync/atomic.StoreUint32"], unfollowed := true, recurses := true, apart := false, narrowed := true }
def JvanExtendedUptoSaid : Prop := jvanExtendedUptoRow.holds Try.pinned (OpenSpec.upto jvanExtendedSpec)

/-- 'gambrellaw08.CauchyTells', WHERE WHAT IT READS IS OF BULK AT MOST 1048576: true; the input reads as it did. -/
def cauchyTellsUptoRow : OpenClaim := { program := "ytaeljbdpjiciaaa", sum := "36305d92c02d5fbdbf97e4cd7d9289974c15f4b07216398afa01cd0223a8635d", func := "gambrel/gambrellaw08.CauchyTells", spec := "cauchyTells", inPlace := ["sync/atomic.LoadUint32", "(*internal/sync.Mutex).Lock", "internal/race.Disable", "sync/atomic.CompareAndSwapInt32", "internal/race.Enable", "internal/race.Acquire", "(*internal/sync.Mutex).lockSlow", "internal/sync.runtime_canSpin", "internal/sync.runtime_doSpin", "internal/sync.throw", "internal/sync.runtime_nanotime", "internal/sync.runtime_SemacquireMutex", "sync/atomic.AddInt32", "(*internal/sync.Mutex).Unlock", "internal/race.ReleaseMerge", "(*internal/sync.Mutex).unlockSlow", "internal/sync.fatal", "internal/sync.runtime_Semrelease", "sync/atomic.StoreUint32"], unfollowed := true, recurses := true, apart := false, narrowed := true }
def CauchyTellsUptoSaid : Prop := cauchyTellsUptoRow.holds Try.pinned (OpenSpec.upto cauchyTellsSpec)

/-- 'gambrellaw07.JvanAny', WHERE WHAT IT READS IS OF BULK AT MOST 1048576: true; the input reads as it did. -/
def jvanAnyUptoRow : OpenClaim := { program := "ytaeljbdpjiciaaa", sum := "36305d92c02d5fbdbf97e4cd7d9289974c15f4b07216398afa01cd0223a8635d", func := "gambrel/gambrellaw07.JvanAny", spec := "jvanAny", inPlace := ["sync/atomic.LoadUint32", "(*internal/sync.Mutex).Lock", "internal/race.Disable", "sync/atomic.CompareAndSwapInt32", "internal/race.Enable", "internal/race.Acquire", "(*internal/sync.Mutex).lockSlow", "internal/sync.runtime_canSpin", "internal/sync.runtime_doSpin", "internal/sync.throw", "internal/sync.runtime_nanotime", "internal/sync.runtime_SemacquireMutex", "sync/atomic.AddInt32", "(*internal/sync.Mutex).Unlock", "internal/race.ReleaseMerge", "(*internal/sync.Mutex).unlockSlow", "internal/sync.fatal", "internal/sync.runtime_Semrelease", "sync/atomic.StoreUint32"], unfollowed := true, recurses := true, apart := false, narrowed := true }
def JvanAnyUptoSaid : Prop := jvanAnyUptoRow.holds Try.pinned (OpenSpec.upto jvanAnySpec)

/-- 'gambrellaw07.JvanScaled', WHERE WHAT IT READS IS OF BULK AT MOST 1048576: true; the input reads as it did. -/
def jvanScaledUptoRow : OpenClaim := { program := "ytaeljbdpjiciaaa", sum := "36305d92c02d5fbdbf97e4cd7d9289974c15f4b07216398afa01cd0223a8635d", func := "gambrel/gambrellaw07.JvanScaled", spec := "jvanScaled", inPlace := ["sync/atomic.LoadUint32", "(*internal/sync.Mutex).Lock", "internal/race.Disable", "sync/atomic.CompareAndSwapInt32", "internal/race.Enable", "internal/race.Acquire", "(*internal/sync.Mutex).lockSlow", "internal/sync.runtime_canSpin", "internal/sync.runtime_doSpin", "internal/sync.throw", "internal/sync.runtime_nanotime", "internal/sync.runtime_SemacquireMutex", "sync/atomic.AddInt32", "(*internal/sync.Mutex).Unlock", "internal/race.ReleaseMerge", "(*internal/sync.Mutex).unlockSlow", "internal/sync.fatal", "internal/sync.runtime_Semrelease", "sync/atomic.StoreUint32"], unfollowed := true, recurses := true, apart := false, narrowed := true }
def JvanScaledUptoSaid : Prop := jvanScaledUptoRow.holds Try.pinned (OpenSpec.upto jvanScaledSpec)

/-- 'gambrellaw08.CauchyOthers', WHERE WHAT IT READS IS OF BULK AT MOST 1048576: true; the input reads as it did. -/
def cauchyOthersUptoRow : OpenClaim := { program := "ytaeljbdpjiciaaa", sum := "36305d92c02d5fbdbf97e4cd7d9289974c15f4b07216398afa01cd0223a8635d", func := "gambrel/gambrellaw08.CauchyOthers", spec := "cauchyOthers", inPlace := ["sync/atomic.LoadUint32", "(*internal/sync.Mutex).Lock", "internal/race.Disable", "sync/atomic.CompareAndSwapInt32", "internal/race.Enable", "internal/race.Acquire", "(*internal/sync.Mutex).lockSlow", "internal/sync.runtime_canSpin", "internal/sync.runtime_doSpin", "internal/sync.throw", "internal/sync.runtime_nanotime", "internal/sync.runtime_SemacquireMutex", "sync/atomic.AddInt32", "(*internal/sync.Mutex).Unlock", "internal/race.ReleaseMerge", "(*internal/sync.Mutex).unlockSlow", "internal/sync.fatal", "internal/sync.runtime_Semrelease", "sync/atomic.StoreUint32"], unfollowed := true, recurses := true, apart := false, narrowed := true }
def CauchyOthersUptoSaid : Prop := cauchyOthersUptoRow.holds Try.pinned (OpenSpec.upto cauchyOthersSpec)

end Rows
end Go.Proofs.Ytaeljbdpjiciaaa
