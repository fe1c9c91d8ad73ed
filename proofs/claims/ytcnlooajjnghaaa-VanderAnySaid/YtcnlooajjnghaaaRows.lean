/-
  No cell of these rows narrows 'for every input' (looked for: loops, veiled, ifaces, maps, wideKeys, modest, calm, conditions, laid).
  DERIVED. THE GIVEN ROWS OF THIS SEAT. 10 by the template 'for every input the law returns true; each argument reads behind the call as it read before'; 0 by the template 'total and deterministic' (their statements: YtcnlooajjnghaaaTotals.lean).
  GIVEN WITH THE SEED: the statements are not yours to turn. If you find one false, say at which input.
  Laid BY PROGRAM, IN A SANDBOX (cutbox-rows.mjs): the forced cells as the released guide's own fill.sh prints them over the translation 6cccaddcd627607d… (all of the seat's roots in one cut). By AI agents, Wed Nov 11 2026. No macro, syntax, notation, axiom, sorry.
-/
import Derived.Test.YtcnlooajjnghaaaChecked
import GoSem.Claim
import GoSem.ClaimJoined
import GoSem.ClaimMapViews
import Derived.JoinedTies
import Derived.KernelRfl
namespace Go.Proofs.Ytcnlooajjnghaaa
/- THE CELL 'sum', in the pinned program and in every row, IS THE sha256 OF THE DUMP (.gsa) THAT YtcnlooajjnghaaaProg.lean LOADS. Nothing in Lean hashes anything: it is a label: what it is worth is what the hold of that sum in a sandbox is worth. -/
noncomputable def Try.pinned : Pinned := { name := "ytcnlooajjnghaaa", sum := "6cccaddcd627607dfe3493e752125a9fb080a1d8fe47f1ddb59fefa6144ef21a", checked := Try.checked }
namespace Rows
def none {H : Type} : Left H := { results := [], args := [] }

/-- 'gambrellaw05.InvertVander': WHATEVER THE INPUT: true; the input reads as it did. -/
def invertVanderSpec : ChangeSpec := { name := "invertVander", fn := fun _ => fun
  | [d1, d2] => { results := [.lit (.bool true)], args := [d1, d2] }
  | _ => none }
def invertVanderRow : OpenClaim := { program := "ytcnlooajjnghaaa", sum := "6cccaddcd627607dfe3493e752125a9fb080a1d8fe47f1ddb59fefa6144ef21a", func := "gambrel/gambrellaw05.InvertVander", spec := "invertVander", inPlace := ["sync/atomic.LoadUint32", "(*internal/sync.Mutex).Lock", "internal/race.Disable", "sync/atomic.CompareAndSwapInt32", "internal/race.Enable", "internal/race.Acquire", "(*internal/sync.Mutex).lockSlow", "internal/sync.runtime_canSpin", "internal/sync.runtime_doSpin", "internal/sync.throw", "internal/sync.runtime_nanotime", "internal/sync.runtime_SemacquireMutex", "sync/atomic.AddInt32", "(*internal/sync.Mutex).Unlock", "internal/race.ReleaseMerge", "(*internal/sync.Mutex).unlockSlow", "internal/sync.fatal", "internal/sync.runtime_Semrelease", "sync/atomic.StoreUint32"], unfollowed := true, recurses := true, apart := false }
def InvertVanderSaid : Prop := invertVanderRow.holds Try.pinned (OpenSpec.ofChange invertVanderSpec)

/-- ITS FALSE NEIGHBOUR: 'it returns false'. Refute it at one input. -/
def invertVanderWrong : ChangeSpec := { name := "invertVander", fn := fun _ => fun
  | [d1, d2] => { results := [.lit (.bool false)], args := [d1, d2] }
  | _ => none }
def InvertVanderWrongFalsely : Prop := invertVanderRow.holds Try.pinned (OpenSpec.ofChange invertVanderWrong)

/-- 'gambrellaw05.InvertRank': WHATEVER THE INPUT: true; the input reads as it did. -/
def invertRankSpec : ChangeSpec := { name := "invertRank", fn := fun _ => fun
  | [d1, d2] => { results := [.lit (.bool true)], args := [d1, d2] }
  | _ => none }
def invertRankRow : OpenClaim := { program := "ytcnlooajjnghaaa", sum := "6cccaddcd627607dfe3493e752125a9fb080a1d8fe47f1ddb59fefa6144ef21a", func := "gambrel/gambrellaw05.InvertRank", spec := "invertRank", inPlace := ["sync/atomic.LoadUint32", "(*internal/sync.Mutex).Lock", "internal/race.Disable", "sync/atomic.CompareAndSwapInt32", "internal/race.Enable", "internal/race.Acquire", "(*internal/sync.Mutex).lockSlow", "internal/sync.runtime_canSpin", "internal/sync.runtime_doSpin", "internal/sync.throw", "internal/sync.runtime_nanotime", "internal/sync.runtime_SemacquireMutex", "sync/atomic.AddInt32", "(*internal/sync.Mutex).Unlock", "internal/race.ReleaseMerge", "(*internal/sync.Mutex).unlockSlow", "internal/sync.fatal", "internal/sync.runtime_Semrelease", "sync/atomic.StoreUint32"], unfollowed := true, recurses := true, apart := false }
def InvertRankSaid : Prop := invertRankRow.holds Try.pinned (OpenSpec.ofChange invertRankSpec)

/-- ITS FALSE NEIGHBOUR: 'it returns false'. Refute it at one input. -/
def invertRankWrong : ChangeSpec := { name := "invertRank", fn := fun _ => fun
  | [d1, d2] => { results := [.lit (.bool false)], args := [d1, d2] }
  | _ => none }
def InvertRankWrongFalsely : Prop := invertRankRow.holds Try.pinned (OpenSpec.ofChange invertRankWrong)

/-- 'gambrellaw05.InvertBack': WHATEVER THE INPUT: true; the input reads as it did. -/
def invertBackSpec : ChangeSpec := { name := "invertBack", fn := fun _ => fun
  | [d1, d2] => { results := [.lit (.bool true)], args := [d1, d2] }
  | _ => none }
def invertBackRow : OpenClaim := { program := "ytcnlooajjnghaaa", sum := "6cccaddcd627607dfe3493e752125a9fb080a1d8fe47f1ddb59fefa6144ef21a", func := "gambrel/gambrellaw05.InvertBack", spec := "invertBack", inPlace := ["sync/atomic.LoadUint32", "(*internal/sync.Mutex).Lock", "internal/race.Disable", "sync/atomic.CompareAndSwapInt32", "internal/race.Enable", "internal/race.Acquire", "(*internal/sync.Mutex).lockSlow", "internal/sync.runtime_canSpin", "internal/sync.runtime_doSpin", "internal/sync.throw", "internal/sync.runtime_nanotime", "internal/sync.runtime_SemacquireMutex", "sync/atomic.AddInt32", "(*internal/sync.Mutex).Unlock", "internal/race.ReleaseMerge", "(*internal/sync.Mutex).unlockSlow", "internal/sync.fatal", "internal/sync.runtime_Semrelease", "sync/atomic.StoreUint32"], unfollowed := true, recurses := true, apart := false }
def InvertBackSaid : Prop := invertBackRow.holds Try.pinned (OpenSpec.ofChange invertBackSpec)

/-- ITS FALSE NEIGHBOUR: 'it returns false'. Refute it at one input. -/
def invertBackWrong : ChangeSpec := { name := "invertBack", fn := fun _ => fun
  | [d1, d2] => { results := [.lit (.bool false)], args := [d1, d2] }
  | _ => none }
def InvertBackWrongFalsely : Prop := invertBackRow.holds Try.pinned (OpenSpec.ofChange invertBackWrong)

/-- 'gambrellaw05.InvertProduct': WHATEVER THE INPUT: true; the input reads as it did. -/
def invertProductSpec : ChangeSpec := { name := "invertProduct", fn := fun _ => fun
  | [d1, d2] => { results := [.lit (.bool true)], args := [d1, d2] }
  | _ => none }
def invertProductRow : OpenClaim := { program := "ytcnlooajjnghaaa", sum := "6cccaddcd627607dfe3493e752125a9fb080a1d8fe47f1ddb59fefa6144ef21a", func := "gambrel/gambrellaw05.InvertProduct", spec := "invertProduct", inPlace := ["sync/atomic.LoadUint32", "(*internal/sync.Mutex).Lock", "internal/race.Disable", "sync/atomic.CompareAndSwapInt32", "internal/race.Enable", "internal/race.Acquire", "(*internal/sync.Mutex).lockSlow", "internal/sync.runtime_canSpin", "internal/sync.runtime_doSpin", "internal/sync.throw", "internal/sync.runtime_nanotime", "internal/sync.runtime_SemacquireMutex", "sync/atomic.AddInt32", "(*internal/sync.Mutex).Unlock", "internal/race.ReleaseMerge", "(*internal/sync.Mutex).unlockSlow", "internal/sync.fatal", "internal/sync.runtime_Semrelease", "sync/atomic.StoreUint32"], unfollowed := true, recurses := true, apart := false }
def InvertProductSaid : Prop := invertProductRow.holds Try.pinned (OpenSpec.ofChange invertProductSpec)

/-- ITS FALSE NEIGHBOUR: 'it returns false'. Refute it at one input. -/
def invertProductWrong : ChangeSpec := { name := "invertProduct", fn := fun _ => fun
  | [d1, d2] => { results := [.lit (.bool false)], args := [d1, d2] }
  | _ => none }
def InvertProductWrongFalsely : Prop := invertProductRow.holds Try.pinned (OpenSpec.ofChange invertProductWrong)

/-- 'gambrellaw06.VanderIsal': WHATEVER THE INPUT: true; the input reads as it did. -/
def vanderIsalSpec : ChangeSpec := { name := "vanderIsal", fn := fun _ => fun
  | [d1, d2, d3] => { results := [.lit (.bool true)], args := [d1, d2, d3] }
  | _ => none }
def vanderIsalRow : OpenClaim := { program := "ytcnlooajjnghaaa", sum := "6cccaddcd627607dfe3493e752125a9fb080a1d8fe47f1ddb59fefa6144ef21a", func := "gambrel/gambrellaw06.VanderIsal", spec := "vanderIsal", inPlace := ["sync/atomic.LoadUint32", "(*internal/sync.Mutex).Lock", "internal/race.Disable", "sync/atomic.CompareAndSwapInt32", "internal/race.Enable", "internal/race.Acquire", "(*internal/sync.Mutex).lockSlow", "internal/sync.runtime_canSpin", "internal/sync.runtime_doSpin", "internal/sync.throw", "internal/sync.runtime_nanotime", "internal/sync.runtime_SemacquireMutex", "sync/atomic.AddInt32", "(*internal/sync.Mutex).Unlock", "internal/race.ReleaseMerge", "(*internal/sync.Mutex).unlockSlow", "internal/sync.fatal", "internal/sync.runtime_Semrelease", "sync/atomic.StoreUint32"], unfollowed := true, recurses := true, apart := false }
def VanderIsalSaid : Prop := vanderIsalRow.holds Try.pinned (OpenSpec.ofChange vanderIsalSpec)

/-- ITS FALSE NEIGHBOUR: 'it returns false'. Refute it at one input. -/
def vanderIsalWrong : ChangeSpec := { name := "vanderIsal", fn := fun _ => fun
  | [d1, d2, d3] => { results := [.lit (.bool false)], args := [d1, d2, d3] }
  | _ => none }
def VanderIsalWrongFalsely : Prop := vanderIsalRow.holds Try.pinned (OpenSpec.ofChange vanderIsalWrong)

/-- 'gambrellaw05.InvertSolves': WHATEVER THE INPUT: true; the input reads as it did. -/
def invertSolvesSpec : ChangeSpec := { name := "invertSolves", fn := fun _ => fun
  | [d1, d2, d3] => { results := [.lit (.bool true)], args := [d1, d2, d3] }
  | _ => none }
def invertSolvesRow : OpenClaim := { program := "ytcnlooajjnghaaa", sum := "6cccaddcd627607dfe3493e752125a9fb080a1d8fe47f1ddb59fefa6144ef21a", func := "gambrel/gambrellaw05.InvertSolves", spec := "invertSolves", inPlace := ["sync/atomic.LoadUint32", "(*internal/sync.Mutex).Lock", "internal/race.Disable", "sync/atomic.CompareAndSwapInt32", "internal/race.Enable", "internal/race.Acquire", "(*internal/sync.Mutex).lockSlow", "internal/sync.runtime_canSpin", "internal/sync.runtime_doSpin", "internal/sync.throw", "internal/sync.runtime_nanotime", "internal/sync.runtime_SemacquireMutex", "sync/atomic.AddInt32", "(*internal/sync.Mutex).Unlock", "internal/race.ReleaseMerge", "(*internal/sync.Mutex).unlockSlow", "internal/sync.fatal", "internal/sync.runtime_Semrelease", "sync/atomic.StoreUint32"], unfollowed := true, recurses := true, apart := false }
def InvertSolvesSaid : Prop := invertSolvesRow.holds Try.pinned (OpenSpec.ofChange invertSolvesSpec)

/-- ITS FALSE NEIGHBOUR: 'it returns false'. Refute it at one input. -/
def invertSolvesWrong : ChangeSpec := { name := "invertSolves", fn := fun _ => fun
  | [d1, d2, d3] => { results := [.lit (.bool false)], args := [d1, d2, d3] }
  | _ => none }
def InvertSolvesWrongFalsely : Prop := invertSolvesRow.holds Try.pinned (OpenSpec.ofChange invertSolvesWrong)

/-- 'gambrellaw06.VanderRows': WHATEVER THE INPUT: true; the input reads as it did. -/
def vanderRowsSpec : ChangeSpec := { name := "vanderRows", fn := fun _ => fun
  | [d1, d2, d3] => { results := [.lit (.bool true)], args := [d1, d2, d3] }
  | _ => none }
def vanderRowsRow : OpenClaim := { program := "ytcnlooajjnghaaa", sum := "6cccaddcd627607dfe3493e752125a9fb080a1d8fe47f1ddb59fefa6144ef21a", func := "gambrel/gambrellaw06.VanderRows", spec := "vanderRows", inPlace := ["sync/atomic.LoadUint32", "(*internal/sync.Mutex).Lock", "internal/race.Disable", "sync/atomic.CompareAndSwapInt32", "internal/race.Enable", "internal/race.Acquire", "(*internal/sync.Mutex).lockSlow", "internal/sync.runtime_canSpin", "internal/sync.runtime_doSpin", "internal/sync.throw", "internal/sync.runtime_nanotime", "internal/sync.runtime_SemacquireMutex", "sync/atomic.AddInt32", "(*internal/sync.Mutex).Unlock", "internal/race.ReleaseMerge", "(*internal/sync.Mutex).unlockSlow", "internal/sync.fatal", "internal/sync.runtime_Semrelease", "sync/atomic.StoreUint32"], unfollowed := true, recurses := true, apart := false }
def VanderRowsSaid : Prop := vanderRowsRow.holds Try.pinned (OpenSpec.ofChange vanderRowsSpec)

/-- ITS FALSE NEIGHBOUR: 'it returns false'. Refute it at one input. -/
def vanderRowsWrong : ChangeSpec := { name := "vanderRows", fn := fun _ => fun
  | [d1, d2, d3] => { results := [.lit (.bool false)], args := [d1, d2, d3] }
  | _ => none }
def VanderRowsWrongFalsely : Prop := vanderRowsRow.holds Try.pinned (OpenSpec.ofChange vanderRowsWrong)

/-- 'gambrellaw06.VanderFirst': WHATEVER THE INPUT: true; the input reads as it did. -/
def vanderFirstSpec : ChangeSpec := { name := "vanderFirst", fn := fun _ => fun
  | [d1, d2, d3] => { results := [.lit (.bool true)], args := [d1, d2, d3] }
  | _ => none }
def vanderFirstRow : OpenClaim := { program := "ytcnlooajjnghaaa", sum := "6cccaddcd627607dfe3493e752125a9fb080a1d8fe47f1ddb59fefa6144ef21a", func := "gambrel/gambrellaw06.VanderFirst", spec := "vanderFirst", inPlace := ["sync/atomic.LoadUint32", "(*internal/sync.Mutex).Lock", "internal/race.Disable", "sync/atomic.CompareAndSwapInt32", "internal/race.Enable", "internal/race.Acquire", "(*internal/sync.Mutex).lockSlow", "internal/sync.runtime_canSpin", "internal/sync.runtime_doSpin", "internal/sync.throw", "internal/sync.runtime_nanotime", "internal/sync.runtime_SemacquireMutex", "sync/atomic.AddInt32", "(*internal/sync.Mutex).Unlock", "internal/race.ReleaseMerge", "(*internal/sync.Mutex).unlockSlow", "internal/sync.fatal", "internal/sync.runtime_Semrelease", "sync/atomic.StoreUint32"], unfollowed := true, recurses := true, apart := false }
def VanderFirstSaid : Prop := vanderFirstRow.holds Try.pinned (OpenSpec.ofChange vanderFirstSpec)

/-- ITS FALSE NEIGHBOUR: 'it returns false'. Refute it at one input. -/
def vanderFirstWrong : ChangeSpec := { name := "vanderFirst", fn := fun _ => fun
  | [d1, d2, d3] => { results := [.lit (.bool false)], args := [d1, d2, d3] }
  | _ => none }
def VanderFirstWrongFalsely : Prop := vanderFirstRow.holds Try.pinned (OpenSpec.ofChange vanderFirstWrong)

/-- 'gambrellaw06.VanderNobody': WHATEVER THE INPUT: true; the input reads as it did. -/
def vanderNobodySpec : ChangeSpec := { name := "vanderNobody", fn := fun _ => fun
  | [d1, d2] => { results := [.lit (.bool true)], args := [d1, d2] }
  | _ => none }
def vanderNobodyRow : OpenClaim := { program := "ytcnlooajjnghaaa", sum := "6cccaddcd627607dfe3493e752125a9fb080a1d8fe47f1ddb59fefa6144ef21a", func := "gambrel/gambrellaw06.VanderNobody", spec := "vanderNobody", inPlace := ["sync/atomic.LoadUint32", "(*internal/sync.Mutex).Lock", "internal/race.Disable", "sync/atomic.CompareAndSwapInt32", "internal/race.Enable", "internal/race.Acquire", "(*internal/sync.Mutex).lockSlow", "internal/sync.runtime_canSpin", "internal/sync.runtime_doSpin", "internal/sync.throw", "internal/sync.runtime_nanotime", "internal/sync.runtime_SemacquireMutex", "sync/atomic.AddInt32", "(*internal/sync.Mutex).Unlock", "internal/race.ReleaseMerge", "(*internal/sync.Mutex).unlockSlow", "internal/sync.fatal", "internal/sync.runtime_Semrelease", "sync/atomic.StoreUint32"], unfollowed := true, recurses := true, apart := false }
def VanderNobodySaid : Prop := vanderNobodyRow.holds Try.pinned (OpenSpec.ofChange vanderNobodySpec)

/-- ITS FALSE NEIGHBOUR: 'it returns false'. Refute it at one input. -/
def vanderNobodyWrong : ChangeSpec := { name := "vanderNobody", fn := fun _ => fun
  | [d1, d2] => { results := [.lit (.bool false)], args := [d1, d2] }
  | _ => none }
def VanderNobodyWrongFalsely : Prop := vanderNobodyRow.holds Try.pinned (OpenSpec.ofChange vanderNobodyWrong)

/-- 'gambrellaw06.VanderAny': WHATEVER THE INPUT: true; the input reads as it did. -/
def vanderAnySpec : ChangeSpec := { name := "vanderAny", fn := fun _ => fun
  | [d1, d2, d3] => { results := [.lit (.bool true)], args := [d1, d2, d3] }
  | _ => none }
def vanderAnyRow : OpenClaim := { program := "ytcnlooajjnghaaa", sum := "6cccaddcd627607dfe3493e752125a9fb080a1d8fe47f1ddb59fefa6144ef21a", func := "gambrel/gambrellaw06.VanderAny", spec := "vanderAny", inPlace := ["sync/atomic.LoadUint32", "(*internal/sync.Mutex).Lock", "internal/race.Disable", "sync/atomic.CompareAndSwapInt32", "internal/race.Enable", "internal/race.Acquire", "(*internal/sync.Mutex).lockSlow", "internal/sync.runtime_canSpin", "internal/sync.runtime_doSpin", "internal/sync.throw", "internal/sync.runtime_nanotime", "internal/sync.runtime_SemacquireMutex", "sync/atomic.AddInt32", "(*internal/sync.Mutex).Unlock", "internal/race.ReleaseMerge", "(*internal/sync.Mutex).unlockSlow", "internal/sync.fatal", "internal/sync.runtime_Semrelease", "sync/atomic.StoreUint32"], unfollowed := true, recurses := true, apart := false }
def VanderAnySaid : Prop := vanderAnyRow.holds Try.pinned (OpenSpec.ofChange vanderAnySpec)

/-- ITS FALSE NEIGHBOUR: 'it returns false'. Refute it at one input. -/
def vanderAnyWrong : ChangeSpec := { name := "vanderAny", fn := fun _ => fun
  | [d1, d2, d3] => { results := [.lit (.bool false)], args := [d1, d2, d3] }
  | _ => none }
def VanderAnyWrongFalsely : Prop := vanderAnyRow.holds Try.pinned (OpenSpec.ofChange vanderAnyWrong)

/- THE SECOND FORM. 'bulk': how many values and letters a reading holds, each counted each time it is reached (what is shared counts as often as it is met; a slice's spare places count too). A statement '..UptoSaid' is the law's where the arguments, and the package variables that the reading takes, are together of bulk at most 1048576: NARROWER than '..Said'. Prove '..Said' where nothing that the law and all that it calls make is longer than what came in: it says more and counts as full. Else prove '..UptoSaid'. A law counts once. -/
mutual
def uptoBulk {H : Type} : DataW H → Nat
  | .lit (.string bytes) => bytes.length + 1
  | .lit _ => 1
  | .nil => 1
  | .ptr d => uptoBulk d + 1
  | .slice elems spare => uptoBulkAll elems + uptoBulkAll spare + 1
  | .agg parts => uptoBulkAll parts + 1
  | .iface _ d => uptoBulk d + 1
  | .map entries => uptoBulkEntries entries + 1
  | .held _ => 1
def uptoBulkAll {H : Type} : List (DataW H) → Nat
  | [] => 0
  | d :: r => uptoBulk d + uptoBulkAll r
def uptoBulkEntries {H : Type} : List (Lit × DataW H) → Nat
  | [] => 0
  | x :: r => uptoBulkEntry x + uptoBulkEntries r
def uptoBulkEntry {H : Type} : Lit × DataW H → Nat
  | (.string bytes, d) => bytes.length + uptoBulk d + 1
  | (_, d) => uptoBulk d + 1
 end
def uptoSmall : (H : Type) → List (DataW H) → Bool := fun _ ds => decide (uptoBulkAll ds ≤ 1048576)
def OpenSpec.upto (s : _root_.Go.ChangeSpec) : _root_.Go.OpenSpec := { _root_.Go.OpenSpec.ofChange s with cond := some uptoSmall }

/-- 'gambrellaw05.InvertVander', WHERE WHAT IT READS IS OF BULK AT MOST 1048576: true; the input reads as it did. -/
def invertVanderUptoRow : OpenClaim := { program := "ytcnlooajjnghaaa", sum := "6cccaddcd627607dfe3493e752125a9fb080a1d8fe47f1ddb59fefa6144ef21a", func := "gambrel/gambrellaw05.InvertVander", spec := "invertVander", inPlace := ["sync/atomic.LoadUint32", "(*internal/sync.Mutex).Lock", "internal/race.Disable", "sync/atomic.CompareAndSwapInt32", "internal/race.Enable", "internal/race.Acquire", "(*internal/sync.Mutex).lockSlow", "internal/sync.runtime_canSpin", "internal/sync.runtime_doSpin", "internal/sync.throw", "internal/sync.runtime_nanotime", "internal/sync.runtime_SemacquireMutex", "sync/atomic.AddInt32", "(*internal/sync.Mutex).Unlock", "internal/race.ReleaseMerge", "(*internal/sync.Mutex).unlockSlow", "internal/sync.fatal", "internal/sync.runtime_Semrelease", "sync/atomic.StoreUint32"], unfollowed := true, recurses := true, apart := false, narrowed := true }
def InvertVanderUptoSaid : Prop := invertVanderUptoRow.holds Try.pinned (OpenSpec.upto invertVanderSpec)

/-- 'gambrellaw05.InvertRank', WHERE WHAT IT READS IS OF BULK AT MOST 1048576: true; the input reads as it did. -/
def invertRankUptoRow : OpenClaim := { program := "ytcnlooajjnghaaa", sum := "6cccaddcd627607dfe3493e752125a9fb080a1d8fe47f1ddb59fefa6144ef21a", func := "gambrel/gambrellaw05.InvertRank", spec := "invertRank", inPlace := ["sync/atomic.LoadUint32", "(*internal/sync.Mutex).Lock", "internal/race.Disable", "sync/atomic.CompareAndSwapInt32", "internal/race.Enable", "internal/race.Acquire", "(*internal/sync.Mutex).lockSlow", "internal/sync.runtime_canSpin", "internal/sync.runtime_doSpin", "internal/sync.throw", "internal/sync.runtime_nanotime", "internal/sync.runtime_SemacquireMutex", "sync/atomic.AddInt32", "(*internal/sync.Mutex).Unlock", "internal/race.ReleaseMerge", "(*internal/sync.Mutex).unlockSlow", "internal/sync.fatal", "internal/sync.runtime_Semrelease", "sync/atomic.StoreUint32"], unfollowed := true, recurses := true, apart := false, narrowed := true }
def InvertRankUptoSaid : Prop := invertRankUptoRow.holds Try.pinned (OpenSpec.upto invertRankSpec)

/-- 'gambrellaw05.InvertBack', WHERE WHAT IT READS IS OF BULK AT MOST 1048576: true; the input reads as it did. -/
def invertBackUptoRow : OpenClaim := { program := "ytcnlooajjnghaaa", sum := "6cccaddcd627607dfe3493e752125a9fb080a1d8fe47f1ddb59fefa6144ef21a", func := "gambrel/gambrellaw05.InvertBack", spec := "invertBack", inPlace := ["sync/atomic.LoadUint32", "(*internal/sync.Mutex).Lock", "internal/race.Disable", "sync/atomic.CompareAndSwapInt32", "internal/race.Enable", "internal/race.Acquire", "(*internal/sync.Mutex).lockSlow", "internal/sync.runtime_canSpin", "internal/sync.runtime_doSpin", "internal/sync.throw", "internal/sync.runtime_nanotime", "internal/sync.runtime_SemacquireMutex", "sync/atomic.AddInt32", "(*internal/sync.Mutex).Unlock", "internal/race.ReleaseMerge", "(*internal/sync.Mutex).unlockSlow", "internal/sync.fatal", "internal/sync.runtime_Semrelease", "sync/atomic.StoreUint32"], unfollowed := true, recurses := true, apart := false, narrowed := true }
def InvertBackUptoSaid : Prop := invertBackUptoRow.holds Try.pinned (OpenSpec.upto invertBackSpec)

/-- 'gambrellaw05.InvertProduct', WHERE WHAT IT READS IS OF BULK AT MOST 1048576: true; the input reads as it did. -/
def invertProductUptoRow : OpenClaim := { program := "ytcnlooajjnghaaa", sum := "6cccaddcd627607dfe3493e752125a9fb080a1d8fe47f1ddb59fefa6144ef21a", func := "gambrel/gambrellaw05.InvertProduct", spec := "invertProduct", inPlace := ["sync/atomic.LoadUint32", "(*internal/sync.Mutex).Lock", "internal/race.Disable", "sync/atomic.CompareAndSwapInt32", "internal/race.Enable", "internal/race.Acquire", "(*internal/sync.Mutex).lockSlow", "internal/sync.runtime_canSpin", "internal/sync.runtime_doSpin", "internal/sync.throw", "internal/sync.runtime_nanotime", "internal/sync.runtime_SemacquireMutex", "sync/atomic.AddInt32", "(*internal/sync.Mutex).Unlock", "internal/race.ReleaseMerge", "(*internal/sync.Mutex).unlockSlow", "internal/sync.fatal", "internal/sync.runtime_Semrelease", "sync/atomic.StoreUint32"], unfollowed := true, recurses := true, apart := false, narrowed := true }
def InvertProductUptoSaid : Prop := invertProductUptoRow.holds Try.pinned (OpenSpec.upto invertProductSpec)

/-- 'gambrellaw06.VanderIsal', WHERE WHAT IT READS IS OF BULK AT MOST 1048576: true; the input reads as it did. -/
def vanderIsalUptoRow : OpenClaim := { program := "ytcnlooajjnghaaa", sum := "6cccaddcd627607dfe3493e752125a9fb080a1d8fe47f1ddb59fefa6144ef21a", func := "gambrel/gambrellaw06.VanderIsal", spec := "vanderIsal", inPlace := ["sync/atomic.LoadUint32", "(*internal/sync.Mutex).Lock", "internal/race.Disable", "sync/atomic.CompareAndSwapInt32", "internal/race.Enable", "internal/race.Acquire", "(*internal/sync.Mutex).lockSlow", "internal/sync.runtime_canSpin", "internal/sync.runtime_doSpin", "internal/sync.throw", "internal/sync.runtime_nanotime", "internal/sync.runtime_SemacquireMutex", "sync/atomic.AddInt32", "(*internal/sync.Mutex).Unlock", "internal/race.ReleaseMerge", "(*internal/sync.Mutex).unlockSlow", "internal/sync.fatal", "internal/sync.runtime_Semrelease", "sync/atomic.StoreUint32"], unfollowed := true, recurses := true, apart := false, narrowed := true }
def VanderIsalUptoSaid : Prop := vanderIsalUptoRow.holds Try.pinned (OpenSpec.upto vanderIsalSpec)

/-- 'gambrellaw05.InvertSolves', WHERE WHAT IT READS IS OF BULK AT MOST 1048576: true; the input reads as it did. -/
def invertSolvesUptoRow : OpenClaim := { program := "ytcnlooajjnghaaa", sum := "6cccaddcd627607dfe3493e752125a9fb080a1d8fe47f1ddb59fefa6144ef21a", func := "gambrel/gambrellaw05.InvertSolves", spec := "invertSolves", inPlace := ["sync/atomic.LoadUint32", "(*internal/sync.Mutex).Lock", "internal/race.Disable", "sync/atomic.CompareAndSwapInt32", "internal/race.Enable", "internal/race.Acquire", "(*internal/sync.Mutex).lockSlow", "internal/sync.runtime_canSpin", "internal/sync.runtime_doSpin", "internal/sync.throw", "internal/sync.runtime_nanotime", "internal/sync.runtime_SemacquireMutex", "sync/atomic.AddInt32", "(*internal/sync.Mutex).Unlock", "internal/race.ReleaseMerge", "(*internal/sync.Mutex).unlockSlow", "internal/sync.fatal", "internal/sync.runtime_Semrelease", "sync/atomic.StoreUint32"], unfollowed := true, recurses := true, apart := false, narrowed := true }
def InvertSolvesUptoSaid : Prop := invertSolvesUptoRow.holds Try.pinned (OpenSpec.upto invertSolvesSpec)

/-- 'gambrellaw06.VanderRows', WHERE WHAT IT READS IS OF BULK AT MOST 1048576: true; the input reads as it did. -/
def vanderRowsUptoRow : OpenClaim := { program := "ytcnlooajjnghaaa", sum := "6cccaddcd627607dfe3493e752125a9fb080a1d8fe47f1ddb59fefa6144ef21a", func := "gambrel/gambrellaw06.VanderRows", spec := "vanderRows", inPlace := ["sync/atomic.LoadUint32", "(*internal/sync.Mutex).Lock", "internal/race.Disable", "sync/atomic.CompareAndSwapInt32", "internal/race.Enable", "internal/race.Acquire", "(*internal/sync.Mutex).lockSlow", "internal/sync.runtime_canSpin", "internal/sync.runtime_doSpin", "internal/sync.throw", "internal/sync.runtime_nanotime", "internal/sync.runtime_SemacquireMutex", "sync/atomic.AddInt32", "(*internal/sync.Mutex).Unlock", "internal/race.ReleaseMerge", "(*internal/sync.Mutex).unlockSlow", "internal/sync.fatal", "internal/sync.runtime_Semrelease", "sync/atomic.StoreUint32"], unfollowed := true, recurses := true, apart := false, narrowed := true }
def VanderRowsUptoSaid : Prop := vanderRowsUptoRow.holds Try.pinned (OpenSpec.upto vanderRowsSpec)

/-- 'gambrellaw06.VanderFirst', WHERE WHAT IT READS IS OF BULK AT MOST 1048576: true; the input reads as it did. -/
def vanderFirstUptoRow : OpenClaim := { program := "ytcnlooajjnghaaa", sum := "6cccaddcd627607dfe3493e752125a9fb080a1d8fe47f1ddb59fefa6144ef21a", func := "gambrel/gambrellaw06.VanderFirst", spec := "vanderFirst", inPlace := ["sync/atomic.LoadUint32", "(*internal/sync.Mutex).Lock", "internal/race.Disable", "sync/atomic.CompareAndSwapInt32", "internal/race.Enable", "internal/race.Acquire", "(*internal/sync.Mutex).lockSlow", "internal/sync.runtime_canSpin", "internal/sync.runtime_doSpin", "internal/sync.throw", "internal/sync.runtime_nanotime", "internal/sync.runtime_SemacquireMutex", "sync/atomic.AddInt32", "(*internal/sync.Mutex).Unlock", "internal/race.ReleaseMerge", "(*internal/sync.Mutex).unlockSlow", "internal/sync.fatal", "internal/sync.runtime_Semrelease", "sync/atomic.StoreUint32"], unfollowed := true, recurses := true, apart := false, narrowed := true }
def VanderFirstUptoSaid : Prop := vanderFirstUptoRow.holds Try.pinned (OpenSpec.upto vanderFirstSpec)

/-- 'gambrellaw06.VanderNobody', WHERE WHAT IT READS IS OF BULK AT MOST 1048576: true; the input reads as it did. -/
def vanderNobodyUptoRow : OpenClaim := { program := "ytcnlooajjnghaaa", sum := "6cccaddcd627607dfe3493e752125a9fb080a1d8fe47f1ddb59fefa6144ef21a", func := "gambrel/gambrellaw06.VanderNobody", spec := "vanderNobody", inPlace := ["sync/atomic.LoadUint32", "(*internal/sync.Mutex).Lock", "internal/race.Disable", "sync/atomic.CompareAndSwapInt32", "internal/race.Enable", "internal/race.Acquire", "(*internal/sync.Mutex).lockSlow", "internal/sync.runtime_canSpin", "internal/sync.runtime_doSpin", "internal/sync.throw", "internal/sync.runtime_nanotime", "internal/sync.runtime_SemacquireMutex", "sync/atomic.AddInt32", "(*internal/sync.Mutex).Unlock", "internal/race.ReleaseMerge", "(*internal/sync.Mutex).unlockSlow", "internal/sync.fatal", "internal/sync.runtime_Semrelease", "sync/atomic.StoreUint32"], unfollowed := true, recurses := true, apart := false, narrowed := true }
def VanderNobodyUptoSaid : Prop := vanderNobodyUptoRow.holds Try.pinned (OpenSpec.upto vanderNobodySpec)

/-- 'gambrellaw06.VanderAny', WHERE WHAT IT READS IS OF BULK AT MOST 1048576: true; the input reads as it did. -/
def vanderAnyUptoRow : OpenClaim := { program := "ytcnlooajjnghaaa", sum := "6cccaddcd627607dfe3493e752125a9fb080a1d8fe47f1ddb59fefa6144ef21a", func := "gambrel/gambrellaw06.VanderAny", spec := "vanderAny", inPlace := ["sync/atomic.LoadUint32", "(*internal/sync.Mutex).Lock", "internal/race.Disable", "sync/atomic.CompareAndSwapInt32", "internal/race.Enable", "internal/race.Acquire", "(*internal/sync.Mutex).lockSlow", "internal/sync.runtime_canSpin", "internal/sync.runtime_doSpin", "internal/sync.throw", "internal/sync.runtime_nanotime", "internal/sync.runtime_SemacquireMutex", "sync/atomic.AddInt32", "(*internal/sync.Mutex).Unlock", "internal/race.ReleaseMerge", "(*internal/sync.Mutex).unlockSlow", "internal/sync.fatal", "internal/sync.runtime_Semrelease", "sync/atomic.StoreUint32"], unfollowed := true, recurses := true, apart := false, narrowed := true }
def VanderAnyUptoSaid : Prop := vanderAnyUptoRow.holds Try.pinned (OpenSpec.upto vanderAnySpec)

end Rows
end Go.Proofs.Ytcnlooajjnghaaa
