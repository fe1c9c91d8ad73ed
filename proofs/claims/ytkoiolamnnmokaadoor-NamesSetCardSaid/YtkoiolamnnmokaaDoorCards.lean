/-
  DERIVED. GIVEN WITH THE SEED: THE CARDS: each row of YtkoiolamnnmokaaDoorRows.lean that lists a variable, with what it lists TIED to the program's text (the seventh form; the later family's looks); each row that meets fmt, with fmt's text TOLD by the authors' own Lean function (tested against real Go, not proved from fmt's source: count such statements apart). THE CARD IS WHAT COUNTS. Prove the row's statement (the work); the ties are given (YtkoiolamnnmokaaDoorTie.lean); close each card by the builder's one call (the guide's Derived/Test/ToyasCard.lean, 'card_holds'). Laid BY PROGRAM, IN A SANDBOX (cutbox-door.mjs). By AI agents, Wed Nov 11 2026. No macro, syntax, notation, axiom, sorry.
-/
import Derived.Test.YtkoiolamnnmokaaDoorRows
import GoSem.ClaimSeven
namespace Go.Proofs.YtkoiolamnnmokaaDoor
namespace Rows

/-- THE TIED CARD OF 'gambrellaw15.NamesRead'. -/
def namesReadCard : Claim7 := { stood := { row := namesReadRow, standIns := [], harness := (true, "b3e9b02e49b5ce47d18ae6442e39246f7c372cd0e65e8d3d3fab5aeb774d6629"), looks := false }, kinds := [], alts := [], laidByText := true, laidKinds := [.data, .pinned], laidTests := true, laidLooks := .later }
def NamesReadCardSaid : Prop := Claim7.holds Tryd.pinned (.plain (OpenSpec.ofChange namesReadSpec)) namesReadCard

/-- THE TIED CARD OF 'gambrellaw15.NamesOnes'. -/
def namesOnesCard : Claim7 := { stood := { row := namesOnesRow, standIns := [], harness := (true, "b3e9b02e49b5ce47d18ae6442e39246f7c372cd0e65e8d3d3fab5aeb774d6629"), looks := false }, kinds := [], alts := [], laidByText := true, laidKinds := [.data, .pinned], laidTests := true, laidLooks := .later }
def NamesOnesCardSaid : Prop := Claim7.holds Tryd.pinned (.plain (OpenSpec.ofChange namesOnesSpec)) namesOnesCard

/-- THE TIED CARD OF 'gambrellaw15.NamesApart'. -/
def namesApartCard : Claim7 := { stood := { row := namesApartRow, standIns := [], harness := (true, "b3e9b02e49b5ce47d18ae6442e39246f7c372cd0e65e8d3d3fab5aeb774d6629"), looks := false }, kinds := [], alts := [], laidByText := true, laidKinds := [.data, .pinned], laidTests := true, laidLooks := .later }
def NamesApartCardSaid : Prop := Claim7.holds Tryd.pinned (.plain (OpenSpec.ofChange namesApartSpec)) namesApartCard

/-- THE TIED CARD OF 'gambrellaw15.NamesBack'. -/
def namesBackCard : Claim7 := { stood := { row := namesBackRow, standIns := [], harness := (true, "b3e9b02e49b5ce47d18ae6442e39246f7c372cd0e65e8d3d3fab5aeb774d6629"), looks := false }, kinds := [], alts := [], laidByText := true, laidKinds := [.data, .pinned], laidTests := true, laidLooks := .later }
def NamesBackCardSaid : Prop := Claim7.holds Tryd.pinned (.plain (OpenSpec.ofChange namesBackSpec)) namesBackCard

/-- THE TIED CARD OF 'gambrellaw15.NamesTell'. -/
def namesTellCard : Claim7 := { stood := { row := namesTellRow, standIns := [], harness := (true, "b3e9b02e49b5ce47d18ae6442e39246f7c372cd0e65e8d3d3fab5aeb774d6629"), looks := false }, kinds := [], alts := [], laidByText := true, laidKinds := [.data, .pinned], laidTests := true, laidLooks := .later }
def NamesTellCardSaid : Prop := Claim7.holds Tryd.pinned (.plain (OpenSpec.ofChange namesTellSpec)) namesTellCard

/-- THE TIED CARD OF 'gambrellaw15.NamesSet'. -/
def namesSetCard : Claim7 := { stood := { row := namesSetRow, standIns := [], harness := (true, "b3e9b02e49b5ce47d18ae6442e39246f7c372cd0e65e8d3d3fab5aeb774d6629"), looks := false }, kinds := [], alts := [], laidByText := true, laidKinds := [.data, .pinned], laidTests := true, laidLooks := .later }
def NamesSetCardSaid : Prop := Claim7.holds Tryd.pinned (.plain (OpenSpec.ofChange namesSetSpec)) namesSetCard

/-- THE SECOND FORM's CARD OF 'gambrellaw15.NamesRead'. -/
def namesReadUptoCard : Claim7 := { stood := { row := namesReadUptoRow, standIns := [], harness := (true, "b3e9b02e49b5ce47d18ae6442e39246f7c372cd0e65e8d3d3fab5aeb774d6629"), looks := false }, kinds := [], alts := [], laidByText := true, laidKinds := [.data, .pinned], laidTests := true, laidLooks := .later }
def NamesReadUptoCardSaid : Prop := Claim7.holds Tryd.pinned (.plain (OpenSpec.upto namesReadSpec)) namesReadUptoCard

/-- THE SECOND FORM's CARD OF 'gambrellaw15.NamesOnes'. -/
def namesOnesUptoCard : Claim7 := { stood := { row := namesOnesUptoRow, standIns := [], harness := (true, "b3e9b02e49b5ce47d18ae6442e39246f7c372cd0e65e8d3d3fab5aeb774d6629"), looks := false }, kinds := [], alts := [], laidByText := true, laidKinds := [.data, .pinned], laidTests := true, laidLooks := .later }
def NamesOnesUptoCardSaid : Prop := Claim7.holds Tryd.pinned (.plain (OpenSpec.upto namesOnesSpec)) namesOnesUptoCard

/-- THE SECOND FORM's CARD OF 'gambrellaw15.NamesApart'. -/
def namesApartUptoCard : Claim7 := { stood := { row := namesApartUptoRow, standIns := [], harness := (true, "b3e9b02e49b5ce47d18ae6442e39246f7c372cd0e65e8d3d3fab5aeb774d6629"), looks := false }, kinds := [], alts := [], laidByText := true, laidKinds := [.data, .pinned], laidTests := true, laidLooks := .later }
def NamesApartUptoCardSaid : Prop := Claim7.holds Tryd.pinned (.plain (OpenSpec.upto namesApartSpec)) namesApartUptoCard

/-- THE SECOND FORM's CARD OF 'gambrellaw15.NamesBack'. -/
def namesBackUptoCard : Claim7 := { stood := { row := namesBackUptoRow, standIns := [], harness := (true, "b3e9b02e49b5ce47d18ae6442e39246f7c372cd0e65e8d3d3fab5aeb774d6629"), looks := false }, kinds := [], alts := [], laidByText := true, laidKinds := [.data, .pinned], laidTests := true, laidLooks := .later }
def NamesBackUptoCardSaid : Prop := Claim7.holds Tryd.pinned (.plain (OpenSpec.upto namesBackSpec)) namesBackUptoCard

/-- THE SECOND FORM's CARD OF 'gambrellaw15.NamesTell'. -/
def namesTellUptoCard : Claim7 := { stood := { row := namesTellUptoRow, standIns := [], harness := (true, "b3e9b02e49b5ce47d18ae6442e39246f7c372cd0e65e8d3d3fab5aeb774d6629"), looks := false }, kinds := [], alts := [], laidByText := true, laidKinds := [.data, .pinned], laidTests := true, laidLooks := .later }
def NamesTellUptoCardSaid : Prop := Claim7.holds Tryd.pinned (.plain (OpenSpec.upto namesTellSpec)) namesTellUptoCard

/-- THE SECOND FORM's CARD OF 'gambrellaw15.NamesSet'. -/
def namesSetUptoCard : Claim7 := { stood := { row := namesSetUptoRow, standIns := [], harness := (true, "b3e9b02e49b5ce47d18ae6442e39246f7c372cd0e65e8d3d3fab5aeb774d6629"), looks := false }, kinds := [], alts := [], laidByText := true, laidKinds := [.data, .pinned], laidTests := true, laidLooks := .later }
def NamesSetUptoCardSaid : Prop := Claim7.holds Tryd.pinned (.plain (OpenSpec.upto namesSetSpec)) namesSetUptoCard
end Rows
end Go.Proofs.YtkoiolamnnmokaaDoor
