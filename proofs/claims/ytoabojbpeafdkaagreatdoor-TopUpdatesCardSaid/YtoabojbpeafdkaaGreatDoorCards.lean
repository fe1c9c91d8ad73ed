/-
  DERIVED. GIVEN WITH THE SEED: THE CARDS: each row of YtoabojbpeafdkaaGreatDoorRows.lean that lists a variable, with what it lists TIED to the program's text (the seventh form; the later family's looks); each row that meets fmt, with fmt's text TOLD by the authors' own Lean function (tested against real Go, not proved from fmt's source: count such statements apart). THE CARD IS WHAT COUNTS. Prove the row's statement (the work); the ties are given (YtoabojbpeafdkaaGreatDoorTie.lean); close each card by the builder's one call (the guide's Derived/Test/ToyasCard.lean, 'card_holds'). Laid BY PROGRAM, IN A SANDBOX (cutbox-door.mjs). By AI agents, Wed Nov 11 2026. No macro, syntax, notation, axiom, sorry.
-/
import Derived.Test.YtoabojbpeafdkaaGreatDoorRows
import GoSem.ClaimSeven
namespace Go.Proofs.YtoabojbpeafdkaaGreatDoor
namespace Rows

/-- THE TIED CARD OF 'gambreltop.TopChain'. -/
def topChainCard : Claim7 := { stood := { row := topChainRow, standIns := [], harness := (true, "ec249240f22800d6b4ea908e1c79384449e85661a25bde71dc5b7e4f5f0c620b"), looks := true }, kinds := [], alts := [], laidByText := true, laidKinds := [.data, .data, .data, .data, .sentinel, .sentinel, .sentinel, .pinned], laidTests := true, laidLooks := .later }
def TopChainCardSaid : Prop := Claim7.holds Tryz.pinned (.plain (OpenSpec.ofChange topChainSpec)) topChainCard

/-- THE TIED CARD OF 'gambreltop.TopLayers'. -/
def topLayersCard : Claim7 := { stood := { row := topLayersRow, standIns := [], harness := (true, "ec249240f22800d6b4ea908e1c79384449e85661a25bde71dc5b7e4f5f0c620b"), looks := true }, kinds := [], alts := [], laidByText := true, laidKinds := [.data, .data, .data, .data, .sentinel, .sentinel, .sentinel, .pinned], laidTests := true, laidLooks := .later }
def TopLayersCardSaid : Prop := Claim7.holds Tryz.pinned (.plain (OpenSpec.ofChange topLayersSpec)) topLayersCard

/-- THE TIED CARD OF 'gambreltop.TopUpdates'. -/
def topUpdatesCard : Claim7 := { stood := { row := topUpdatesRow, standIns := [], harness := (true, "ec249240f22800d6b4ea908e1c79384449e85661a25bde71dc5b7e4f5f0c620b"), looks := true }, kinds := [], alts := [], laidByText := true, laidKinds := [.data, .data, .data, .data, .sentinel, .sentinel, .sentinel, .pinned], laidTests := true, laidLooks := .later }
def TopUpdatesCardSaid : Prop := Claim7.holds Tryz.pinned (.plain (OpenSpec.ofChange topUpdatesSpec)) topUpdatesCard

/-- THE SECOND FORM's CARD OF 'gambreltop.TopChain'. -/
def topChainUptoCard : Claim7 := { stood := { row := topChainUptoRow, standIns := [], harness := (true, "ec249240f22800d6b4ea908e1c79384449e85661a25bde71dc5b7e4f5f0c620b"), looks := true }, kinds := [], alts := [], laidByText := true, laidKinds := [.data, .data, .data, .data, .sentinel, .sentinel, .sentinel, .pinned], laidTests := true, laidLooks := .later }
def TopChainUptoCardSaid : Prop := Claim7.holds Tryz.pinned (.plain (OpenSpec.upto topChainSpec)) topChainUptoCard

/-- THE SECOND FORM's CARD OF 'gambreltop.TopLayers'. -/
def topLayersUptoCard : Claim7 := { stood := { row := topLayersUptoRow, standIns := [], harness := (true, "ec249240f22800d6b4ea908e1c79384449e85661a25bde71dc5b7e4f5f0c620b"), looks := true }, kinds := [], alts := [], laidByText := true, laidKinds := [.data, .data, .data, .data, .sentinel, .sentinel, .sentinel, .pinned], laidTests := true, laidLooks := .later }
def TopLayersUptoCardSaid : Prop := Claim7.holds Tryz.pinned (.plain (OpenSpec.upto topLayersSpec)) topLayersUptoCard

/-- THE SECOND FORM's CARD OF 'gambreltop.TopUpdates'. -/
def topUpdatesUptoCard : Claim7 := { stood := { row := topUpdatesUptoRow, standIns := [], harness := (true, "ec249240f22800d6b4ea908e1c79384449e85661a25bde71dc5b7e4f5f0c620b"), looks := true }, kinds := [], alts := [], laidByText := true, laidKinds := [.data, .data, .data, .data, .sentinel, .sentinel, .sentinel, .pinned], laidTests := true, laidLooks := .later }
def TopUpdatesUptoCardSaid : Prop := Claim7.holds Tryz.pinned (.plain (OpenSpec.upto topUpdatesSpec)) topUpdatesUptoCard
end Rows
end Go.Proofs.YtoabojbpeafdkaaGreatDoor
