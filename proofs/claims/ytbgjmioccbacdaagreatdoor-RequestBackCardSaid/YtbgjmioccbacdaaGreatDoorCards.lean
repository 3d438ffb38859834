/-
  DERIVED. GIVEN WITH THE SEED: THE CARDS: each row of YtbgjmioccbacdaaGreatDoorRows.lean that lists a variable, with what it lists TIED to the program's text (the seventh form; the later family's looks); each row that meets fmt, with fmt's text TOLD by the authors' own Lean function (tested against real Go, not proved from fmt's source: count such statements apart). THE CARD IS WHAT COUNTS. Prove the row's statement (the work); the ties are given (YtbgjmioccbacdaaGreatDoorTie.lean); close each card by the builder's one call (the guide's Derived/Test/ToyasCard.lean, 'card_holds'). Laid BY PROGRAM, IN A SANDBOX (cutbox-door.mjs). By AI agents, Wed Nov 11 2026. No macro, syntax, notation, axiom, sorry.
-/
import Derived.Test.YtbgjmioccbacdaaGreatDoorRows
import GoSem.ClaimSeven
namespace Go.Proofs.YtbgjmioccbacdaaGreatDoor
namespace Rows

/-- THE TIED CARD OF 'certpathlaw19.RequestBack'. -/
def requestBackCard : Claim7 := { stood := { row := requestBackRow, standIns := [], harness := (true, "efe27963af82abb40326d89823ebca85bc3cda66b429ecc8b4f47de56bcfd07d"), looks := false }, kinds := [], alts := [], laidByText := true, laidKinds := [.data, .data, .data, .data, .pinned], laidTests := true, laidLooks := .later }
def RequestBackCardSaid : Prop := Claim7.holds Tryz.pinned (.plain (OpenSpec.ofChange requestBackSpec)) requestBackCard

/-- THE SECOND FORM's CARD OF 'certpathlaw19.RequestBack'. -/
def requestBackUptoCard : Claim7 := { stood := { row := requestBackUptoRow, standIns := [], harness := (true, "efe27963af82abb40326d89823ebca85bc3cda66b429ecc8b4f47de56bcfd07d"), looks := false }, kinds := [], alts := [], laidByText := true, laidKinds := [.data, .data, .data, .data, .pinned], laidTests := true, laidLooks := .later }
def RequestBackUptoCardSaid : Prop := Claim7.holds Tryz.pinned (.plain (OpenSpec.upto requestBackSpec)) requestBackUptoCard
end Rows
end Go.Proofs.YtbgjmioccbacdaaGreatDoor
