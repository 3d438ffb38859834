/-
  DERIVED. GIVEN WITH THE SEED: THE CARDS: each row of YtacidcemomccpaaGreatDoorRows.lean that lists a variable, with what it lists TIED to the program's text (the seventh form; the later family's looks); each row that meets fmt, with fmt's text TOLD by the authors' own Lean function (tested against real Go, not proved from fmt's source: count such statements apart). THE CARD IS WHAT COUNTS. Prove the row's statement (the work); the ties are given (YtacidcemomccpaaGreatDoorTie.lean); close each card by the builder's one call (the guide's Derived/Test/ToyasCard.lean, 'card_holds'). Laid BY PROGRAM, IN A SANDBOX (cutbox-door.mjs). By AI agents, Wed Nov 11 2026. No macro, syntax, notation, axiom, sorry.
-/
import Derived.Test.YtacidcemomccpaaGreatDoorRows
import GoSem.ClaimSeven
namespace Go.Proofs.YtacidcemomccpaaGreatDoor
namespace Rows

/-- THE TIED CARD OF 'certpathlaw19.RequestCheck'. -/
def requestCheckCard : Claim7 := { stood := { row := requestCheckRow, standIns := [], harness := (true, "4c28c220404d22c39b2a23bade40a0f967c4222f99a09512d3d6f586012f161d"), looks := false }, kinds := [], alts := [], laidByText := true, laidKinds := [.data, .data, .data, .data, .pinned], laidTests := true, laidLooks := .later }
def RequestCheckCardSaid : Prop := Claim7.holds Tryz.pinned (.plain (OpenSpec.ofChange requestCheckSpec)) requestCheckCard

/-- THE SECOND FORM's CARD OF 'certpathlaw19.RequestCheck'. -/
def requestCheckUptoCard : Claim7 := { stood := { row := requestCheckUptoRow, standIns := [], harness := (true, "4c28c220404d22c39b2a23bade40a0f967c4222f99a09512d3d6f586012f161d"), looks := false }, kinds := [], alts := [], laidByText := true, laidKinds := [.data, .data, .data, .data, .pinned], laidTests := true, laidLooks := .later }
def RequestCheckUptoCardSaid : Prop := Claim7.holds Tryz.pinned (.plain (OpenSpec.upto requestCheckSpec)) requestCheckUptoCard
end Rows
end Go.Proofs.YtacidcemomccpaaGreatDoor
