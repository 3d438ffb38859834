/-
  DERIVED. GIVEN WITH THE SEED: THE CARDS: each row of YtmgpaalplkkpnaaGreatDoorRows.lean that lists a variable, with what it lists TIED to the program's text (the seventh form; the later family's looks); each row that meets fmt, with fmt's text TOLD by the authors' own Lean function (tested against real Go, not proved from fmt's source: count such statements apart). THE CARD IS WHAT COUNTS. Prove the row's statement (the work); the ties are given (YtmgpaalplkkpnaaGreatDoorTie.lean); close each card by the builder's one call (the guide's Derived/Test/ToyasCard.lean, 'card_holds'). Laid BY PROGRAM, IN A SANDBOX (cutbox-door.mjs). By AI agents, Wed Nov 11 2026. No macro, syntax, notation, axiom, sorry.
-/
import Derived.Test.YtmgpaalplkkpnaaGreatDoorRows
import GoSem.ClaimSeven
namespace Go.Proofs.YtmgpaalplkkpnaaGreatDoor
namespace Rows

/-- THE TIED CARD OF 'certpathlaw18.CrlCanonical'. -/
def crlCanonicalCard : Claim7 := { stood := { row := crlCanonicalRow, standIns := [], harness := (true, "b47363bcfeb9f3ea638c2cb032aea0c43f5006bfa9b5972632dd61c266c1c053"), looks := false }, kinds := [], alts := [], laidByText := true, laidKinds := [.data, .data, .data, .data, .data, .pinned], laidTests := true, laidLooks := .later }
def CrlCanonicalCardSaid : Prop := Claim7.holds Tryz.pinned (.plain (OpenSpec.ofChange crlCanonicalSpec)) crlCanonicalCard

/-- THE SECOND FORM's CARD OF 'certpathlaw18.CrlCanonical'. -/
def crlCanonicalUptoCard : Claim7 := { stood := { row := crlCanonicalUptoRow, standIns := [], harness := (true, "b47363bcfeb9f3ea638c2cb032aea0c43f5006bfa9b5972632dd61c266c1c053"), looks := false }, kinds := [], alts := [], laidByText := true, laidKinds := [.data, .data, .data, .data, .data, .pinned], laidTests := true, laidLooks := .later }
def CrlCanonicalUptoCardSaid : Prop := Claim7.holds Tryz.pinned (.plain (OpenSpec.upto crlCanonicalSpec)) crlCanonicalUptoCard
end Rows
end Go.Proofs.YtmgpaalplkkpnaaGreatDoor
