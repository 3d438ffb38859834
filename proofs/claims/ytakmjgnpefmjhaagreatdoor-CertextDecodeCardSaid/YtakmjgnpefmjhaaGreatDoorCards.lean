/-
  DERIVED. GIVEN WITH THE SEED: THE CARDS: each row of YtakmjgnpefmjhaaGreatDoorRows.lean that lists a variable, with what it lists TIED to the program's text (the seventh form; the later family's looks); each row that meets fmt, with fmt's text TOLD by the authors' own Lean function (tested against real Go, not proved from fmt's source: count such statements apart). THE CARD IS WHAT COUNTS. Prove the row's statement (the work); the ties are given (YtakmjgnpefmjhaaGreatDoorTie.lean); close each card by the builder's one call (the guide's Derived/Test/ToyasCard.lean, 'card_holds'). Laid BY PROGRAM, IN A SANDBOX (cutbox-door.mjs). By AI agents, Wed Nov 11 2026. No macro, syntax, notation, axiom, sorry.
-/
import Derived.Test.YtakmjgnpefmjhaaGreatDoorRows
import GoSem.ClaimSeven
namespace Go.Proofs.YtakmjgnpefmjhaaGreatDoor
namespace Rows

/-- THE TIED CARD OF 'certpathlaw16.CertextDecode'. -/
def certextDecodeCard : Claim7 := { stood := { row := certextDecodeRow, standIns := [], harness := (true, "66ac5d787ede922c1280e8387f69ab9c0769d1b6f4d735612e7b3b44304b13c1"), looks := false }, kinds := [], alts := [], laidByText := true, laidKinds := [.data, .data, .data, .data, .pinned], laidTests := true, laidLooks := .later }
def CertextDecodeCardSaid : Prop := Claim7.holds Tryz.pinned (.plain (OpenSpec.ofChange certextDecodeSpec)) certextDecodeCard

/-- THE SECOND FORM's CARD OF 'certpathlaw16.CertextDecode'. -/
def certextDecodeUptoCard : Claim7 := { stood := { row := certextDecodeUptoRow, standIns := [], harness := (true, "66ac5d787ede922c1280e8387f69ab9c0769d1b6f4d735612e7b3b44304b13c1"), looks := false }, kinds := [], alts := [], laidByText := true, laidKinds := [.data, .data, .data, .data, .pinned], laidTests := true, laidLooks := .later }
def CertextDecodeUptoCardSaid : Prop := Claim7.holds Tryz.pinned (.plain (OpenSpec.upto certextDecodeSpec)) certextDecodeUptoCard
end Rows
end Go.Proofs.YtakmjgnpefmjhaaGreatDoor
