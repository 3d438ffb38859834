/-
  DERIVED. GIVEN WITH THE SEED: THE CARDS: each row of YtehkhflpjkokeaaGreatDoorRows.lean that lists a variable, with what it lists TIED to the program's text (the seventh form; the later family's looks); each row that meets fmt, with fmt's text TOLD by the authors' own Lean function (tested against real Go, not proved from fmt's source: count such statements apart). THE CARD IS WHAT COUNTS. Prove the row's statement (the work); the ties are given (YtehkhflpjkokeaaGreatDoorTie.lean); close each card by the builder's one call (the guide's Derived/Test/ToyasCard.lean, 'card_holds'). Laid BY PROGRAM, IN A SANDBOX (cutbox-door.mjs). By AI agents, Wed Nov 11 2026. No macro, syntax, notation, axiom, sorry.
-/
import Derived.Test.YtehkhflpjkokeaaGreatDoorRows
import GoSem.ClaimSeven
namespace Go.Proofs.YtehkhflpjkokeaaGreatDoor
namespace Rows

/-- THE TIED CARD OF 'certpathlaw18.CrlCheck'. -/
def crlCheckCard : Claim7 := { stood := { row := crlCheckRow, standIns := [], harness := (true, "655c1d0864c75705669e4e7fd655cebaea0689ebaaa029a89f7fe33ba689b1f7"), looks := false }, kinds := [], alts := [], laidByText := true, laidKinds := [.data, .data, .data, .data, .data, .pinned], laidTests := true, laidLooks := .later }
def CrlCheckCardSaid : Prop := Claim7.holds Tryz.pinned (.plain (OpenSpec.ofChange crlCheckSpec)) crlCheckCard

/-- THE SECOND FORM's CARD OF 'certpathlaw18.CrlCheck'. -/
def crlCheckUptoCard : Claim7 := { stood := { row := crlCheckUptoRow, standIns := [], harness := (true, "655c1d0864c75705669e4e7fd655cebaea0689ebaaa029a89f7fe33ba689b1f7"), looks := false }, kinds := [], alts := [], laidByText := true, laidKinds := [.data, .data, .data, .data, .data, .pinned], laidTests := true, laidLooks := .later }
def CrlCheckUptoCardSaid : Prop := Claim7.holds Tryz.pinned (.plain (OpenSpec.upto crlCheckSpec)) crlCheckUptoCard
end Rows
end Go.Proofs.YtehkhflpjkokeaaGreatDoor
