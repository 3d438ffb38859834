/-
  DERIVED. GIVEN WITH THE SEED: THE CARDS: each row of YtdihmdelaolelaaGreatDoorRows.lean that lists a variable, with what it lists TIED to the program's text (the seventh form; the later family's looks); each row that meets fmt, with fmt's text TOLD by the authors' own Lean function (tested against real Go, not proved from fmt's source: count such statements apart). THE CARD IS WHAT COUNTS. Prove the row's statement (the work); the ties are given (YtdihmdelaolelaaGreatDoorTie.lean); close each card by the builder's one call (the guide's Derived/Test/ToyasCard.lean, 'card_holds'). Laid BY PROGRAM, IN A SANDBOX (cutbox-door.mjs). By AI agents, Wed Nov 11 2026. No macro, syntax, notation, axiom, sorry.
-/
import Derived.Test.YtdihmdelaolelaaGreatDoorRows
import GoSem.ClaimSeven
namespace Go.Proofs.YtdihmdelaolelaaGreatDoor
namespace Rows

/-- THE TIED CARD OF 'certpathlaw17.CertCheck'. -/
def certCheckCard : Claim7 := { stood := { row := certCheckRow, standIns := [], harness := (true, "269e15972e967416a7bc51d1aab4b47f1157c675b5c55d6ada8afbec874597fa"), looks := false }, kinds := [], alts := [], laidByText := true, laidKinds := [.data, .data, .data, .data, .data, .pinned], laidTests := true, laidLooks := .later }
def CertCheckCardSaid : Prop := Claim7.holds Tryz.pinned (.plain (OpenSpec.ofChange certCheckSpec)) certCheckCard

/-- THE SECOND FORM's CARD OF 'certpathlaw17.CertCheck'. -/
def certCheckUptoCard : Claim7 := { stood := { row := certCheckUptoRow, standIns := [], harness := (true, "269e15972e967416a7bc51d1aab4b47f1157c675b5c55d6ada8afbec874597fa"), looks := false }, kinds := [], alts := [], laidByText := true, laidKinds := [.data, .data, .data, .data, .data, .pinned], laidTests := true, laidLooks := .later }
def CertCheckUptoCardSaid : Prop := Claim7.holds Tryz.pinned (.plain (OpenSpec.upto certCheckSpec)) certCheckUptoCard
end Rows
end Go.Proofs.YtdihmdelaolelaaGreatDoor
