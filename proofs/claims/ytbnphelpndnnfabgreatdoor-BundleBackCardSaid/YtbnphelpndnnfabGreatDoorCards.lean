/-
  DERIVED. GIVEN WITH THE SEED: THE CARDS: each row of YtbnphelpndnnfabGreatDoorRows.lean that lists a variable, with what it lists TIED to the program's text (the seventh form; the later family's looks); each row that meets fmt, with fmt's text TOLD by the authors' own Lean function (tested against real Go, not proved from fmt's source: count such statements apart). THE CARD IS WHAT COUNTS. Prove the row's statement (the work); the ties are given (YtbnphelpndnnfabGreatDoorTie.lean); close each card by the builder's one call (the guide's Derived/Test/ToyasCard.lean, 'card_holds'). Laid BY PROGRAM, IN A SANDBOX (cutbox-door.mjs). By AI agents, Wed Nov 11 2026. No macro, syntax, notation, axiom, sorry.
-/
import Derived.Test.YtbnphelpndnnfabGreatDoorRows
import GoSem.ClaimSeven
namespace Go.Proofs.YtbnphelpndnnfabGreatDoor
namespace Rows

/-- THE TIED CARD OF 'certpathlaw26.RepositoryShowsLast'. -/
def repositoryShowsLastCard : Claim7 := { stood := { row := repositoryShowsLastRow, standIns := [], harness := (true, "450f6c097a1fa7d4f3594d915588b21ddd86fbe93d2da1a042906842340226e9"), looks := false }, kinds := [], alts := [], laidByText := true, laidKinds := [.data, .data, .data, .data, .data, .pinned], laidTests := true, laidLooks := .later }
def RepositoryShowsLastCardSaid : Prop := Claim7.holds Tryz.pinned (.plain (OpenSpec.ofChange repositoryShowsLastSpec)) repositoryShowsLastCard

/-- THE TIED CARD OF 'certpathlaw20.BundleBack'. -/
def bundleBackCard : Claim7 := { stood := { row := bundleBackRow, standIns := [], harness := (true, "450f6c097a1fa7d4f3594d915588b21ddd86fbe93d2da1a042906842340226e9"), looks := false }, kinds := [], alts := [], laidByText := true, laidKinds := [.data, .data, .data, .data, .data, .pinned], laidTests := true, laidLooks := .later }
def BundleBackCardSaid : Prop := Claim7.holds Tryz.pinned (.plain (OpenSpec.ofChange bundleBackSpec)) bundleBackCard

/-- THE SECOND FORM's CARD OF 'certpathlaw26.RepositoryShowsLast'. -/
def repositoryShowsLastUptoCard : Claim7 := { stood := { row := repositoryShowsLastUptoRow, standIns := [], harness := (true, "450f6c097a1fa7d4f3594d915588b21ddd86fbe93d2da1a042906842340226e9"), looks := false }, kinds := [], alts := [], laidByText := true, laidKinds := [.data, .data, .data, .data, .data, .pinned], laidTests := true, laidLooks := .later }
def RepositoryShowsLastUptoCardSaid : Prop := Claim7.holds Tryz.pinned (.plain (OpenSpec.upto repositoryShowsLastSpec)) repositoryShowsLastUptoCard

/-- THE SECOND FORM's CARD OF 'certpathlaw20.BundleBack'. -/
def bundleBackUptoCard : Claim7 := { stood := { row := bundleBackUptoRow, standIns := [], harness := (true, "450f6c097a1fa7d4f3594d915588b21ddd86fbe93d2da1a042906842340226e9"), looks := false }, kinds := [], alts := [], laidByText := true, laidKinds := [.data, .data, .data, .data, .data, .pinned], laidTests := true, laidLooks := .later }
def BundleBackUptoCardSaid : Prop := Claim7.holds Tryz.pinned (.plain (OpenSpec.upto bundleBackSpec)) bundleBackUptoCard
end Rows
end Go.Proofs.YtbnphelpndnnfabGreatDoor
