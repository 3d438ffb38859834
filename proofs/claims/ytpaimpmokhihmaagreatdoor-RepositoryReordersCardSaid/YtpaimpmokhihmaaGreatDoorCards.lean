/-
  DERIVED. GIVEN WITH THE SEED: THE CARDS: each row of YtpaimpmokhihmaaGreatDoorRows.lean that lists a variable, with what it lists TIED to the program's text (the seventh form; the later family's looks); each row that meets fmt, with fmt's text TOLD by the authors' own Lean function (tested against real Go, not proved from fmt's source: count such statements apart). THE CARD IS WHAT COUNTS. Prove the row's statement (the work); the ties are given (YtpaimpmokhihmaaGreatDoorTie.lean); close each card by the builder's one call (the guide's Derived/Test/ToyasCard.lean, 'card_holds'). Laid BY PROGRAM, IN A SANDBOX (cutbox-door.mjs). By AI agents, Wed Nov 11 2026. No macro, syntax, notation, axiom, sorry.
-/
import Derived.Test.YtpaimpmokhihmaaGreatDoorRows
import GoSem.ClaimSeven
namespace Go.Proofs.YtpaimpmokhihmaaGreatDoor
namespace Rows

/-- THE TIED CARD OF 'certpathlaw26.RepositoryReorders'. -/
def repositoryReordersCard : Claim7 := { stood := { row := repositoryReordersRow, standIns := [], harness := (true, "cc2ece79d55b8fda8e0f559ee66afae580e8fee9ba6db6e4d4c8596ddb454a4f"), looks := false }, kinds := [], alts := [], laidByText := true, laidKinds := [.data, .data, .data, .data, .data, .pinned], laidTests := true, laidLooks := .later }
def RepositoryReordersCardSaid : Prop := Claim7.holds Tryz.pinned (.plain (OpenSpec.ofChange repositoryReordersSpec)) repositoryReordersCard

/-- THE TIED CARD OF 'certpathlaw26.RepositoryShowsLast'. -/
def repositoryShowsLastCard : Claim7 := { stood := { row := repositoryShowsLastRow, standIns := [], harness := (true, "cc2ece79d55b8fda8e0f559ee66afae580e8fee9ba6db6e4d4c8596ddb454a4f"), looks := false }, kinds := [], alts := [], laidByText := true, laidKinds := [.data, .data, .data, .data, .data, .pinned], laidTests := true, laidLooks := .later }
def RepositoryShowsLastCardSaid : Prop := Claim7.holds Tryz.pinned (.plain (OpenSpec.ofChange repositoryShowsLastSpec)) repositoryShowsLastCard

/-- THE SECOND FORM's CARD OF 'certpathlaw26.RepositoryReorders'. -/
def repositoryReordersUptoCard : Claim7 := { stood := { row := repositoryReordersUptoRow, standIns := [], harness := (true, "cc2ece79d55b8fda8e0f559ee66afae580e8fee9ba6db6e4d4c8596ddb454a4f"), looks := false }, kinds := [], alts := [], laidByText := true, laidKinds := [.data, .data, .data, .data, .data, .pinned], laidTests := true, laidLooks := .later }
def RepositoryReordersUptoCardSaid : Prop := Claim7.holds Tryz.pinned (.plain (OpenSpec.upto repositoryReordersSpec)) repositoryReordersUptoCard

/-- THE SECOND FORM's CARD OF 'certpathlaw26.RepositoryShowsLast'. -/
def repositoryShowsLastUptoCard : Claim7 := { stood := { row := repositoryShowsLastUptoRow, standIns := [], harness := (true, "cc2ece79d55b8fda8e0f559ee66afae580e8fee9ba6db6e4d4c8596ddb454a4f"), looks := false }, kinds := [], alts := [], laidByText := true, laidKinds := [.data, .data, .data, .data, .data, .pinned], laidTests := true, laidLooks := .later }
def RepositoryShowsLastUptoCardSaid : Prop := Claim7.holds Tryz.pinned (.plain (OpenSpec.upto repositoryShowsLastSpec)) repositoryShowsLastUptoCard
end Rows
end Go.Proofs.YtpaimpmokhihmaaGreatDoor
