/-
  DERIVED. GIVEN WITH THE SEED: THE CARDS: each row of YtbnphelpndnnfaaGreatDoorRows.lean that lists a variable, with what it lists TIED to the program's text (the seventh form; the later family's looks); each row that meets fmt, with fmt's text TOLD by the authors' own Lean function (tested against real Go, not proved from fmt's source: count such statements apart). THE CARD IS WHAT COUNTS. Prove the row's statement (the work); the ties are given (YtbnphelpndnnfaaGreatDoorTie.lean); close each card by the builder's one call (the guide's Derived/Test/ToyasCard.lean, 'card_holds'). Laid BY PROGRAM, IN A SANDBOX (cutbox-door.mjs). By AI agents, Wed Nov 11 2026. No macro, syntax, notation, axiom, sorry.
-/
import Derived.Test.YtbnphelpndnnfaaGreatDoorRows
import GoSem.ClaimSeven
namespace Go.Proofs.YtbnphelpndnnfaaGreatDoor
namespace Rows

/-- THE TIED CARD OF 'certpathlaw18.CrlBack'. -/
def crlBackCard : Claim7 := { stood := { row := crlBackRow, standIns := [], harness := (true, "c0beb6102472d2a485d0b03ef8c20467a652cc91d79ea5d0ea17f5425fadd269"), looks := false }, kinds := [], alts := [], laidByText := true, laidKinds := [.data, .data, .data, .data, .data, .pinned], laidTests := true, laidLooks := .later }
def CrlBackCardSaid : Prop := Claim7.holds Tryz.pinned (.plain (OpenSpec.ofChange crlBackSpec)) crlBackCard

/-- THE TIED CARD OF 'certpathlaw19.RequestBack'. -/
def requestBackCard : Claim7 := { stood := { row := requestBackRow, standIns := [], harness := (true, "c0beb6102472d2a485d0b03ef8c20467a652cc91d79ea5d0ea17f5425fadd269"), looks := false }, kinds := [], alts := [], laidByText := true, laidKinds := [.data, .data, .data, .data, .pinned], laidTests := true, laidLooks := .later }
def RequestBackCardSaid : Prop := Claim7.holds Tryz.pinned (.plain (OpenSpec.ofChange requestBackSpec)) requestBackCard

/-- THE TIED CARD OF 'certpathlaw17.CertSeal'. -/
def certSealCard : Claim7 := { stood := { row := certSealRow, standIns := [], harness := (true, "c0beb6102472d2a485d0b03ef8c20467a652cc91d79ea5d0ea17f5425fadd269"), looks := false }, kinds := [], alts := [], laidByText := true, laidKinds := [.data, .data, .data, .data, .data, .pinned], laidTests := true, laidLooks := .later }
def CertSealCardSaid : Prop := Claim7.holds Tryz.pinned (.plain (OpenSpec.ofChange certSealSpec)) certSealCard

/-- THE TIED CARD OF 'certpathlaw17.CertBack'. -/
def certBackCard : Claim7 := { stood := { row := certBackRow, standIns := [], harness := (true, "c0beb6102472d2a485d0b03ef8c20467a652cc91d79ea5d0ea17f5425fadd269"), looks := false }, kinds := [], alts := [], laidByText := true, laidKinds := [.data, .data, .data, .data, .data, .pinned], laidTests := true, laidLooks := .later }
def CertBackCardSaid : Prop := Claim7.holds Tryz.pinned (.plain (OpenSpec.ofChange certBackSpec)) certBackCard

/-- THE TIED CARD OF 'certpathlaw17.CertSame'. -/
def certSameCard : Claim7 := { stood := { row := certSameRow, standIns := [], harness := (true, "c0beb6102472d2a485d0b03ef8c20467a652cc91d79ea5d0ea17f5425fadd269"), looks := false }, kinds := [], alts := [], laidByText := true, laidKinds := [.data, .data, .data, .data, .data, .pinned], laidTests := true, laidLooks := .later }
def CertSameCardSaid : Prop := Claim7.holds Tryz.pinned (.plain (OpenSpec.ofChange certSameSpec)) certSameCard

/-- THE TIED CARD OF 'certpathlaw26.RepositoryReorders'. -/
def repositoryReordersCard : Claim7 := { stood := { row := repositoryReordersRow, standIns := [], harness := (true, "c0beb6102472d2a485d0b03ef8c20467a652cc91d79ea5d0ea17f5425fadd269"), looks := false }, kinds := [], alts := [], laidByText := true, laidKinds := [.data, .data, .data, .data, .data, .pinned], laidTests := true, laidLooks := .later }
def RepositoryReordersCardSaid : Prop := Claim7.holds Tryz.pinned (.plain (OpenSpec.ofChange repositoryReordersSpec)) repositoryReordersCard

/-- THE SECOND FORM's CARD OF 'certpathlaw18.CrlBack'. -/
def crlBackUptoCard : Claim7 := { stood := { row := crlBackUptoRow, standIns := [], harness := (true, "c0beb6102472d2a485d0b03ef8c20467a652cc91d79ea5d0ea17f5425fadd269"), looks := false }, kinds := [], alts := [], laidByText := true, laidKinds := [.data, .data, .data, .data, .data, .pinned], laidTests := true, laidLooks := .later }
def CrlBackUptoCardSaid : Prop := Claim7.holds Tryz.pinned (.plain (OpenSpec.upto crlBackSpec)) crlBackUptoCard

/-- THE SECOND FORM's CARD OF 'certpathlaw19.RequestBack'. -/
def requestBackUptoCard : Claim7 := { stood := { row := requestBackUptoRow, standIns := [], harness := (true, "c0beb6102472d2a485d0b03ef8c20467a652cc91d79ea5d0ea17f5425fadd269"), looks := false }, kinds := [], alts := [], laidByText := true, laidKinds := [.data, .data, .data, .data, .pinned], laidTests := true, laidLooks := .later }
def RequestBackUptoCardSaid : Prop := Claim7.holds Tryz.pinned (.plain (OpenSpec.upto requestBackSpec)) requestBackUptoCard

/-- THE SECOND FORM's CARD OF 'certpathlaw17.CertSeal'. -/
def certSealUptoCard : Claim7 := { stood := { row := certSealUptoRow, standIns := [], harness := (true, "c0beb6102472d2a485d0b03ef8c20467a652cc91d79ea5d0ea17f5425fadd269"), looks := false }, kinds := [], alts := [], laidByText := true, laidKinds := [.data, .data, .data, .data, .data, .pinned], laidTests := true, laidLooks := .later }
def CertSealUptoCardSaid : Prop := Claim7.holds Tryz.pinned (.plain (OpenSpec.upto certSealSpec)) certSealUptoCard

/-- THE SECOND FORM's CARD OF 'certpathlaw17.CertBack'. -/
def certBackUptoCard : Claim7 := { stood := { row := certBackUptoRow, standIns := [], harness := (true, "c0beb6102472d2a485d0b03ef8c20467a652cc91d79ea5d0ea17f5425fadd269"), looks := false }, kinds := [], alts := [], laidByText := true, laidKinds := [.data, .data, .data, .data, .data, .pinned], laidTests := true, laidLooks := .later }
def CertBackUptoCardSaid : Prop := Claim7.holds Tryz.pinned (.plain (OpenSpec.upto certBackSpec)) certBackUptoCard

/-- THE SECOND FORM's CARD OF 'certpathlaw17.CertSame'. -/
def certSameUptoCard : Claim7 := { stood := { row := certSameUptoRow, standIns := [], harness := (true, "c0beb6102472d2a485d0b03ef8c20467a652cc91d79ea5d0ea17f5425fadd269"), looks := false }, kinds := [], alts := [], laidByText := true, laidKinds := [.data, .data, .data, .data, .data, .pinned], laidTests := true, laidLooks := .later }
def CertSameUptoCardSaid : Prop := Claim7.holds Tryz.pinned (.plain (OpenSpec.upto certSameSpec)) certSameUptoCard

/-- THE SECOND FORM's CARD OF 'certpathlaw26.RepositoryReorders'. -/
def repositoryReordersUptoCard : Claim7 := { stood := { row := repositoryReordersUptoRow, standIns := [], harness := (true, "c0beb6102472d2a485d0b03ef8c20467a652cc91d79ea5d0ea17f5425fadd269"), looks := false }, kinds := [], alts := [], laidByText := true, laidKinds := [.data, .data, .data, .data, .data, .pinned], laidTests := true, laidLooks := .later }
def RepositoryReordersUptoCardSaid : Prop := Claim7.holds Tryz.pinned (.plain (OpenSpec.upto repositoryReordersSpec)) repositoryReordersUptoCard
end Rows
end Go.Proofs.YtbnphelpndnnfaaGreatDoor
