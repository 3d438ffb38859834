/-
  DERIVED. GIVEN WITH THE SEED: THE CARDS: each row of YtfgdgdnlglejbaaGreatDoorRows.lean that lists a variable, with what it lists TIED to the program's text (the seventh form; the later family's looks); each row that meets fmt, with fmt's text TOLD by the authors' own Lean function (tested against real Go, not proved from fmt's source: count such statements apart). THE CARD IS WHAT COUNTS. Prove the row's statement (the work); the ties are given (YtfgdgdnlglejbaaGreatDoorTie.lean); close each card by the builder's one call (the guide's Derived/Test/ToyasCard.lean, 'card_holds'). Laid BY PROGRAM, IN A SANDBOX (cutbox-door.mjs). By AI agents, Wed Nov 11 2026. No macro, syntax, notation, axiom, sorry.
-/
import Derived.Test.YtfgdgdnlglejbaaGreatDoorRows
import GoSem.ClaimSeven
namespace Go.Proofs.YtfgdgdnlglejbaaGreatDoor
namespace Rows

/-- THE TIED CARD OF 'certpathlaw18.CrlCanonical'. -/
def crlCanonicalCard : Claim7 := { stood := { row := crlCanonicalRow, standIns := [], harness := (true, "ca4c957696d50d4a4faef737824014bdd4e302ff03ec6725ee572da8e0a32390"), looks := false }, kinds := [], alts := [], laidByText := true, laidKinds := [.data, .data, .data, .data, .data, .pinned], laidTests := true, laidLooks := .later }
def CrlCanonicalCardSaid : Prop := Claim7.holds Tryz.pinned (.plain (OpenSpec.ofChange crlCanonicalSpec)) crlCanonicalCard

/-- THE TIED CARD OF 'certpathlaw17.CertSeal'. -/
def certSealCard : Claim7 := { stood := { row := certSealRow, standIns := [], harness := (true, "ca4c957696d50d4a4faef737824014bdd4e302ff03ec6725ee572da8e0a32390"), looks := false }, kinds := [], alts := [], laidByText := true, laidKinds := [.data, .data, .data, .data, .data, .pinned], laidTests := true, laidLooks := .later }
def CertSealCardSaid : Prop := Claim7.holds Tryz.pinned (.plain (OpenSpec.ofChange certSealSpec)) certSealCard

/-- THE TIED CARD OF 'certpathlaw17.CertBack'. -/
def certBackCard : Claim7 := { stood := { row := certBackRow, standIns := [], harness := (true, "ca4c957696d50d4a4faef737824014bdd4e302ff03ec6725ee572da8e0a32390"), looks := false }, kinds := [], alts := [], laidByText := true, laidKinds := [.data, .data, .data, .data, .data, .pinned], laidTests := true, laidLooks := .later }
def CertBackCardSaid : Prop := Claim7.holds Tryz.pinned (.plain (OpenSpec.ofChange certBackSpec)) certBackCard

/-- THE TIED CARD OF 'certpathlaw17.CertSame'. -/
def certSameCard : Claim7 := { stood := { row := certSameRow, standIns := [], harness := (true, "ca4c957696d50d4a4faef737824014bdd4e302ff03ec6725ee572da8e0a32390"), looks := false }, kinds := [], alts := [], laidByText := true, laidKinds := [.data, .data, .data, .data, .data, .pinned], laidTests := true, laidLooks := .later }
def CertSameCardSaid : Prop := Claim7.holds Tryz.pinned (.plain (OpenSpec.ofChange certSameSpec)) certSameCard

/-- THE SECOND FORM's CARD OF 'certpathlaw18.CrlCanonical'. -/
def crlCanonicalUptoCard : Claim7 := { stood := { row := crlCanonicalUptoRow, standIns := [], harness := (true, "ca4c957696d50d4a4faef737824014bdd4e302ff03ec6725ee572da8e0a32390"), looks := false }, kinds := [], alts := [], laidByText := true, laidKinds := [.data, .data, .data, .data, .data, .pinned], laidTests := true, laidLooks := .later }
def CrlCanonicalUptoCardSaid : Prop := Claim7.holds Tryz.pinned (.plain (OpenSpec.upto crlCanonicalSpec)) crlCanonicalUptoCard

/-- THE SECOND FORM's CARD OF 'certpathlaw17.CertSeal'. -/
def certSealUptoCard : Claim7 := { stood := { row := certSealUptoRow, standIns := [], harness := (true, "ca4c957696d50d4a4faef737824014bdd4e302ff03ec6725ee572da8e0a32390"), looks := false }, kinds := [], alts := [], laidByText := true, laidKinds := [.data, .data, .data, .data, .data, .pinned], laidTests := true, laidLooks := .later }
def CertSealUptoCardSaid : Prop := Claim7.holds Tryz.pinned (.plain (OpenSpec.upto certSealSpec)) certSealUptoCard

/-- THE SECOND FORM's CARD OF 'certpathlaw17.CertBack'. -/
def certBackUptoCard : Claim7 := { stood := { row := certBackUptoRow, standIns := [], harness := (true, "ca4c957696d50d4a4faef737824014bdd4e302ff03ec6725ee572da8e0a32390"), looks := false }, kinds := [], alts := [], laidByText := true, laidKinds := [.data, .data, .data, .data, .data, .pinned], laidTests := true, laidLooks := .later }
def CertBackUptoCardSaid : Prop := Claim7.holds Tryz.pinned (.plain (OpenSpec.upto certBackSpec)) certBackUptoCard

/-- THE SECOND FORM's CARD OF 'certpathlaw17.CertSame'. -/
def certSameUptoCard : Claim7 := { stood := { row := certSameUptoRow, standIns := [], harness := (true, "ca4c957696d50d4a4faef737824014bdd4e302ff03ec6725ee572da8e0a32390"), looks := false }, kinds := [], alts := [], laidByText := true, laidKinds := [.data, .data, .data, .data, .data, .pinned], laidTests := true, laidLooks := .later }
def CertSameUptoCardSaid : Prop := Claim7.holds Tryz.pinned (.plain (OpenSpec.upto certSameSpec)) certSameUptoCard
end Rows
end Go.Proofs.YtfgdgdnlglejbaaGreatDoor
