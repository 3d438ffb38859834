/-
  DERIVED. GIVEN WITH THE SEED: THE CARDS: each row of YtbaomhegdndpnaaGreatDoorRows.lean that lists a variable, with what it lists TIED to the program's text (the seventh form; the later family's looks); each row that meets fmt, with fmt's text TOLD by the authors' own Lean function (tested against real Go, not proved from fmt's source: count such statements apart). THE CARD IS WHAT COUNTS. Prove the row's statement (the work); the ties are given (YtbaomhegdndpnaaGreatDoorTie.lean); close each card by the builder's one call (the guide's Derived/Test/ToyasCard.lean, 'card_holds'). Laid BY PROGRAM, IN A SANDBOX (cutbox-door.mjs). By AI agents, Wed Nov 11 2026. No macro, syntax, notation, axiom, sorry.
-/
import Derived.Test.YtbaomhegdndpnaaGreatDoorRows
import GoSem.ClaimSeven
namespace Go.Proofs.YtbaomhegdndpnaaGreatDoor
namespace Rows

/-- THE TIED CARD OF 'certpathlaw18.CrlMany'. -/
def crlManyCard : Claim7 := { stood := { row := crlManyRow, standIns := [], harness := (true, "d1ebac2110c1731dcc4862d9841fff2d2a7b6a67d052fa6a6114d135e7102232"), looks := false }, kinds := [], alts := [], laidByText := true, laidKinds := [.data, .data, .data, .data, .data, .pinned], laidTests := true, laidLooks := .later }
def CrlManyCardSaid : Prop := Claim7.holds Tryz.pinned (.plain (OpenSpec.ofChange crlManySpec)) crlManyCard

/-- THE TIED CARD OF 'certpathlaw18.CrlFind'. -/
def crlFindCard : Claim7 := { stood := { row := crlFindRow, standIns := [], harness := (true, "d1ebac2110c1731dcc4862d9841fff2d2a7b6a67d052fa6a6114d135e7102232"), looks := false }, kinds := [], alts := [], laidByText := true, laidKinds := [.data, .data, .data, .data, .data, .pinned], laidTests := true, laidLooks := .later }
def CrlFindCardSaid : Prop := Claim7.holds Tryz.pinned (.plain (OpenSpec.ofChange crlFindSpec)) crlFindCard

/-- THE TIED CARD OF 'certpathlaw18.CrlBack'. -/
def crlBackCard : Claim7 := { stood := { row := crlBackRow, standIns := [], harness := (true, "d1ebac2110c1731dcc4862d9841fff2d2a7b6a67d052fa6a6114d135e7102232"), looks := false }, kinds := [], alts := [], laidByText := true, laidKinds := [.data, .data, .data, .data, .data, .pinned], laidTests := true, laidLooks := .later }
def CrlBackCardSaid : Prop := Claim7.holds Tryz.pinned (.plain (OpenSpec.ofChange crlBackSpec)) crlBackCard

/-- THE TIED CARD OF 'certpathlaw18.CrlCanonical'. -/
def crlCanonicalCard : Claim7 := { stood := { row := crlCanonicalRow, standIns := [], harness := (true, "d1ebac2110c1731dcc4862d9841fff2d2a7b6a67d052fa6a6114d135e7102232"), looks := false }, kinds := [], alts := [], laidByText := true, laidKinds := [.data, .data, .data, .data, .data, .pinned], laidTests := true, laidLooks := .later }
def CrlCanonicalCardSaid : Prop := Claim7.holds Tryz.pinned (.plain (OpenSpec.ofChange crlCanonicalSpec)) crlCanonicalCard

/-- THE TIED CARD OF 'certpathlaw18.CrlEntries'. -/
def crlEntriesCard : Claim7 := { stood := { row := crlEntriesRow, standIns := [], harness := (true, "d1ebac2110c1731dcc4862d9841fff2d2a7b6a67d052fa6a6114d135e7102232"), looks := false }, kinds := [], alts := [], laidByText := true, laidKinds := [.data, .data, .data, .data, .data, .pinned], laidTests := true, laidLooks := .later }
def CrlEntriesCardSaid : Prop := Claim7.holds Tryz.pinned (.plain (OpenSpec.ofChange crlEntriesSpec)) crlEntriesCard

/-- THE SECOND FORM's CARD OF 'certpathlaw18.CrlMany'. -/
def crlManyUptoCard : Claim7 := { stood := { row := crlManyUptoRow, standIns := [], harness := (true, "d1ebac2110c1731dcc4862d9841fff2d2a7b6a67d052fa6a6114d135e7102232"), looks := false }, kinds := [], alts := [], laidByText := true, laidKinds := [.data, .data, .data, .data, .data, .pinned], laidTests := true, laidLooks := .later }
def CrlManyUptoCardSaid : Prop := Claim7.holds Tryz.pinned (.plain (OpenSpec.upto crlManySpec)) crlManyUptoCard

/-- THE SECOND FORM's CARD OF 'certpathlaw18.CrlFind'. -/
def crlFindUptoCard : Claim7 := { stood := { row := crlFindUptoRow, standIns := [], harness := (true, "d1ebac2110c1731dcc4862d9841fff2d2a7b6a67d052fa6a6114d135e7102232"), looks := false }, kinds := [], alts := [], laidByText := true, laidKinds := [.data, .data, .data, .data, .data, .pinned], laidTests := true, laidLooks := .later }
def CrlFindUptoCardSaid : Prop := Claim7.holds Tryz.pinned (.plain (OpenSpec.upto crlFindSpec)) crlFindUptoCard

/-- THE SECOND FORM's CARD OF 'certpathlaw18.CrlBack'. -/
def crlBackUptoCard : Claim7 := { stood := { row := crlBackUptoRow, standIns := [], harness := (true, "d1ebac2110c1731dcc4862d9841fff2d2a7b6a67d052fa6a6114d135e7102232"), looks := false }, kinds := [], alts := [], laidByText := true, laidKinds := [.data, .data, .data, .data, .data, .pinned], laidTests := true, laidLooks := .later }
def CrlBackUptoCardSaid : Prop := Claim7.holds Tryz.pinned (.plain (OpenSpec.upto crlBackSpec)) crlBackUptoCard

/-- THE SECOND FORM's CARD OF 'certpathlaw18.CrlCanonical'. -/
def crlCanonicalUptoCard : Claim7 := { stood := { row := crlCanonicalUptoRow, standIns := [], harness := (true, "d1ebac2110c1731dcc4862d9841fff2d2a7b6a67d052fa6a6114d135e7102232"), looks := false }, kinds := [], alts := [], laidByText := true, laidKinds := [.data, .data, .data, .data, .data, .pinned], laidTests := true, laidLooks := .later }
def CrlCanonicalUptoCardSaid : Prop := Claim7.holds Tryz.pinned (.plain (OpenSpec.upto crlCanonicalSpec)) crlCanonicalUptoCard

/-- THE SECOND FORM's CARD OF 'certpathlaw18.CrlEntries'. -/
def crlEntriesUptoCard : Claim7 := { stood := { row := crlEntriesUptoRow, standIns := [], harness := (true, "d1ebac2110c1731dcc4862d9841fff2d2a7b6a67d052fa6a6114d135e7102232"), looks := false }, kinds := [], alts := [], laidByText := true, laidKinds := [.data, .data, .data, .data, .data, .pinned], laidTests := true, laidLooks := .later }
def CrlEntriesUptoCardSaid : Prop := Claim7.holds Tryz.pinned (.plain (OpenSpec.upto crlEntriesSpec)) crlEntriesUptoCard
end Rows
end Go.Proofs.YtbaomhegdndpnaaGreatDoor
