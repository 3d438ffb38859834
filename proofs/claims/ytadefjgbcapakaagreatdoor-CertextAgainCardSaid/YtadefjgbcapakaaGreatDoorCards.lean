/-
  DERIVED. GIVEN WITH THE SEED: THE CARDS: each row of YtadefjgbcapakaaGreatDoorRows.lean that lists a variable, with what it lists TIED to the program's text (the seventh form; the later family's looks); each row that meets fmt, with fmt's text TOLD by the authors' own Lean function (tested against real Go, not proved from fmt's source: count such statements apart). THE CARD IS WHAT COUNTS. Prove the row's statement (the work); the ties are given (YtadefjgbcapakaaGreatDoorTie.lean); close each card by the builder's one call (the guide's Derived/Test/ToyasCard.lean, 'card_holds'). Laid BY PROGRAM, IN A SANDBOX (cutbox-door.mjs). By AI agents, Wed Nov 11 2026. No macro, syntax, notation, axiom, sorry.
-/
import Derived.Test.YtadefjgbcapakaaGreatDoorRows
import GoSem.ClaimSeven
namespace Go.Proofs.YtadefjgbcapakaaGreatDoor
namespace Rows

/-- THE TIED CARD OF 'certpathlaw16.CertextCheck'. -/
def certextCheckCard : Claim7 := { stood := { row := certextCheckRow, standIns := [], harness := (true, "fd56ea283c74a3ea5ccf6d3da9cebecdbdc6e4d1a5c5e4d43c6e613eb14b2095"), looks := false }, kinds := [], alts := [], laidByText := true, laidKinds := [.data, .data, .data, .data, .pinned], laidTests := true, laidLooks := .later }
def CertextCheckCardSaid : Prop := Claim7.holds Tryz.pinned (.plain (OpenSpec.ofChange certextCheckSpec)) certextCheckCard

/-- THE TIED CARD OF 'certpathlaw16.CertextPoints'. -/
def certextPointsCard : Claim7 := { stood := { row := certextPointsRow, standIns := [], harness := (true, "fd56ea283c74a3ea5ccf6d3da9cebecdbdc6e4d1a5c5e4d43c6e613eb14b2095"), looks := false }, kinds := [], alts := [], laidByText := true, laidKinds := [.data, .data, .data, .data, .pinned], laidTests := true, laidLooks := .later }
def CertextPointsCardSaid : Prop := Claim7.holds Tryz.pinned (.plain (OpenSpec.ofChange certextPointsSpec)) certextPointsCard

/-- THE TIED CARD OF 'certpathlaw16.CertextDecode'. -/
def certextDecodeCard : Claim7 := { stood := { row := certextDecodeRow, standIns := [], harness := (true, "fd56ea283c74a3ea5ccf6d3da9cebecdbdc6e4d1a5c5e4d43c6e613eb14b2095"), looks := false }, kinds := [], alts := [], laidByText := true, laidKinds := [.data, .data, .data, .data, .pinned], laidTests := true, laidLooks := .later }
def CertextDecodeCardSaid : Prop := Claim7.holds Tryz.pinned (.plain (OpenSpec.ofChange certextDecodeSpec)) certextDecodeCard

/-- THE TIED CARD OF 'certpathlaw16.CertextValues'. -/
def certextValuesCard : Claim7 := { stood := { row := certextValuesRow, standIns := [], harness := (true, "fd56ea283c74a3ea5ccf6d3da9cebecdbdc6e4d1a5c5e4d43c6e613eb14b2095"), looks := false }, kinds := [], alts := [], laidByText := true, laidKinds := [.data, .data, .data, .data, .pinned], laidTests := true, laidLooks := .later }
def CertextValuesCardSaid : Prop := Claim7.holds Tryz.pinned (.plain (OpenSpec.ofChange certextValuesSpec)) certextValuesCard

/-- THE TIED CARD OF 'certpathlaw16.CertextBack'. -/
def certextBackCard : Claim7 := { stood := { row := certextBackRow, standIns := [], harness := (true, "fd56ea283c74a3ea5ccf6d3da9cebecdbdc6e4d1a5c5e4d43c6e613eb14b2095"), looks := false }, kinds := [], alts := [], laidByText := true, laidKinds := [.data, .data, .data, .data, .pinned], laidTests := true, laidLooks := .later }
def CertextBackCardSaid : Prop := Claim7.holds Tryz.pinned (.plain (OpenSpec.ofChange certextBackSpec)) certextBackCard

/-- THE TIED CARD OF 'certpathlaw16.CertextAgain'. -/
def certextAgainCard : Claim7 := { stood := { row := certextAgainRow, standIns := [], harness := (true, "fd56ea283c74a3ea5ccf6d3da9cebecdbdc6e4d1a5c5e4d43c6e613eb14b2095"), looks := false }, kinds := [], alts := [], laidByText := true, laidKinds := [.data, .data, .data, .data, .pinned], laidTests := true, laidLooks := .later }
def CertextAgainCardSaid : Prop := Claim7.holds Tryz.pinned (.plain (OpenSpec.ofChange certextAgainSpec)) certextAgainCard

/-- THE SECOND FORM's CARD OF 'certpathlaw16.CertextCheck'. -/
def certextCheckUptoCard : Claim7 := { stood := { row := certextCheckUptoRow, standIns := [], harness := (true, "fd56ea283c74a3ea5ccf6d3da9cebecdbdc6e4d1a5c5e4d43c6e613eb14b2095"), looks := false }, kinds := [], alts := [], laidByText := true, laidKinds := [.data, .data, .data, .data, .pinned], laidTests := true, laidLooks := .later }
def CertextCheckUptoCardSaid : Prop := Claim7.holds Tryz.pinned (.plain (OpenSpec.upto certextCheckSpec)) certextCheckUptoCard

/-- THE SECOND FORM's CARD OF 'certpathlaw16.CertextPoints'. -/
def certextPointsUptoCard : Claim7 := { stood := { row := certextPointsUptoRow, standIns := [], harness := (true, "fd56ea283c74a3ea5ccf6d3da9cebecdbdc6e4d1a5c5e4d43c6e613eb14b2095"), looks := false }, kinds := [], alts := [], laidByText := true, laidKinds := [.data, .data, .data, .data, .pinned], laidTests := true, laidLooks := .later }
def CertextPointsUptoCardSaid : Prop := Claim7.holds Tryz.pinned (.plain (OpenSpec.upto certextPointsSpec)) certextPointsUptoCard

/-- THE SECOND FORM's CARD OF 'certpathlaw16.CertextDecode'. -/
def certextDecodeUptoCard : Claim7 := { stood := { row := certextDecodeUptoRow, standIns := [], harness := (true, "fd56ea283c74a3ea5ccf6d3da9cebecdbdc6e4d1a5c5e4d43c6e613eb14b2095"), looks := false }, kinds := [], alts := [], laidByText := true, laidKinds := [.data, .data, .data, .data, .pinned], laidTests := true, laidLooks := .later }
def CertextDecodeUptoCardSaid : Prop := Claim7.holds Tryz.pinned (.plain (OpenSpec.upto certextDecodeSpec)) certextDecodeUptoCard

/-- THE SECOND FORM's CARD OF 'certpathlaw16.CertextValues'. -/
def certextValuesUptoCard : Claim7 := { stood := { row := certextValuesUptoRow, standIns := [], harness := (true, "fd56ea283c74a3ea5ccf6d3da9cebecdbdc6e4d1a5c5e4d43c6e613eb14b2095"), looks := false }, kinds := [], alts := [], laidByText := true, laidKinds := [.data, .data, .data, .data, .pinned], laidTests := true, laidLooks := .later }
def CertextValuesUptoCardSaid : Prop := Claim7.holds Tryz.pinned (.plain (OpenSpec.upto certextValuesSpec)) certextValuesUptoCard

/-- THE SECOND FORM's CARD OF 'certpathlaw16.CertextBack'. -/
def certextBackUptoCard : Claim7 := { stood := { row := certextBackUptoRow, standIns := [], harness := (true, "fd56ea283c74a3ea5ccf6d3da9cebecdbdc6e4d1a5c5e4d43c6e613eb14b2095"), looks := false }, kinds := [], alts := [], laidByText := true, laidKinds := [.data, .data, .data, .data, .pinned], laidTests := true, laidLooks := .later }
def CertextBackUptoCardSaid : Prop := Claim7.holds Tryz.pinned (.plain (OpenSpec.upto certextBackSpec)) certextBackUptoCard

/-- THE SECOND FORM's CARD OF 'certpathlaw16.CertextAgain'. -/
def certextAgainUptoCard : Claim7 := { stood := { row := certextAgainUptoRow, standIns := [], harness := (true, "fd56ea283c74a3ea5ccf6d3da9cebecdbdc6e4d1a5c5e4d43c6e613eb14b2095"), looks := false }, kinds := [], alts := [], laidByText := true, laidKinds := [.data, .data, .data, .data, .pinned], laidTests := true, laidLooks := .later }
def CertextAgainUptoCardSaid : Prop := Claim7.holds Tryz.pinned (.plain (OpenSpec.upto certextAgainSpec)) certextAgainUptoCard
end Rows
end Go.Proofs.YtadefjgbcapakaaGreatDoor
