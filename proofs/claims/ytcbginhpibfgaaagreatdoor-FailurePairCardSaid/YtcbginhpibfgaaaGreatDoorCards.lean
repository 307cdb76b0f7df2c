/-
  DERIVED. GIVEN WITH THE SEED: THE CARDS: each row of YtcbginhpibfgaaaGreatDoorRows.lean that lists a variable, with what it lists TIED to the program's text (the seventh form; the later family's looks); each row that meets fmt, with fmt's text TOLD by the authors' own Lean function (tested against real Go, not proved from fmt's source: count such statements apart). THE CARD IS WHAT COUNTS. Prove the row's statement (the work); the ties are given (YtcbginhpibfgaaaGreatDoorTie.lean); close each card by the builder's one call (the guide's Derived/Test/ToyasCard.lean, 'card_holds'). Laid BY PROGRAM, IN A SANDBOX (cutbox-door.mjs). By AI agents, Wed Nov 11 2026. No macro, syntax, notation, axiom, sorry.
-/
import Derived.Test.YtcbginhpibfgaaaGreatDoorRows
import GoSem.ClaimSeven
namespace Go.Proofs.YtcbginhpibfgaaaGreatDoor
namespace Rows

/-- THE TIED CARD OF 'sederuntlaw16.FailureOf'. -/
def failureOfCard : Claim7 := { stood := { row := failureOfRow, standIns := [], harness := (true, "6c6ed28039965d1e05ce70114d4f84b00907715979fcf266077e3121104a4804"), looks := false }, kinds := [], alts := [], laidByText := true, laidKinds := [.data, .data, .data], laidTests := true, laidLooks := .later }
def FailureOfCardSaid : Prop := Claim7.holds Tryz.pinned (.plain (OpenSpec.ofChange failureOfSpec)) failureOfCard

/-- THE TIED CARD OF 'sederuntlaw16.FailureErrors'. -/
def failureErrorsCard : Claim7 := { stood := { row := failureErrorsRow, standIns := [], harness := (true, "6c6ed28039965d1e05ce70114d4f84b00907715979fcf266077e3121104a4804"), looks := false }, kinds := [], alts := [], laidByText := true, laidKinds := [.data, .data, .data], laidTests := true, laidLooks := .later }
def FailureErrorsCardSaid : Prop := Claim7.holds Tryz.pinned (.plain (OpenSpec.ofChange failureErrorsSpec)) failureErrorsCard

/-- THE TIED CARD OF 'sederuntlaw16.FailureImportance'. -/
def failureImportanceCard : Claim7 := { stood := { row := failureImportanceRow, standIns := [], harness := (true, "6c6ed28039965d1e05ce70114d4f84b00907715979fcf266077e3121104a4804"), looks := false }, kinds := [], alts := [], laidByText := true, laidKinds := [.data, .data, .data], laidTests := true, laidLooks := .later }
def FailureImportanceCardSaid : Prop := Claim7.holds Tryz.pinned (.plain (OpenSpec.ofChange failureImportanceSpec)) failureImportanceCard

/-- THE TIED CARD OF 'sederuntlaw16.FailurePolynomial'. -/
def failurePolynomialCard : Claim7 := { stood := { row := failurePolynomialRow, standIns := [], harness := (true, "6c6ed28039965d1e05ce70114d4f84b00907715979fcf266077e3121104a4804"), looks := false }, kinds := [], alts := [], laidByText := true, laidKinds := [.data, .data, .data], laidTests := true, laidLooks := .later }
def FailurePolynomialCardSaid : Prop := Claim7.holds Tryz.pinned (.plain (OpenSpec.ofChange failurePolynomialSpec)) failurePolynomialCard

/-- THE TIED CARD OF 'sederuntlaw16.FailureAt'. -/
def failureAtCard : Claim7 := { stood := { row := failureAtRow, standIns := [], harness := (true, "6c6ed28039965d1e05ce70114d4f84b00907715979fcf266077e3121104a4804"), looks := false }, kinds := [], alts := [], laidByText := true, laidKinds := [.data, .data, .data], laidTests := true, laidLooks := .later }
def FailureAtCardSaid : Prop := Claim7.holds Tryz.pinned (.plain (OpenSpec.ofChange failureAtSpec)) failureAtCard

/-- THE TIED CARD OF 'sederuntlaw16.FailureSites'. -/
def failureSitesCard : Claim7 := { stood := { row := failureSitesRow, standIns := [], harness := (true, "6c6ed28039965d1e05ce70114d4f84b00907715979fcf266077e3121104a4804"), looks := false }, kinds := [], alts := [], laidByText := true, laidKinds := [.data, .data, .data], laidTests := true, laidLooks := .later }
def FailureSitesCardSaid : Prop := Claim7.holds Tryz.pinned (.plain (OpenSpec.ofChange failureSitesSpec)) failureSitesCard

/-- THE TIED CARD OF 'sederuntlaw16.FailureAlone'. -/
def failureAloneCard : Claim7 := { stood := { row := failureAloneRow, standIns := [], harness := (true, "6c6ed28039965d1e05ce70114d4f84b00907715979fcf266077e3121104a4804"), looks := false }, kinds := [], alts := [], laidByText := true, laidKinds := [.data, .data, .data], laidTests := true, laidLooks := .later }
def FailureAloneCardSaid : Prop := Claim7.holds Tryz.pinned (.plain (OpenSpec.ofChange failureAloneSpec)) failureAloneCard

/-- THE TIED CARD OF 'sederuntlaw16.FailureDual'. -/
def failureDualCard : Claim7 := { stood := { row := failureDualRow, standIns := [], harness := (true, "6c6ed28039965d1e05ce70114d4f84b00907715979fcf266077e3121104a4804"), looks := false }, kinds := [], alts := [], laidByText := true, laidKinds := [.data, .data, .data], laidTests := true, laidLooks := .later }
def FailureDualCardSaid : Prop := Claim7.holds Tryz.pinned (.plain (OpenSpec.ofChange failureDualSpec)) failureDualCard

/-- THE TIED CARD OF 'sederuntlaw16.FailurePair'. -/
def failurePairCard : Claim7 := { stood := { row := failurePairRow, standIns := [], harness := (true, "6c6ed28039965d1e05ce70114d4f84b00907715979fcf266077e3121104a4804"), looks := false }, kinds := [], alts := [], laidByText := true, laidKinds := [.data, .data, .data], laidTests := true, laidLooks := .later }
def FailurePairCardSaid : Prop := Claim7.holds Tryz.pinned (.plain (OpenSpec.ofChange failurePairSpec)) failurePairCard

/-- THE SECOND FORM's CARD OF 'sederuntlaw16.FailureOf'. -/
def failureOfUptoCard : Claim7 := { stood := { row := failureOfUptoRow, standIns := [], harness := (true, "6c6ed28039965d1e05ce70114d4f84b00907715979fcf266077e3121104a4804"), looks := false }, kinds := [], alts := [], laidByText := true, laidKinds := [.data, .data, .data], laidTests := true, laidLooks := .later }
def FailureOfUptoCardSaid : Prop := Claim7.holds Tryz.pinned (.plain (OpenSpec.upto failureOfSpec)) failureOfUptoCard

/-- THE SECOND FORM's CARD OF 'sederuntlaw16.FailureErrors'. -/
def failureErrorsUptoCard : Claim7 := { stood := { row := failureErrorsUptoRow, standIns := [], harness := (true, "6c6ed28039965d1e05ce70114d4f84b00907715979fcf266077e3121104a4804"), looks := false }, kinds := [], alts := [], laidByText := true, laidKinds := [.data, .data, .data], laidTests := true, laidLooks := .later }
def FailureErrorsUptoCardSaid : Prop := Claim7.holds Tryz.pinned (.plain (OpenSpec.upto failureErrorsSpec)) failureErrorsUptoCard

/-- THE SECOND FORM's CARD OF 'sederuntlaw16.FailureImportance'. -/
def failureImportanceUptoCard : Claim7 := { stood := { row := failureImportanceUptoRow, standIns := [], harness := (true, "6c6ed28039965d1e05ce70114d4f84b00907715979fcf266077e3121104a4804"), looks := false }, kinds := [], alts := [], laidByText := true, laidKinds := [.data, .data, .data], laidTests := true, laidLooks := .later }
def FailureImportanceUptoCardSaid : Prop := Claim7.holds Tryz.pinned (.plain (OpenSpec.upto failureImportanceSpec)) failureImportanceUptoCard

/-- THE SECOND FORM's CARD OF 'sederuntlaw16.FailurePolynomial'. -/
def failurePolynomialUptoCard : Claim7 := { stood := { row := failurePolynomialUptoRow, standIns := [], harness := (true, "6c6ed28039965d1e05ce70114d4f84b00907715979fcf266077e3121104a4804"), looks := false }, kinds := [], alts := [], laidByText := true, laidKinds := [.data, .data, .data], laidTests := true, laidLooks := .later }
def FailurePolynomialUptoCardSaid : Prop := Claim7.holds Tryz.pinned (.plain (OpenSpec.upto failurePolynomialSpec)) failurePolynomialUptoCard

/-- THE SECOND FORM's CARD OF 'sederuntlaw16.FailureAt'. -/
def failureAtUptoCard : Claim7 := { stood := { row := failureAtUptoRow, standIns := [], harness := (true, "6c6ed28039965d1e05ce70114d4f84b00907715979fcf266077e3121104a4804"), looks := false }, kinds := [], alts := [], laidByText := true, laidKinds := [.data, .data, .data], laidTests := true, laidLooks := .later }
def FailureAtUptoCardSaid : Prop := Claim7.holds Tryz.pinned (.plain (OpenSpec.upto failureAtSpec)) failureAtUptoCard

/-- THE SECOND FORM's CARD OF 'sederuntlaw16.FailureSites'. -/
def failureSitesUptoCard : Claim7 := { stood := { row := failureSitesUptoRow, standIns := [], harness := (true, "6c6ed28039965d1e05ce70114d4f84b00907715979fcf266077e3121104a4804"), looks := false }, kinds := [], alts := [], laidByText := true, laidKinds := [.data, .data, .data], laidTests := true, laidLooks := .later }
def FailureSitesUptoCardSaid : Prop := Claim7.holds Tryz.pinned (.plain (OpenSpec.upto failureSitesSpec)) failureSitesUptoCard

/-- THE SECOND FORM's CARD OF 'sederuntlaw16.FailureAlone'. -/
def failureAloneUptoCard : Claim7 := { stood := { row := failureAloneUptoRow, standIns := [], harness := (true, "6c6ed28039965d1e05ce70114d4f84b00907715979fcf266077e3121104a4804"), looks := false }, kinds := [], alts := [], laidByText := true, laidKinds := [.data, .data, .data], laidTests := true, laidLooks := .later }
def FailureAloneUptoCardSaid : Prop := Claim7.holds Tryz.pinned (.plain (OpenSpec.upto failureAloneSpec)) failureAloneUptoCard

/-- THE SECOND FORM's CARD OF 'sederuntlaw16.FailureDual'. -/
def failureDualUptoCard : Claim7 := { stood := { row := failureDualUptoRow, standIns := [], harness := (true, "6c6ed28039965d1e05ce70114d4f84b00907715979fcf266077e3121104a4804"), looks := false }, kinds := [], alts := [], laidByText := true, laidKinds := [.data, .data, .data], laidTests := true, laidLooks := .later }
def FailureDualUptoCardSaid : Prop := Claim7.holds Tryz.pinned (.plain (OpenSpec.upto failureDualSpec)) failureDualUptoCard

/-- THE SECOND FORM's CARD OF 'sederuntlaw16.FailurePair'. -/
def failurePairUptoCard : Claim7 := { stood := { row := failurePairUptoRow, standIns := [], harness := (true, "6c6ed28039965d1e05ce70114d4f84b00907715979fcf266077e3121104a4804"), looks := false }, kinds := [], alts := [], laidByText := true, laidKinds := [.data, .data, .data], laidTests := true, laidLooks := .later }
def FailurePairUptoCardSaid : Prop := Claim7.holds Tryz.pinned (.plain (OpenSpec.upto failurePairSpec)) failurePairUptoCard
end Rows
end Go.Proofs.YtcbginhpibfgaaaGreatDoor
