/-
  DERIVED. GIVEN WITH THE SEED: THE CARDS: each row of YtebinjcofclfaaaDoorRows.lean that lists a variable, with what it lists TIED to the program's text (the seventh form; the later family's looks); each row that meets fmt, with fmt's text TOLD by the authors' own Lean function (tested against real Go, not proved from fmt's source: count such statements apart). THE CARD IS WHAT COUNTS. Prove the row's statement (the work); the ties are given (YtebinjcofclfaaaDoorTie.lean); close each card by the builder's one call (the guide's Derived/Test/ToyasCard.lean, 'card_holds'). Laid BY PROGRAM, IN A SANDBOX (cutbox-door.mjs). By AI agents, Wed Nov 11 2026. No macro, syntax, notation, axiom, sorry.
-/
import Derived.Test.YtebinjcofclfaaaDoorRows
import GoSem.ClaimSeven
namespace Go.Proofs.YtebinjcofclfaaaDoor
namespace Rows

/-- THE TIED CARD OF 'sederuntlaw11.DiagramCounts'. -/
def diagramCountsCard : Claim7 := { stood := { row := diagramCountsRow, standIns := [], harness := (true, "20c557b193d76df3262baedf8dd7fffd90adfecbd6dbf559f88ec6759bbf1a48"), looks := false }, kinds := [], alts := [], laidByText := true, laidKinds := [.data], laidTests := true, laidLooks := .later }
def DiagramCountsCardSaid : Prop := Claim7.holds Tryd.pinned (.plain (OpenSpec.ofChange diagramCountsSpec)) diagramCountsCard

/-- THE TIED CARD OF 'sederuntlaw11.DiagramEval'. -/
def diagramEvalCard : Claim7 := { stood := { row := diagramEvalRow, standIns := [], harness := (true, "20c557b193d76df3262baedf8dd7fffd90adfecbd6dbf559f88ec6759bbf1a48"), looks := false }, kinds := [], alts := [], laidByText := true, laidKinds := [.data], laidTests := true, laidLooks := .later }
def DiagramEvalCardSaid : Prop := Claim7.holds Tryd.pinned (.plain (OpenSpec.ofChange diagramEvalSpec)) diagramEvalCard

/-- THE TIED CARD OF 'sederuntlaw11.DiagramFamily'. -/
def diagramFamilyCard : Claim7 := { stood := { row := diagramFamilyRow, standIns := [], harness := (true, "20c557b193d76df3262baedf8dd7fffd90adfecbd6dbf559f88ec6759bbf1a48"), looks := false }, kinds := [], alts := [], laidByText := true, laidKinds := [.data], laidTests := true, laidLooks := .later }
def DiagramFamilyCardSaid : Prop := Claim7.holds Tryd.pinned (.plain (OpenSpec.ofChange diagramFamilySpec)) diagramFamilyCard

/-- THE TIED CARD OF 'sederuntlaw11.DiagramNot'. -/
def diagramNotCard : Claim7 := { stood := { row := diagramNotRow, standIns := [], harness := (true, "20c557b193d76df3262baedf8dd7fffd90adfecbd6dbf559f88ec6759bbf1a48"), looks := false }, kinds := [], alts := [], laidByText := true, laidKinds := [.data], laidTests := true, laidLooks := .later }
def DiagramNotCardSaid : Prop := Claim7.holds Tryd.pinned (.plain (OpenSpec.ofChange diagramNotSpec)) diagramNotCard

/-- THE TIED CARD OF 'sederuntlaw11.DiagramMinimal'. -/
def diagramMinimalCard : Claim7 := { stood := { row := diagramMinimalRow, standIns := [], harness := (true, "20c557b193d76df3262baedf8dd7fffd90adfecbd6dbf559f88ec6759bbf1a48"), looks := false }, kinds := [], alts := [], laidByText := true, laidKinds := [.data], laidTests := true, laidLooks := .later }
def DiagramMinimalCardSaid : Prop := Claim7.holds Tryd.pinned (.plain (OpenSpec.ofChange diagramMinimalSpec)) diagramMinimalCard

/-- THE TIED CARD OF 'sederuntlaw11.DiagramApply'. -/
def diagramApplyCard : Claim7 := { stood := { row := diagramApplyRow, standIns := [], harness := (true, "20c557b193d76df3262baedf8dd7fffd90adfecbd6dbf559f88ec6759bbf1a48"), looks := false }, kinds := [], alts := [], laidByText := true, laidKinds := [.data], laidTests := true, laidLooks := .later }
def DiagramApplyCardSaid : Prop := Claim7.holds Tryd.pinned (.plain (OpenSpec.ofChange diagramApplySpec)) diagramApplyCard

/-- THE TIED CARD OF 'sederuntlaw11.DiagramDeMorgan'. -/
def diagramDeMorganCard : Claim7 := { stood := { row := diagramDeMorganRow, standIns := [], harness := (true, "20c557b193d76df3262baedf8dd7fffd90adfecbd6dbf559f88ec6759bbf1a48"), looks := false }, kinds := [], alts := [], laidByText := true, laidKinds := [.data], laidTests := true, laidLooks := .later }
def DiagramDeMorganCardSaid : Prop := Claim7.holds Tryd.pinned (.plain (OpenSpec.ofChange diagramDeMorganSpec)) diagramDeMorganCard

/-- THE TIED CARD OF 'sederuntlaw11.DiagramOf'. -/
def diagramOfCard : Claim7 := { stood := { row := diagramOfRow, standIns := [], harness := (true, "20c557b193d76df3262baedf8dd7fffd90adfecbd6dbf559f88ec6759bbf1a48"), looks := false }, kinds := [], alts := [], laidByText := true, laidKinds := [.data], laidTests := true, laidLooks := .later }
def DiagramOfCardSaid : Prop := Claim7.holds Tryd.pinned (.plain (OpenSpec.ofChange diagramOfSpec)) diagramOfCard

/-- THE TIED CARD OF 'sederuntlaw11.DiagramValid'. -/
def diagramValidCard : Claim7 := { stood := { row := diagramValidRow, standIns := [], harness := (true, "20c557b193d76df3262baedf8dd7fffd90adfecbd6dbf559f88ec6759bbf1a48"), looks := false }, kinds := [], alts := [], laidByText := true, laidKinds := [.data], laidTests := true, laidLooks := .later }
def DiagramValidCardSaid : Prop := Claim7.holds Tryd.pinned (.plain (OpenSpec.ofChange diagramValidSpec)) diagramValidCard

/-- THE SECOND FORM's CARD OF 'sederuntlaw11.DiagramCounts'. -/
def diagramCountsUptoCard : Claim7 := { stood := { row := diagramCountsUptoRow, standIns := [], harness := (true, "20c557b193d76df3262baedf8dd7fffd90adfecbd6dbf559f88ec6759bbf1a48"), looks := false }, kinds := [], alts := [], laidByText := true, laidKinds := [.data], laidTests := true, laidLooks := .later }
def DiagramCountsUptoCardSaid : Prop := Claim7.holds Tryd.pinned (.plain (OpenSpec.upto diagramCountsSpec)) diagramCountsUptoCard

/-- THE SECOND FORM's CARD OF 'sederuntlaw11.DiagramEval'. -/
def diagramEvalUptoCard : Claim7 := { stood := { row := diagramEvalUptoRow, standIns := [], harness := (true, "20c557b193d76df3262baedf8dd7fffd90adfecbd6dbf559f88ec6759bbf1a48"), looks := false }, kinds := [], alts := [], laidByText := true, laidKinds := [.data], laidTests := true, laidLooks := .later }
def DiagramEvalUptoCardSaid : Prop := Claim7.holds Tryd.pinned (.plain (OpenSpec.upto diagramEvalSpec)) diagramEvalUptoCard

/-- THE SECOND FORM's CARD OF 'sederuntlaw11.DiagramFamily'. -/
def diagramFamilyUptoCard : Claim7 := { stood := { row := diagramFamilyUptoRow, standIns := [], harness := (true, "20c557b193d76df3262baedf8dd7fffd90adfecbd6dbf559f88ec6759bbf1a48"), looks := false }, kinds := [], alts := [], laidByText := true, laidKinds := [.data], laidTests := true, laidLooks := .later }
def DiagramFamilyUptoCardSaid : Prop := Claim7.holds Tryd.pinned (.plain (OpenSpec.upto diagramFamilySpec)) diagramFamilyUptoCard

/-- THE SECOND FORM's CARD OF 'sederuntlaw11.DiagramNot'. -/
def diagramNotUptoCard : Claim7 := { stood := { row := diagramNotUptoRow, standIns := [], harness := (true, "20c557b193d76df3262baedf8dd7fffd90adfecbd6dbf559f88ec6759bbf1a48"), looks := false }, kinds := [], alts := [], laidByText := true, laidKinds := [.data], laidTests := true, laidLooks := .later }
def DiagramNotUptoCardSaid : Prop := Claim7.holds Tryd.pinned (.plain (OpenSpec.upto diagramNotSpec)) diagramNotUptoCard

/-- THE SECOND FORM's CARD OF 'sederuntlaw11.DiagramMinimal'. -/
def diagramMinimalUptoCard : Claim7 := { stood := { row := diagramMinimalUptoRow, standIns := [], harness := (true, "20c557b193d76df3262baedf8dd7fffd90adfecbd6dbf559f88ec6759bbf1a48"), looks := false }, kinds := [], alts := [], laidByText := true, laidKinds := [.data], laidTests := true, laidLooks := .later }
def DiagramMinimalUptoCardSaid : Prop := Claim7.holds Tryd.pinned (.plain (OpenSpec.upto diagramMinimalSpec)) diagramMinimalUptoCard

/-- THE SECOND FORM's CARD OF 'sederuntlaw11.DiagramApply'. -/
def diagramApplyUptoCard : Claim7 := { stood := { row := diagramApplyUptoRow, standIns := [], harness := (true, "20c557b193d76df3262baedf8dd7fffd90adfecbd6dbf559f88ec6759bbf1a48"), looks := false }, kinds := [], alts := [], laidByText := true, laidKinds := [.data], laidTests := true, laidLooks := .later }
def DiagramApplyUptoCardSaid : Prop := Claim7.holds Tryd.pinned (.plain (OpenSpec.upto diagramApplySpec)) diagramApplyUptoCard

/-- THE SECOND FORM's CARD OF 'sederuntlaw11.DiagramDeMorgan'. -/
def diagramDeMorganUptoCard : Claim7 := { stood := { row := diagramDeMorganUptoRow, standIns := [], harness := (true, "20c557b193d76df3262baedf8dd7fffd90adfecbd6dbf559f88ec6759bbf1a48"), looks := false }, kinds := [], alts := [], laidByText := true, laidKinds := [.data], laidTests := true, laidLooks := .later }
def DiagramDeMorganUptoCardSaid : Prop := Claim7.holds Tryd.pinned (.plain (OpenSpec.upto diagramDeMorganSpec)) diagramDeMorganUptoCard

/-- THE SECOND FORM's CARD OF 'sederuntlaw11.DiagramOf'. -/
def diagramOfUptoCard : Claim7 := { stood := { row := diagramOfUptoRow, standIns := [], harness := (true, "20c557b193d76df3262baedf8dd7fffd90adfecbd6dbf559f88ec6759bbf1a48"), looks := false }, kinds := [], alts := [], laidByText := true, laidKinds := [.data], laidTests := true, laidLooks := .later }
def DiagramOfUptoCardSaid : Prop := Claim7.holds Tryd.pinned (.plain (OpenSpec.upto diagramOfSpec)) diagramOfUptoCard

/-- THE SECOND FORM's CARD OF 'sederuntlaw11.DiagramValid'. -/
def diagramValidUptoCard : Claim7 := { stood := { row := diagramValidUptoRow, standIns := [], harness := (true, "20c557b193d76df3262baedf8dd7fffd90adfecbd6dbf559f88ec6759bbf1a48"), looks := false }, kinds := [], alts := [], laidByText := true, laidKinds := [.data], laidTests := true, laidLooks := .later }
def DiagramValidUptoCardSaid : Prop := Claim7.holds Tryd.pinned (.plain (OpenSpec.upto diagramValidSpec)) diagramValidUptoCard
end Rows
end Go.Proofs.YtebinjcofclfaaaDoor
