/-
  DERIVED. GIVEN WITH THE SEED: THE CARDS: each row of YtdeligopifoceaaDoorRows.lean that lists a variable, with what it lists TIED to the program's text (the seventh form; the later family's looks); each row that meets fmt, with fmt's text TOLD by the authors' own Lean function (tested against real Go, not proved from fmt's source: count such statements apart). THE CARD IS WHAT COUNTS. Prove the row's statement (the work); the ties are given (YtdeligopifoceaaDoorTie.lean); close each card by the builder's one call (the guide's Derived/Test/ToyasCard.lean, 'card_holds'). Laid BY PROGRAM, IN A SANDBOX (cutbox-door.mjs). By AI agents, Wed Nov 11 2026. No macro, syntax, notation, axiom, sorry.
-/
import Derived.Test.YtdeligopifoceaaDoorRows
import GoSem.ClaimSeven
namespace Go.Proofs.YtdeligopifoceaaDoor
namespace Rows

/-- THE TIED CARD OF 'sederuntlaw12.BuildThreshold'. -/
def buildThresholdCard : Claim7 := { stood := { row := buildThresholdRow, standIns := [], harness := (true, "747109d29ee8930f0bedb217368bd18504995a7db134795a3b25723c9cab0eba"), looks := false }, kinds := [], alts := [], laidByText := true, laidKinds := [.data, .data, .data], laidTests := true, laidLooks := .later }
def BuildThresholdCardSaid : Prop := Claim7.holds Tryd.pinned (.plain (OpenSpec.ofChange buildThresholdSpec)) buildThresholdCard

/-- THE TIED CARD OF 'sederuntlaw12.BuildGrid'. -/
def buildGridCard : Claim7 := { stood := { row := buildGridRow, standIns := [], harness := (true, "747109d29ee8930f0bedb217368bd18504995a7db134795a3b25723c9cab0eba"), looks := false }, kinds := [], alts := [], laidByText := true, laidKinds := [.data, .data, .data], laidTests := true, laidLooks := .later }
def BuildGridCardSaid : Prop := Claim7.holds Tryd.pinned (.plain (OpenSpec.ofChange buildGridSpec)) buildGridCard

/-- THE TIED CARD OF 'sederuntlaw12.BuildWall'. -/
def buildWallCard : Claim7 := { stood := { row := buildWallRow, standIns := [], harness := (true, "747109d29ee8930f0bedb217368bd18504995a7db134795a3b25723c9cab0eba"), looks := false }, kinds := [], alts := [], laidByText := true, laidKinds := [.data, .data, .data], laidTests := true, laidLooks := .later }
def BuildWallCardSaid : Prop := Claim7.holds Tryd.pinned (.plain (OpenSpec.ofChange buildWallSpec)) buildWallCard

/-- THE TIED CARD OF 'sederuntlaw12.BuildTree'. -/
def buildTreeCard : Claim7 := { stood := { row := buildTreeRow, standIns := [], harness := (true, "747109d29ee8930f0bedb217368bd18504995a7db134795a3b25723c9cab0eba"), looks := false }, kinds := [], alts := [], laidByText := true, laidKinds := [.data, .data, .data], laidTests := true, laidLooks := .later }
def BuildTreeCardSaid : Prop := Claim7.holds Tryd.pinned (.plain (OpenSpec.ofChange buildTreeSpec)) buildTreeCard

/-- THE TIED CARD OF 'sederuntlaw12.BuildCompose'. -/
def buildComposeCard : Claim7 := { stood := { row := buildComposeRow, standIns := [], harness := (true, "747109d29ee8930f0bedb217368bd18504995a7db134795a3b25723c9cab0eba"), looks := false }, kinds := [], alts := [], laidByText := true, laidKinds := [.data, .data, .data], laidTests := true, laidLooks := .later }
def BuildComposeCardSaid : Prop := Claim7.holds Tryd.pinned (.plain (OpenSpec.ofChange buildComposeSpec)) buildComposeCard

/-- THE TIED CARD OF 'sederuntlaw12.BuildDual'. -/
def buildDualCard : Claim7 := { stood := { row := buildDualRow, standIns := [], harness := (true, "747109d29ee8930f0bedb217368bd18504995a7db134795a3b25723c9cab0eba"), looks := false }, kinds := [], alts := [], laidByText := true, laidKinds := [.data, .data, .data], laidTests := true, laidLooks := .later }
def BuildDualCardSaid : Prop := Claim7.holds Tryd.pinned (.plain (OpenSpec.ofChange buildDualSpec)) buildDualCard

/-- THE TIED CARD OF 'sederuntlaw12.BuildSizes'. -/
def buildSizesCard : Claim7 := { stood := { row := buildSizesRow, standIns := [], harness := (true, "747109d29ee8930f0bedb217368bd18504995a7db134795a3b25723c9cab0eba"), looks := false }, kinds := [], alts := [], laidByText := true, laidKinds := [.data, .data, .data], laidTests := true, laidLooks := .later }
def BuildSizesCardSaid : Prop := Claim7.holds Tryd.pinned (.plain (OpenSpec.ofChange buildSizesSpec)) buildSizesCard

/-- THE TIED CARD OF 'sederuntlaw12.BuildMeet'. -/
def buildMeetCard : Claim7 := { stood := { row := buildMeetRow, standIns := [], harness := (true, "747109d29ee8930f0bedb217368bd18504995a7db134795a3b25723c9cab0eba"), looks := false }, kinds := [], alts := [], laidByText := true, laidKinds := [.data, .data, .data], laidTests := true, laidLooks := .later }
def BuildMeetCardSaid : Prop := Claim7.holds Tryd.pinned (.plain (OpenSpec.ofChange buildMeetSpec)) buildMeetCard

/-- THE TIED CARD OF 'sederuntlaw12.BuildWeighted'. -/
def buildWeightedCard : Claim7 := { stood := { row := buildWeightedRow, standIns := [], harness := (true, "747109d29ee8930f0bedb217368bd18504995a7db134795a3b25723c9cab0eba"), looks := false }, kinds := [], alts := [], laidByText := true, laidKinds := [.data, .data, .data], laidTests := true, laidLooks := .later }
def BuildWeightedCardSaid : Prop := Claim7.holds Tryd.pinned (.plain (OpenSpec.ofChange buildWeightedSpec)) buildWeightedCard

/-- THE TIED CARD OF 'sederuntlaw12.BuildSites'. -/
def buildSitesCard : Claim7 := { stood := { row := buildSitesRow, standIns := [], harness := (true, "747109d29ee8930f0bedb217368bd18504995a7db134795a3b25723c9cab0eba"), looks := false }, kinds := [], alts := [], laidByText := true, laidKinds := [.data, .data, .data], laidTests := true, laidLooks := .later }
def BuildSitesCardSaid : Prop := Claim7.holds Tryd.pinned (.plain (OpenSpec.ofChange buildSitesSpec)) buildSitesCard

/-- THE SECOND FORM's CARD OF 'sederuntlaw12.BuildThreshold'. -/
def buildThresholdUptoCard : Claim7 := { stood := { row := buildThresholdUptoRow, standIns := [], harness := (true, "747109d29ee8930f0bedb217368bd18504995a7db134795a3b25723c9cab0eba"), looks := false }, kinds := [], alts := [], laidByText := true, laidKinds := [.data, .data, .data], laidTests := true, laidLooks := .later }
def BuildThresholdUptoCardSaid : Prop := Claim7.holds Tryd.pinned (.plain (OpenSpec.upto buildThresholdSpec)) buildThresholdUptoCard

/-- THE SECOND FORM's CARD OF 'sederuntlaw12.BuildGrid'. -/
def buildGridUptoCard : Claim7 := { stood := { row := buildGridUptoRow, standIns := [], harness := (true, "747109d29ee8930f0bedb217368bd18504995a7db134795a3b25723c9cab0eba"), looks := false }, kinds := [], alts := [], laidByText := true, laidKinds := [.data, .data, .data], laidTests := true, laidLooks := .later }
def BuildGridUptoCardSaid : Prop := Claim7.holds Tryd.pinned (.plain (OpenSpec.upto buildGridSpec)) buildGridUptoCard

/-- THE SECOND FORM's CARD OF 'sederuntlaw12.BuildWall'. -/
def buildWallUptoCard : Claim7 := { stood := { row := buildWallUptoRow, standIns := [], harness := (true, "747109d29ee8930f0bedb217368bd18504995a7db134795a3b25723c9cab0eba"), looks := false }, kinds := [], alts := [], laidByText := true, laidKinds := [.data, .data, .data], laidTests := true, laidLooks := .later }
def BuildWallUptoCardSaid : Prop := Claim7.holds Tryd.pinned (.plain (OpenSpec.upto buildWallSpec)) buildWallUptoCard

/-- THE SECOND FORM's CARD OF 'sederuntlaw12.BuildTree'. -/
def buildTreeUptoCard : Claim7 := { stood := { row := buildTreeUptoRow, standIns := [], harness := (true, "747109d29ee8930f0bedb217368bd18504995a7db134795a3b25723c9cab0eba"), looks := false }, kinds := [], alts := [], laidByText := true, laidKinds := [.data, .data, .data], laidTests := true, laidLooks := .later }
def BuildTreeUptoCardSaid : Prop := Claim7.holds Tryd.pinned (.plain (OpenSpec.upto buildTreeSpec)) buildTreeUptoCard

/-- THE SECOND FORM's CARD OF 'sederuntlaw12.BuildCompose'. -/
def buildComposeUptoCard : Claim7 := { stood := { row := buildComposeUptoRow, standIns := [], harness := (true, "747109d29ee8930f0bedb217368bd18504995a7db134795a3b25723c9cab0eba"), looks := false }, kinds := [], alts := [], laidByText := true, laidKinds := [.data, .data, .data], laidTests := true, laidLooks := .later }
def BuildComposeUptoCardSaid : Prop := Claim7.holds Tryd.pinned (.plain (OpenSpec.upto buildComposeSpec)) buildComposeUptoCard

/-- THE SECOND FORM's CARD OF 'sederuntlaw12.BuildDual'. -/
def buildDualUptoCard : Claim7 := { stood := { row := buildDualUptoRow, standIns := [], harness := (true, "747109d29ee8930f0bedb217368bd18504995a7db134795a3b25723c9cab0eba"), looks := false }, kinds := [], alts := [], laidByText := true, laidKinds := [.data, .data, .data], laidTests := true, laidLooks := .later }
def BuildDualUptoCardSaid : Prop := Claim7.holds Tryd.pinned (.plain (OpenSpec.upto buildDualSpec)) buildDualUptoCard

/-- THE SECOND FORM's CARD OF 'sederuntlaw12.BuildSizes'. -/
def buildSizesUptoCard : Claim7 := { stood := { row := buildSizesUptoRow, standIns := [], harness := (true, "747109d29ee8930f0bedb217368bd18504995a7db134795a3b25723c9cab0eba"), looks := false }, kinds := [], alts := [], laidByText := true, laidKinds := [.data, .data, .data], laidTests := true, laidLooks := .later }
def BuildSizesUptoCardSaid : Prop := Claim7.holds Tryd.pinned (.plain (OpenSpec.upto buildSizesSpec)) buildSizesUptoCard

/-- THE SECOND FORM's CARD OF 'sederuntlaw12.BuildMeet'. -/
def buildMeetUptoCard : Claim7 := { stood := { row := buildMeetUptoRow, standIns := [], harness := (true, "747109d29ee8930f0bedb217368bd18504995a7db134795a3b25723c9cab0eba"), looks := false }, kinds := [], alts := [], laidByText := true, laidKinds := [.data, .data, .data], laidTests := true, laidLooks := .later }
def BuildMeetUptoCardSaid : Prop := Claim7.holds Tryd.pinned (.plain (OpenSpec.upto buildMeetSpec)) buildMeetUptoCard

/-- THE SECOND FORM's CARD OF 'sederuntlaw12.BuildWeighted'. -/
def buildWeightedUptoCard : Claim7 := { stood := { row := buildWeightedUptoRow, standIns := [], harness := (true, "747109d29ee8930f0bedb217368bd18504995a7db134795a3b25723c9cab0eba"), looks := false }, kinds := [], alts := [], laidByText := true, laidKinds := [.data, .data, .data], laidTests := true, laidLooks := .later }
def BuildWeightedUptoCardSaid : Prop := Claim7.holds Tryd.pinned (.plain (OpenSpec.upto buildWeightedSpec)) buildWeightedUptoCard

/-- THE SECOND FORM's CARD OF 'sederuntlaw12.BuildSites'. -/
def buildSitesUptoCard : Claim7 := { stood := { row := buildSitesUptoRow, standIns := [], harness := (true, "747109d29ee8930f0bedb217368bd18504995a7db134795a3b25723c9cab0eba"), looks := false }, kinds := [], alts := [], laidByText := true, laidKinds := [.data, .data, .data], laidTests := true, laidLooks := .later }
def BuildSitesUptoCardSaid : Prop := Claim7.holds Tryd.pinned (.plain (OpenSpec.upto buildSitesSpec)) buildSitesUptoCard
end Rows
end Go.Proofs.YtdeligopifoceaaDoor
