/-
  DERIVED. GIVEN WITH THE SEED: THE CARDS: each row of YtgmpdplpodemaaaGreatDoorRows.lean that lists a variable, with what it lists TIED to the program's text (the seventh form; the later family's looks); each row that meets fmt, with fmt's text TOLD by the authors' own Lean function (tested against real Go, not proved from fmt's source: count such statements apart). THE CARD IS WHAT COUNTS. Prove the row's statement (the work); the ties are given (YtgmpdplpodemaaaGreatDoorTie.lean); close each card by the builder's one call (the guide's Derived/Test/ToyasCard.lean, 'card_holds'). Laid BY PROGRAM, IN A SANDBOX (cutbox-door.mjs). By AI agents, Wed Nov 11 2026. No macro, syntax, notation, axiom, sorry.
-/
import Derived.Test.YtgmpdplpodemaaaGreatDoorRows
import GoSem.ClaimSeven
namespace Go.Proofs.YtgmpdplpodemaaaGreatDoor
namespace Rows

/-- THE TIED CARD OF 'sederunttop.TopSurvives'. -/
def topSurvivesCard : Claim7 := { stood := { row := topSurvivesRow, standIns := [], harness := (true, "41dbead0fac631f991a28b589f143705b686a18ad42e4376e787a36b5b1608e0"), looks := false }, kinds := [], alts := [], laidByText := true, laidKinds := [.data, .data, .data], laidTests := true, laidLooks := .later }
def TopSurvivesCardSaid : Prop := Claim7.holds Tryz.pinned (.plain (OpenSpec.ofChange topSurvivesSpec)) topSurvivesCard

/-- THE TIED CARD OF 'sederunttop.TopProduct'. -/
def topProductCard : Claim7 := { stood := { row := topProductRow, standIns := [], harness := (true, "41dbead0fac631f991a28b589f143705b686a18ad42e4376e787a36b5b1608e0"), looks := false }, kinds := [], alts := [], laidByText := true, laidKinds := [.data, .data, .data], laidTests := true, laidLooks := .later }
def TopProductCardSaid : Prop := Claim7.holds Tryz.pinned (.plain (OpenSpec.ofChange topProductSpec)) topProductCard

/-- THE TIED CARD OF 'sederunttop.TopIntersection'. -/
def topIntersectionCard : Claim7 := { stood := { row := topIntersectionRow, standIns := [], harness := (true, "41dbead0fac631f991a28b589f143705b686a18ad42e4376e787a36b5b1608e0"), looks := false }, kinds := [], alts := [], laidByText := true, laidKinds := [.data, .data, .data], laidTests := true, laidLooks := .later }
def TopIntersectionCardSaid : Prop := Claim7.holds Tryz.pinned (.plain (OpenSpec.ofChange topIntersectionSpec)) topIntersectionCard

/-- THE SECOND FORM's CARD OF 'sederunttop.TopSurvives'. -/
def topSurvivesUptoCard : Claim7 := { stood := { row := topSurvivesUptoRow, standIns := [], harness := (true, "41dbead0fac631f991a28b589f143705b686a18ad42e4376e787a36b5b1608e0"), looks := false }, kinds := [], alts := [], laidByText := true, laidKinds := [.data, .data, .data], laidTests := true, laidLooks := .later }
def TopSurvivesUptoCardSaid : Prop := Claim7.holds Tryz.pinned (.plain (OpenSpec.upto topSurvivesSpec)) topSurvivesUptoCard

/-- THE SECOND FORM's CARD OF 'sederunttop.TopProduct'. -/
def topProductUptoCard : Claim7 := { stood := { row := topProductUptoRow, standIns := [], harness := (true, "41dbead0fac631f991a28b589f143705b686a18ad42e4376e787a36b5b1608e0"), looks := false }, kinds := [], alts := [], laidByText := true, laidKinds := [.data, .data, .data], laidTests := true, laidLooks := .later }
def TopProductUptoCardSaid : Prop := Claim7.holds Tryz.pinned (.plain (OpenSpec.upto topProductSpec)) topProductUptoCard

/-- THE SECOND FORM's CARD OF 'sederunttop.TopIntersection'. -/
def topIntersectionUptoCard : Claim7 := { stood := { row := topIntersectionUptoRow, standIns := [], harness := (true, "41dbead0fac631f991a28b589f143705b686a18ad42e4376e787a36b5b1608e0"), looks := false }, kinds := [], alts := [], laidByText := true, laidKinds := [.data, .data, .data], laidTests := true, laidLooks := .later }
def TopIntersectionUptoCardSaid : Prop := Claim7.holds Tryz.pinned (.plain (OpenSpec.upto topIntersectionSpec)) topIntersectionUptoCard
end Rows
end Go.Proofs.YtgmpdplpodemaaaGreatDoor
