/-
  DERIVED. GIVEN WITH THE SEED: THE CARDS: each row of YtabafldpnkjboaaDoorRows.lean that lists a variable, with what it lists TIED to the program's text (the seventh form; the later family's looks); each row that meets fmt, with fmt's text TOLD by the authors' own Lean function (tested against real Go, not proved from fmt's source: count such statements apart). THE CARD IS WHAT COUNTS. Prove the row's statement (the work); the ties are given (YtabafldpnkjboaaDoorTie.lean); close each card by the builder's one call (the guide's Derived/Test/ToyasCard.lean, 'card_holds'). Laid BY PROGRAM, IN A SANDBOX (cutbox-door.mjs). By AI agents, Wed Nov 11 2026. No macro, syntax, notation, axiom, sorry.
-/
import Derived.Test.YtabafldpnkjboaaDoorRows
import GoSem.ClaimSeven
namespace Go.Proofs.YtabafldpnkjboaaDoor
namespace Rows

/-- THE TIED CARD OF 'sederunttop.TopForms'. -/
def topFormsCard : Claim7 := { stood := { row := topFormsRow, standIns := [], harness := (true, "1268fbd1873aa8ef96c105ff97efa33c23a8abf50c6152a1b584871a37c268f8"), looks := false }, kinds := [], alts := [], laidByText := true, laidKinds := [.data], laidTests := true, laidLooks := .later }
def TopFormsCardSaid : Prop := Claim7.holds Tryd.pinned (.plain (OpenSpec.ofChange topFormsSpec)) topFormsCard

/-- THE SECOND FORM's CARD OF 'sederunttop.TopForms'. -/
def topFormsUptoCard : Claim7 := { stood := { row := topFormsUptoRow, standIns := [], harness := (true, "1268fbd1873aa8ef96c105ff97efa33c23a8abf50c6152a1b584871a37c268f8"), looks := false }, kinds := [], alts := [], laidByText := true, laidKinds := [.data], laidTests := true, laidLooks := .later }
def TopFormsUptoCardSaid : Prop := Claim7.holds Tryd.pinned (.plain (OpenSpec.upto topFormsSpec)) topFormsUptoCard
end Rows
end Go.Proofs.YtabafldpnkjboaaDoor
