/-
  NARROWER THAN 'FOR EVERY INPUT', by the rows' own cells (each row's printed sentence says how): DiagramCounts: laid · DiagramEval: laid · DiagramFamily: laid · DiagramNot: laid · DiagramMinimal: laid · DiagramApply: laid · DiagramDeMorgan: laid · DiagramOf: laid · DiagramValid: laid.
  DERIVED. THE GIVEN ROWS OF THIS SEAT. 9 by the template 'for every input the law returns true; each argument reads behind the call as it read before'; 0 by the template 'total and deterministic' (their statements: YtebinjcofclfaaaDoorTotals.lean).
  GIVEN WITH THE SEED: the statements are not yours to turn. If you find one false, say at which input.
  Laid BY PROGRAM, IN A SANDBOX (cutbox-rows.mjs): the forced cells as the released guide's own fill.sh prints them over the translation c83d6391430b64ea… (all of the seat's roots in one cut). By AI agents, Wed Nov 11 2026. No macro, syntax, notation, axiom, sorry.
-/
import Derived.Test.YtebinjcofclfaaaDoorChecked
import GoSem.Claim
import GoSem.ClaimJoined
import GoSem.ClaimMapViews
import Derived.JoinedTies
import Derived.KernelRfl
namespace Go.Proofs.YtebinjcofclfaaaDoor
/- THE CELL 'sum', in the pinned program and in every row, IS THE sha256 OF THE DUMP (.gsa) THAT YtebinjcofclfaaaDoorProg.lean LOADS. Nothing in Lean hashes anything: it is a label: what it is worth is what the hold of that sum in a sandbox is worth. -/
noncomputable def Tryd.pinned : Pinned := { name := "ytebinjcofclfaaadoor", sum := "c83d6391430b64ead1142c05d308c1350f816886501d4f2f5ffe44880a44272b", checked := Tryd.checked }
namespace Rows
def none {H : Type} : Left H := { results := [], args := [] }

/- WHAT THE LISTED PACKAGE-LEVEL VARIABLES READ AS WHEN THE CALL BEGINS. Each datum BY PROGRAM (the guide's laid-datum.mjs) off the statement by which the dump's own 'gosem.cut.vars' lays the variable. In a bare row this is a premise. The card (YtebinjcofclfaaaDoorCards.lean) ties it to the program's text. -/
def laid_math_bits_deBruijn32tab {H : Type} : DataW H := .agg [.lit (.int .u8 0), .lit (.int .u8 1), .lit (.int .u8 28), .lit (.int .u8 2), .lit (.int .u8 29), .lit (.int .u8 14), .lit (.int .u8 24), .lit (.int .u8 3), .lit (.int .u8 30), .lit (.int .u8 22), .lit (.int .u8 20), .lit (.int .u8 15), .lit (.int .u8 25), .lit (.int .u8 17), .lit (.int .u8 4), .lit (.int .u8 8), .lit (.int .u8 31), .lit (.int .u8 27), .lit (.int .u8 13), .lit (.int .u8 23), .lit (.int .u8 21), .lit (.int .u8 19), .lit (.int .u8 16), .lit (.int .u8 7), .lit (.int .u8 26), .lit (.int .u8 12), .lit (.int .u8 18), .lit (.int .u8 6), .lit (.int .u8 11), .lit (.int .u8 5), .lit (.int .u8 10), .lit (.int .u8 9)]

/-- 'sederuntlaw11.DiagramCounts': WHATEVER THE INPUT: true; the input reads as it did. -/
def diagramCountsSpec : ChangeSpec := { name := "diagramCounts", fn := fun _ => fun
  | [d] => { results := [.lit (.bool true)], args := [d] }
  | _ => none }
def diagramCountsRow : OpenClaim := { program := "ytebinjcofclfaaadoor", sum := "c83d6391430b64ead1142c05d308c1350f816886501d4f2f5ffe44880a44272b", func := "sederunt/sederuntlaw11.DiagramCounts", spec := "diagramCounts", unfollowed := true, recurses := true, named := ["math/bits.deBruijn32tab"], plainKeys := false, apart := false, laid := [("math/bits.deBruijn32tab", laid_math_bits_deBruijn32tab)] }
def DiagramCountsSaid : Prop := diagramCountsRow.holds Tryd.pinned (OpenSpec.ofChange diagramCountsSpec)

/-- ITS FALSE NEIGHBOUR: 'it returns false'. Refute it at one input. -/
def diagramCountsWrong : ChangeSpec := { name := "diagramCounts", fn := fun _ => fun
  | [d] => { results := [.lit (.bool false)], args := [d] }
  | _ => none }
def DiagramCountsWrongFalsely : Prop := diagramCountsRow.holds Tryd.pinned (OpenSpec.ofChange diagramCountsWrong)

/-- 'sederuntlaw11.DiagramEval': WHATEVER THE INPUT: true; the input reads as it did. -/
def diagramEvalSpec : ChangeSpec := { name := "diagramEval", fn := fun _ => fun
  | [d1, d2] => { results := [.lit (.bool true)], args := [d1, d2] }
  | _ => none }
def diagramEvalRow : OpenClaim := { program := "ytebinjcofclfaaadoor", sum := "c83d6391430b64ead1142c05d308c1350f816886501d4f2f5ffe44880a44272b", func := "sederunt/sederuntlaw11.DiagramEval", spec := "diagramEval", unfollowed := true, recurses := true, named := ["math/bits.deBruijn32tab"], plainKeys := false, apart := false, laid := [("math/bits.deBruijn32tab", laid_math_bits_deBruijn32tab)] }
def DiagramEvalSaid : Prop := diagramEvalRow.holds Tryd.pinned (OpenSpec.ofChange diagramEvalSpec)

/-- ITS FALSE NEIGHBOUR: 'it returns false'. Refute it at one input. -/
def diagramEvalWrong : ChangeSpec := { name := "diagramEval", fn := fun _ => fun
  | [d1, d2] => { results := [.lit (.bool false)], args := [d1, d2] }
  | _ => none }
def DiagramEvalWrongFalsely : Prop := diagramEvalRow.holds Tryd.pinned (OpenSpec.ofChange diagramEvalWrong)

/-- 'sederuntlaw11.DiagramFamily': WHATEVER THE INPUT: true; the input reads as it did. -/
def diagramFamilySpec : ChangeSpec := { name := "diagramFamily", fn := fun _ => fun
  | [d1, d2] => { results := [.lit (.bool true)], args := [d1, d2] }
  | _ => none }
def diagramFamilyRow : OpenClaim := { program := "ytebinjcofclfaaadoor", sum := "c83d6391430b64ead1142c05d308c1350f816886501d4f2f5ffe44880a44272b", func := "sederunt/sederuntlaw11.DiagramFamily", spec := "diagramFamily", unfollowed := true, recurses := true, named := ["math/bits.deBruijn32tab"], plainKeys := false, apart := false, laid := [("math/bits.deBruijn32tab", laid_math_bits_deBruijn32tab)] }
def DiagramFamilySaid : Prop := diagramFamilyRow.holds Tryd.pinned (OpenSpec.ofChange diagramFamilySpec)

/-- ITS FALSE NEIGHBOUR: 'it returns false'. Refute it at one input. -/
def diagramFamilyWrong : ChangeSpec := { name := "diagramFamily", fn := fun _ => fun
  | [d1, d2] => { results := [.lit (.bool false)], args := [d1, d2] }
  | _ => none }
def DiagramFamilyWrongFalsely : Prop := diagramFamilyRow.holds Tryd.pinned (OpenSpec.ofChange diagramFamilyWrong)

/-- 'sederuntlaw11.DiagramNot': WHATEVER THE INPUT: true; the input reads as it did. -/
def diagramNotSpec : ChangeSpec := { name := "diagramNot", fn := fun _ => fun
  | [d] => { results := [.lit (.bool true)], args := [d] }
  | _ => none }
def diagramNotRow : OpenClaim := { program := "ytebinjcofclfaaadoor", sum := "c83d6391430b64ead1142c05d308c1350f816886501d4f2f5ffe44880a44272b", func := "sederunt/sederuntlaw11.DiagramNot", spec := "diagramNot", unfollowed := true, recurses := true, named := ["math/bits.deBruijn32tab"], plainKeys := false, apart := false, laid := [("math/bits.deBruijn32tab", laid_math_bits_deBruijn32tab)] }
def DiagramNotSaid : Prop := diagramNotRow.holds Tryd.pinned (OpenSpec.ofChange diagramNotSpec)

/-- ITS FALSE NEIGHBOUR: 'it returns false'. Refute it at one input. -/
def diagramNotWrong : ChangeSpec := { name := "diagramNot", fn := fun _ => fun
  | [d] => { results := [.lit (.bool false)], args := [d] }
  | _ => none }
def DiagramNotWrongFalsely : Prop := diagramNotRow.holds Tryd.pinned (OpenSpec.ofChange diagramNotWrong)

/-- 'sederuntlaw11.DiagramMinimal': WHATEVER THE INPUT: true; the input reads as it did. -/
def diagramMinimalSpec : ChangeSpec := { name := "diagramMinimal", fn := fun _ => fun
  | [d] => { results := [.lit (.bool true)], args := [d] }
  | _ => none }
def diagramMinimalRow : OpenClaim := { program := "ytebinjcofclfaaadoor", sum := "c83d6391430b64ead1142c05d308c1350f816886501d4f2f5ffe44880a44272b", func := "sederunt/sederuntlaw11.DiagramMinimal", spec := "diagramMinimal", unfollowed := true, recurses := true, named := ["math/bits.deBruijn32tab"], plainKeys := false, apart := false, laid := [("math/bits.deBruijn32tab", laid_math_bits_deBruijn32tab)] }
def DiagramMinimalSaid : Prop := diagramMinimalRow.holds Tryd.pinned (OpenSpec.ofChange diagramMinimalSpec)

/-- ITS FALSE NEIGHBOUR: 'it returns false'. Refute it at one input. -/
def diagramMinimalWrong : ChangeSpec := { name := "diagramMinimal", fn := fun _ => fun
  | [d] => { results := [.lit (.bool false)], args := [d] }
  | _ => none }
def DiagramMinimalWrongFalsely : Prop := diagramMinimalRow.holds Tryd.pinned (OpenSpec.ofChange diagramMinimalWrong)

/-- 'sederuntlaw11.DiagramApply': WHATEVER THE INPUT: true; the input reads as it did. -/
def diagramApplySpec : ChangeSpec := { name := "diagramApply", fn := fun _ => fun
  | [d1, d2, d3] => { results := [.lit (.bool true)], args := [d1, d2, d3] }
  | _ => none }
def diagramApplyRow : OpenClaim := { program := "ytebinjcofclfaaadoor", sum := "c83d6391430b64ead1142c05d308c1350f816886501d4f2f5ffe44880a44272b", func := "sederunt/sederuntlaw11.DiagramApply", spec := "diagramApply", unfollowed := true, recurses := true, named := ["math/bits.deBruijn32tab"], plainKeys := false, apart := false, laid := [("math/bits.deBruijn32tab", laid_math_bits_deBruijn32tab)] }
def DiagramApplySaid : Prop := diagramApplyRow.holds Tryd.pinned (OpenSpec.ofChange diagramApplySpec)

/-- ITS FALSE NEIGHBOUR: 'it returns false'. Refute it at one input. -/
def diagramApplyWrong : ChangeSpec := { name := "diagramApply", fn := fun _ => fun
  | [d1, d2, d3] => { results := [.lit (.bool false)], args := [d1, d2, d3] }
  | _ => none }
def DiagramApplyWrongFalsely : Prop := diagramApplyRow.holds Tryd.pinned (OpenSpec.ofChange diagramApplyWrong)

/-- 'sederuntlaw11.DiagramDeMorgan': WHATEVER THE INPUT: true; the input reads as it did. -/
def diagramDeMorganSpec : ChangeSpec := { name := "diagramDeMorgan", fn := fun _ => fun
  | [d1, d2] => { results := [.lit (.bool true)], args := [d1, d2] }
  | _ => none }
def diagramDeMorganRow : OpenClaim := { program := "ytebinjcofclfaaadoor", sum := "c83d6391430b64ead1142c05d308c1350f816886501d4f2f5ffe44880a44272b", func := "sederunt/sederuntlaw11.DiagramDeMorgan", spec := "diagramDeMorgan", unfollowed := true, recurses := true, named := ["math/bits.deBruijn32tab"], plainKeys := false, apart := false, laid := [("math/bits.deBruijn32tab", laid_math_bits_deBruijn32tab)] }
def DiagramDeMorganSaid : Prop := diagramDeMorganRow.holds Tryd.pinned (OpenSpec.ofChange diagramDeMorganSpec)

/-- ITS FALSE NEIGHBOUR: 'it returns false'. Refute it at one input. -/
def diagramDeMorganWrong : ChangeSpec := { name := "diagramDeMorgan", fn := fun _ => fun
  | [d1, d2] => { results := [.lit (.bool false)], args := [d1, d2] }
  | _ => none }
def DiagramDeMorganWrongFalsely : Prop := diagramDeMorganRow.holds Tryd.pinned (OpenSpec.ofChange diagramDeMorganWrong)

/-- 'sederuntlaw11.DiagramOf': WHATEVER THE INPUT: true; the input reads as it did. -/
def diagramOfSpec : ChangeSpec := { name := "diagramOf", fn := fun _ => fun
  | [d] => { results := [.lit (.bool true)], args := [d] }
  | _ => none }
def diagramOfRow : OpenClaim := { program := "ytebinjcofclfaaadoor", sum := "c83d6391430b64ead1142c05d308c1350f816886501d4f2f5ffe44880a44272b", func := "sederunt/sederuntlaw11.DiagramOf", spec := "diagramOf", unfollowed := true, recurses := true, named := ["math/bits.deBruijn32tab"], plainKeys := false, apart := false, laid := [("math/bits.deBruijn32tab", laid_math_bits_deBruijn32tab)] }
def DiagramOfSaid : Prop := diagramOfRow.holds Tryd.pinned (OpenSpec.ofChange diagramOfSpec)

/-- ITS FALSE NEIGHBOUR: 'it returns false'. Refute it at one input. -/
def diagramOfWrong : ChangeSpec := { name := "diagramOf", fn := fun _ => fun
  | [d] => { results := [.lit (.bool false)], args := [d] }
  | _ => none }
def DiagramOfWrongFalsely : Prop := diagramOfRow.holds Tryd.pinned (OpenSpec.ofChange diagramOfWrong)

/-- 'sederuntlaw11.DiagramValid': WHATEVER THE INPUT: true; the input reads as it did. -/
def diagramValidSpec : ChangeSpec := { name := "diagramValid", fn := fun _ => fun
  | [d1, d2] => { results := [.lit (.bool true)], args := [d1, d2] }
  | _ => none }
def diagramValidRow : OpenClaim := { program := "ytebinjcofclfaaadoor", sum := "c83d6391430b64ead1142c05d308c1350f816886501d4f2f5ffe44880a44272b", func := "sederunt/sederuntlaw11.DiagramValid", spec := "diagramValid", unfollowed := true, recurses := true, named := ["math/bits.deBruijn32tab"], plainKeys := false, apart := false, laid := [("math/bits.deBruijn32tab", laid_math_bits_deBruijn32tab)] }
def DiagramValidSaid : Prop := diagramValidRow.holds Tryd.pinned (OpenSpec.ofChange diagramValidSpec)

/-- ITS FALSE NEIGHBOUR: 'it returns false'. Refute it at one input. -/
def diagramValidWrong : ChangeSpec := { name := "diagramValid", fn := fun _ => fun
  | [d1, d2] => { results := [.lit (.bool false)], args := [d1, d2] }
  | _ => none }
def DiagramValidWrongFalsely : Prop := diagramValidRow.holds Tryd.pinned (OpenSpec.ofChange diagramValidWrong)

/- THE SECOND FORM. 'bulk': how many values and letters a reading holds, each counted each time it is reached (what is shared counts as often as it is met; a slice's spare places count too). A statement '..UptoSaid' is the law's where the arguments, and the package variables that the reading takes, are together of bulk at most 1048576: NARROWER than '..Said'. Prove '..Said' where nothing that the law and all that it calls make is longer than what came in: it says more and counts as full. Else prove '..UptoSaid'. A law counts once. -/
mutual
def uptoBulk {H : Type} : DataW H → Nat
  | .lit (.string bytes) => bytes.length + 1
  | .lit _ => 1
  | .nil => 1
  | .ptr d => uptoBulk d + 1
  | .slice elems spare => uptoBulkAll elems + uptoBulkAll spare + 1
  | .agg parts => uptoBulkAll parts + 1
  | .iface _ d => uptoBulk d + 1
  | .map entries => uptoBulkEntries entries + 1
  | .held _ => 1
def uptoBulkAll {H : Type} : List (DataW H) → Nat
  | [] => 0
  | d :: r => uptoBulk d + uptoBulkAll r
def uptoBulkEntries {H : Type} : List (Lit × DataW H) → Nat
  | [] => 0
  | x :: r => uptoBulkEntry x + uptoBulkEntries r
def uptoBulkEntry {H : Type} : Lit × DataW H → Nat
  | (.string bytes, d) => bytes.length + uptoBulk d + 1
  | (_, d) => uptoBulk d + 1
 end
def uptoSmall : (H : Type) → List (DataW H) → Bool := fun _ ds => decide (uptoBulkAll ds ≤ 1048576)
def OpenSpec.upto (s : _root_.Go.ChangeSpec) : _root_.Go.OpenSpec := { _root_.Go.OpenSpec.ofChange s with cond := some uptoSmall }

/-- 'sederuntlaw11.DiagramCounts', WHERE WHAT IT READS IS OF BULK AT MOST 1048576: true; the input reads as it did. -/
def diagramCountsUptoRow : OpenClaim := { program := "ytebinjcofclfaaadoor", sum := "c83d6391430b64ead1142c05d308c1350f816886501d4f2f5ffe44880a44272b", func := "sederunt/sederuntlaw11.DiagramCounts", spec := "diagramCounts", unfollowed := true, recurses := true, named := ["math/bits.deBruijn32tab"], plainKeys := false, apart := false, laid := [("math/bits.deBruijn32tab", laid_math_bits_deBruijn32tab)], narrowed := true }
def DiagramCountsUptoSaid : Prop := diagramCountsUptoRow.holds Tryd.pinned (OpenSpec.upto diagramCountsSpec)

/-- 'sederuntlaw11.DiagramEval', WHERE WHAT IT READS IS OF BULK AT MOST 1048576: true; the input reads as it did. -/
def diagramEvalUptoRow : OpenClaim := { program := "ytebinjcofclfaaadoor", sum := "c83d6391430b64ead1142c05d308c1350f816886501d4f2f5ffe44880a44272b", func := "sederunt/sederuntlaw11.DiagramEval", spec := "diagramEval", unfollowed := true, recurses := true, named := ["math/bits.deBruijn32tab"], plainKeys := false, apart := false, laid := [("math/bits.deBruijn32tab", laid_math_bits_deBruijn32tab)], narrowed := true }
def DiagramEvalUptoSaid : Prop := diagramEvalUptoRow.holds Tryd.pinned (OpenSpec.upto diagramEvalSpec)

/-- 'sederuntlaw11.DiagramFamily', WHERE WHAT IT READS IS OF BULK AT MOST 1048576: true; the input reads as it did. -/
def diagramFamilyUptoRow : OpenClaim := { program := "ytebinjcofclfaaadoor", sum := "c83d6391430b64ead1142c05d308c1350f816886501d4f2f5ffe44880a44272b", func := "sederunt/sederuntlaw11.DiagramFamily", spec := "diagramFamily", unfollowed := true, recurses := true, named := ["math/bits.deBruijn32tab"], plainKeys := false, apart := false, laid := [("math/bits.deBruijn32tab", laid_math_bits_deBruijn32tab)], narrowed := true }
def DiagramFamilyUptoSaid : Prop := diagramFamilyUptoRow.holds Tryd.pinned (OpenSpec.upto diagramFamilySpec)

/-- 'sederuntlaw11.DiagramNot', WHERE WHAT IT READS IS OF BULK AT MOST 1048576: true; the input reads as it did. -/
def diagramNotUptoRow : OpenClaim := { program := "ytebinjcofclfaaadoor", sum := "c83d6391430b64ead1142c05d308c1350f816886501d4f2f5ffe44880a44272b", func := "sederunt/sederuntlaw11.DiagramNot", spec := "diagramNot", unfollowed := true, recurses := true, named := ["math/bits.deBruijn32tab"], plainKeys := false, apart := false, laid := [("math/bits.deBruijn32tab", laid_math_bits_deBruijn32tab)], narrowed := true }
def DiagramNotUptoSaid : Prop := diagramNotUptoRow.holds Tryd.pinned (OpenSpec.upto diagramNotSpec)

/-- 'sederuntlaw11.DiagramMinimal', WHERE WHAT IT READS IS OF BULK AT MOST 1048576: true; the input reads as it did. -/
def diagramMinimalUptoRow : OpenClaim := { program := "ytebinjcofclfaaadoor", sum := "c83d6391430b64ead1142c05d308c1350f816886501d4f2f5ffe44880a44272b", func := "sederunt/sederuntlaw11.DiagramMinimal", spec := "diagramMinimal", unfollowed := true, recurses := true, named := ["math/bits.deBruijn32tab"], plainKeys := false, apart := false, laid := [("math/bits.deBruijn32tab", laid_math_bits_deBruijn32tab)], narrowed := true }
def DiagramMinimalUptoSaid : Prop := diagramMinimalUptoRow.holds Tryd.pinned (OpenSpec.upto diagramMinimalSpec)

/-- 'sederuntlaw11.DiagramApply', WHERE WHAT IT READS IS OF BULK AT MOST 1048576: true; the input reads as it did. -/
def diagramApplyUptoRow : OpenClaim := { program := "ytebinjcofclfaaadoor", sum := "c83d6391430b64ead1142c05d308c1350f816886501d4f2f5ffe44880a44272b", func := "sederunt/sederuntlaw11.DiagramApply", spec := "diagramApply", unfollowed := true, recurses := true, named := ["math/bits.deBruijn32tab"], plainKeys := false, apart := false, laid := [("math/bits.deBruijn32tab", laid_math_bits_deBruijn32tab)], narrowed := true }
def DiagramApplyUptoSaid : Prop := diagramApplyUptoRow.holds Tryd.pinned (OpenSpec.upto diagramApplySpec)

/-- 'sederuntlaw11.DiagramDeMorgan', WHERE WHAT IT READS IS OF BULK AT MOST 1048576: true; the input reads as it did. -/
def diagramDeMorganUptoRow : OpenClaim := { program := "ytebinjcofclfaaadoor", sum := "c83d6391430b64ead1142c05d308c1350f816886501d4f2f5ffe44880a44272b", func := "sederunt/sederuntlaw11.DiagramDeMorgan", spec := "diagramDeMorgan", unfollowed := true, recurses := true, named := ["math/bits.deBruijn32tab"], plainKeys := false, apart := false, laid := [("math/bits.deBruijn32tab", laid_math_bits_deBruijn32tab)], narrowed := true }
def DiagramDeMorganUptoSaid : Prop := diagramDeMorganUptoRow.holds Tryd.pinned (OpenSpec.upto diagramDeMorganSpec)

/-- 'sederuntlaw11.DiagramOf', WHERE WHAT IT READS IS OF BULK AT MOST 1048576: true; the input reads as it did. -/
def diagramOfUptoRow : OpenClaim := { program := "ytebinjcofclfaaadoor", sum := "c83d6391430b64ead1142c05d308c1350f816886501d4f2f5ffe44880a44272b", func := "sederunt/sederuntlaw11.DiagramOf", spec := "diagramOf", unfollowed := true, recurses := true, named := ["math/bits.deBruijn32tab"], plainKeys := false, apart := false, laid := [("math/bits.deBruijn32tab", laid_math_bits_deBruijn32tab)], narrowed := true }
def DiagramOfUptoSaid : Prop := diagramOfUptoRow.holds Tryd.pinned (OpenSpec.upto diagramOfSpec)

/-- 'sederuntlaw11.DiagramValid', WHERE WHAT IT READS IS OF BULK AT MOST 1048576: true; the input reads as it did. -/
def diagramValidUptoRow : OpenClaim := { program := "ytebinjcofclfaaadoor", sum := "c83d6391430b64ead1142c05d308c1350f816886501d4f2f5ffe44880a44272b", func := "sederunt/sederuntlaw11.DiagramValid", spec := "diagramValid", unfollowed := true, recurses := true, named := ["math/bits.deBruijn32tab"], plainKeys := false, apart := false, laid := [("math/bits.deBruijn32tab", laid_math_bits_deBruijn32tab)], narrowed := true }
def DiagramValidUptoSaid : Prop := diagramValidUptoRow.holds Tryd.pinned (OpenSpec.upto diagramValidSpec)

end Rows
end Go.Proofs.YtebinjcofclfaaaDoor
