/-
  NARROWER THAN 'FOR EVERY INPUT', by the rows' own cells (each row's printed sentence says how): BuildThreshold: laid · BuildGrid: laid · BuildWall: laid · BuildTree: laid · BuildCompose: laid · BuildDual: laid · BuildSizes: laid · BuildMeet: laid · BuildWeighted: laid · BuildSites: laid.
  DERIVED. THE GIVEN ROWS OF THIS SEAT. 10 by the template 'for every input the law returns true; each argument reads behind the call as it read before'; 0 by the template 'total and deterministic' (their statements: YtdeligopifoceaaDoorTotals.lean).
  GIVEN WITH THE SEED: the statements are not yours to turn. If you find one false, say at which input.
  Laid BY PROGRAM, IN A SANDBOX (cutbox-rows.mjs): the forced cells as the released guide's own fill.sh prints them over the translation ad50d1d75c9e6852… (all of the seat's roots in one cut). By AI agents, Wed Nov 11 2026. No macro, syntax, notation, axiom, sorry.
-/
import Derived.Test.YtdeligopifoceaaDoorChecked
import GoSem.Claim
import GoSem.ClaimJoined
import GoSem.ClaimMapViews
import Derived.JoinedTies
import Derived.KernelRfl
namespace Go.Proofs.YtdeligopifoceaaDoor
/- THE CELL 'sum', in the pinned program and in every row, IS THE sha256 OF THE DUMP (.gsa) THAT YtdeligopifoceaaDoorProg.lean LOADS. Nothing in Lean hashes anything: it is a label: what it is worth is what the hold of that sum in a sandbox is worth. -/
noncomputable def Tryd.pinned : Pinned := { name := "ytdeligopifoceaadoor", sum := "ad50d1d75c9e68526112a6617f5fc9a7ab8167e51f59f7f97f4fdd091467cb18", checked := Tryd.checked }
namespace Rows
def none {H : Type} : Left H := { results := [], args := [] }

/- WHAT THE LISTED PACKAGE-LEVEL VARIABLES READ AS WHEN THE CALL BEGINS. Each datum BY PROGRAM (the guide's laid-datum.mjs) off the statement by which the dump's own 'gosem.cut.vars' lays the variable. In a bare row this is a premise. The card (YtdeligopifoceaaDoorCards.lean) ties it to the program's text. -/
def laid_math_bits_deBruijn32tab {H : Type} : DataW H := .agg [.lit (.int .u8 0), .lit (.int .u8 1), .lit (.int .u8 28), .lit (.int .u8 2), .lit (.int .u8 29), .lit (.int .u8 14), .lit (.int .u8 24), .lit (.int .u8 3), .lit (.int .u8 30), .lit (.int .u8 22), .lit (.int .u8 20), .lit (.int .u8 15), .lit (.int .u8 25), .lit (.int .u8 17), .lit (.int .u8 4), .lit (.int .u8 8), .lit (.int .u8 31), .lit (.int .u8 27), .lit (.int .u8 13), .lit (.int .u8 23), .lit (.int .u8 21), .lit (.int .u8 19), .lit (.int .u8 16), .lit (.int .u8 7), .lit (.int .u8 26), .lit (.int .u8 12), .lit (.int .u8 18), .lit (.int .u8 6), .lit (.int .u8 11), .lit (.int .u8 5), .lit (.int .u8 10), .lit (.int .u8 9)]
def laid_math_bits_deBruijn64tab {H : Type} : DataW H := .agg [.lit (.int .u8 0), .lit (.int .u8 1), .lit (.int .u8 56), .lit (.int .u8 2), .lit (.int .u8 57), .lit (.int .u8 49), .lit (.int .u8 28), .lit (.int .u8 3), .lit (.int .u8 61), .lit (.int .u8 58), .lit (.int .u8 42), .lit (.int .u8 50), .lit (.int .u8 38), .lit (.int .u8 29), .lit (.int .u8 17), .lit (.int .u8 4), .lit (.int .u8 62), .lit (.int .u8 47), .lit (.int .u8 59), .lit (.int .u8 36), .lit (.int .u8 45), .lit (.int .u8 43), .lit (.int .u8 51), .lit (.int .u8 22), .lit (.int .u8 53), .lit (.int .u8 39), .lit (.int .u8 33), .lit (.int .u8 30), .lit (.int .u8 24), .lit (.int .u8 18), .lit (.int .u8 12), .lit (.int .u8 5), .lit (.int .u8 63), .lit (.int .u8 55), .lit (.int .u8 48), .lit (.int .u8 27), .lit (.int .u8 60), .lit (.int .u8 41), .lit (.int .u8 37), .lit (.int .u8 16), .lit (.int .u8 46), .lit (.int .u8 35), .lit (.int .u8 44), .lit (.int .u8 21), .lit (.int .u8 52), .lit (.int .u8 32), .lit (.int .u8 23), .lit (.int .u8 11), .lit (.int .u8 54), .lit (.int .u8 26), .lit (.int .u8 40), .lit (.int .u8 15), .lit (.int .u8 34), .lit (.int .u8 20), .lit (.int .u8 31), .lit (.int .u8 10), .lit (.int .u8 25), .lit (.int .u8 14), .lit (.int .u8 19), .lit (.int .u8 9), .lit (.int .u8 13), .lit (.int .u8 8), .lit (.int .u8 7), .lit (.int .u8 6)]
def laid_internal_strconv_uint64pow10 {H : Type} : DataW H := .agg [.lit (.int .u64 1), .lit (.int .u64 10), .lit (.int .u64 100), .lit (.int .u64 1000), .lit (.int .u64 10000), .lit (.int .u64 100000), .lit (.int .u64 1000000), .lit (.int .u64 10000000), .lit (.int .u64 100000000), .lit (.int .u64 1000000000), .lit (.int .u64 10000000000), .lit (.int .u64 100000000000), .lit (.int .u64 1000000000000), .lit (.int .u64 10000000000000), .lit (.int .u64 100000000000000), .lit (.int .u64 1000000000000000), .lit (.int .u64 10000000000000000), .lit (.int .u64 100000000000000000), .lit (.int .u64 1000000000000000000), .lit (.int .u64 10000000000000000000)]

/-- 'sederuntlaw12.BuildThreshold': WHATEVER THE INPUT: true; the input reads as it did. -/
def buildThresholdSpec : ChangeSpec := { name := "buildThreshold", fn := fun _ => fun
  | [d1, d2] => { results := [.lit (.bool true)], args := [d1, d2] }
  | _ => none }
def buildThresholdRow : OpenClaim := { program := "ytdeligopifoceaadoor", sum := "ad50d1d75c9e68526112a6617f5fc9a7ab8167e51f59f7f97f4fdd091467cb18", func := "sederunt/sederuntlaw12.BuildThreshold", spec := "buildThreshold", unfollowed := true, recurses := true, named := ["internal/strconv.uint64pow10", "math/bits.deBruijn32tab", "math/bits.deBruijn64tab"], apart := false, laid := [("math/bits.deBruijn32tab", laid_math_bits_deBruijn32tab), ("math/bits.deBruijn64tab", laid_math_bits_deBruijn64tab), ("internal/strconv.uint64pow10", laid_internal_strconv_uint64pow10)] }
def BuildThresholdSaid : Prop := buildThresholdRow.holds Tryd.pinned (OpenSpec.ofChange buildThresholdSpec)

/-- ITS FALSE NEIGHBOUR: 'it returns false'. Refute it at one input. -/
def buildThresholdWrong : ChangeSpec := { name := "buildThreshold", fn := fun _ => fun
  | [d1, d2] => { results := [.lit (.bool false)], args := [d1, d2] }
  | _ => none }
def BuildThresholdWrongFalsely : Prop := buildThresholdRow.holds Tryd.pinned (OpenSpec.ofChange buildThresholdWrong)

/-- 'sederuntlaw12.BuildGrid': WHATEVER THE INPUT: true; the input reads as it did. -/
def buildGridSpec : ChangeSpec := { name := "buildGrid", fn := fun _ => fun
  | [d1, d2, d3] => { results := [.lit (.bool true)], args := [d1, d2, d3] }
  | _ => none }
def buildGridRow : OpenClaim := { program := "ytdeligopifoceaadoor", sum := "ad50d1d75c9e68526112a6617f5fc9a7ab8167e51f59f7f97f4fdd091467cb18", func := "sederunt/sederuntlaw12.BuildGrid", spec := "buildGrid", unfollowed := true, recurses := true, named := ["internal/strconv.uint64pow10", "math/bits.deBruijn32tab", "math/bits.deBruijn64tab"], apart := false, laid := [("math/bits.deBruijn32tab", laid_math_bits_deBruijn32tab), ("math/bits.deBruijn64tab", laid_math_bits_deBruijn64tab), ("internal/strconv.uint64pow10", laid_internal_strconv_uint64pow10)] }
def BuildGridSaid : Prop := buildGridRow.holds Tryd.pinned (OpenSpec.ofChange buildGridSpec)

/-- ITS FALSE NEIGHBOUR: 'it returns false'. Refute it at one input. -/
def buildGridWrong : ChangeSpec := { name := "buildGrid", fn := fun _ => fun
  | [d1, d2, d3] => { results := [.lit (.bool false)], args := [d1, d2, d3] }
  | _ => none }
def BuildGridWrongFalsely : Prop := buildGridRow.holds Tryd.pinned (OpenSpec.ofChange buildGridWrong)

/-- 'sederuntlaw12.BuildWall': WHATEVER THE INPUT: true; the input reads as it did. -/
def buildWallSpec : ChangeSpec := { name := "buildWall", fn := fun _ => fun
  | [d1, d2] => { results := [.lit (.bool true)], args := [d1, d2] }
  | _ => none }
def buildWallRow : OpenClaim := { program := "ytdeligopifoceaadoor", sum := "ad50d1d75c9e68526112a6617f5fc9a7ab8167e51f59f7f97f4fdd091467cb18", func := "sederunt/sederuntlaw12.BuildWall", spec := "buildWall", unfollowed := true, recurses := true, named := ["internal/strconv.uint64pow10", "math/bits.deBruijn32tab", "math/bits.deBruijn64tab"], apart := false, laid := [("math/bits.deBruijn32tab", laid_math_bits_deBruijn32tab), ("math/bits.deBruijn64tab", laid_math_bits_deBruijn64tab), ("internal/strconv.uint64pow10", laid_internal_strconv_uint64pow10)] }
def BuildWallSaid : Prop := buildWallRow.holds Tryd.pinned (OpenSpec.ofChange buildWallSpec)

/-- ITS FALSE NEIGHBOUR: 'it returns false'. Refute it at one input. -/
def buildWallWrong : ChangeSpec := { name := "buildWall", fn := fun _ => fun
  | [d1, d2] => { results := [.lit (.bool false)], args := [d1, d2] }
  | _ => none }
def BuildWallWrongFalsely : Prop := buildWallRow.holds Tryd.pinned (OpenSpec.ofChange buildWallWrong)

/-- 'sederuntlaw12.BuildTree': WHATEVER THE INPUT: true; the input reads as it did. -/
def buildTreeSpec : ChangeSpec := { name := "buildTree", fn := fun _ => fun
  | [d1, d2] => { results := [.lit (.bool true)], args := [d1, d2] }
  | _ => none }
def buildTreeRow : OpenClaim := { program := "ytdeligopifoceaadoor", sum := "ad50d1d75c9e68526112a6617f5fc9a7ab8167e51f59f7f97f4fdd091467cb18", func := "sederunt/sederuntlaw12.BuildTree", spec := "buildTree", unfollowed := true, recurses := true, named := ["internal/strconv.uint64pow10", "math/bits.deBruijn32tab", "math/bits.deBruijn64tab"], apart := false, laid := [("math/bits.deBruijn32tab", laid_math_bits_deBruijn32tab), ("math/bits.deBruijn64tab", laid_math_bits_deBruijn64tab), ("internal/strconv.uint64pow10", laid_internal_strconv_uint64pow10)] }
def BuildTreeSaid : Prop := buildTreeRow.holds Tryd.pinned (OpenSpec.ofChange buildTreeSpec)

/-- ITS FALSE NEIGHBOUR: 'it returns false'. Refute it at one input. -/
def buildTreeWrong : ChangeSpec := { name := "buildTree", fn := fun _ => fun
  | [d1, d2] => { results := [.lit (.bool false)], args := [d1, d2] }
  | _ => none }
def BuildTreeWrongFalsely : Prop := buildTreeRow.holds Tryd.pinned (OpenSpec.ofChange buildTreeWrong)

/-- 'sederuntlaw12.BuildCompose': WHATEVER THE INPUT: true; the input reads as it did. -/
def buildComposeSpec : ChangeSpec := { name := "buildCompose", fn := fun _ => fun
  | [d1, d2] => { results := [.lit (.bool true)], args := [d1, d2] }
  | _ => none }
def buildComposeRow : OpenClaim := { program := "ytdeligopifoceaadoor", sum := "ad50d1d75c9e68526112a6617f5fc9a7ab8167e51f59f7f97f4fdd091467cb18", func := "sederunt/sederuntlaw12.BuildCompose", spec := "buildCompose", unfollowed := true, recurses := true, named := ["internal/strconv.uint64pow10", "math/bits.deBruijn32tab", "math/bits.deBruijn64tab"], apart := false, laid := [("math/bits.deBruijn32tab", laid_math_bits_deBruijn32tab), ("math/bits.deBruijn64tab", laid_math_bits_deBruijn64tab), ("internal/strconv.uint64pow10", laid_internal_strconv_uint64pow10)] }
def BuildComposeSaid : Prop := buildComposeRow.holds Tryd.pinned (OpenSpec.ofChange buildComposeSpec)

/-- ITS FALSE NEIGHBOUR: 'it returns false'. Refute it at one input. -/
def buildComposeWrong : ChangeSpec := { name := "buildCompose", fn := fun _ => fun
  | [d1, d2] => { results := [.lit (.bool false)], args := [d1, d2] }
  | _ => none }
def BuildComposeWrongFalsely : Prop := buildComposeRow.holds Tryd.pinned (OpenSpec.ofChange buildComposeWrong)

/-- 'sederuntlaw12.BuildDual': WHATEVER THE INPUT: true; the input reads as it did. -/
def buildDualSpec : ChangeSpec := { name := "buildDual", fn := fun _ => fun
  | [d1, d2, d3] => { results := [.lit (.bool true)], args := [d1, d2, d3] }
  | _ => none }
def buildDualRow : OpenClaim := { program := "ytdeligopifoceaadoor", sum := "ad50d1d75c9e68526112a6617f5fc9a7ab8167e51f59f7f97f4fdd091467cb18", func := "sederunt/sederuntlaw12.BuildDual", spec := "buildDual", unfollowed := true, recurses := true, named := ["internal/strconv.uint64pow10", "math/bits.deBruijn32tab", "math/bits.deBruijn64tab"], apart := false, laid := [("math/bits.deBruijn32tab", laid_math_bits_deBruijn32tab), ("math/bits.deBruijn64tab", laid_math_bits_deBruijn64tab), ("internal/strconv.uint64pow10", laid_internal_strconv_uint64pow10)] }
def BuildDualSaid : Prop := buildDualRow.holds Tryd.pinned (OpenSpec.ofChange buildDualSpec)

/-- ITS FALSE NEIGHBOUR: 'it returns false'. Refute it at one input. -/
def buildDualWrong : ChangeSpec := { name := "buildDual", fn := fun _ => fun
  | [d1, d2, d3] => { results := [.lit (.bool false)], args := [d1, d2, d3] }
  | _ => none }
def BuildDualWrongFalsely : Prop := buildDualRow.holds Tryd.pinned (OpenSpec.ofChange buildDualWrong)

/-- 'sederuntlaw12.BuildSizes': WHATEVER THE INPUT: true; the input reads as it did. -/
def buildSizesSpec : ChangeSpec := { name := "buildSizes", fn := fun _ => fun
  | [d1, d2] => { results := [.lit (.bool true)], args := [d1, d2] }
  | _ => none }
def buildSizesRow : OpenClaim := { program := "ytdeligopifoceaadoor", sum := "ad50d1d75c9e68526112a6617f5fc9a7ab8167e51f59f7f97f4fdd091467cb18", func := "sederunt/sederuntlaw12.BuildSizes", spec := "buildSizes", unfollowed := true, recurses := true, named := ["internal/strconv.uint64pow10", "math/bits.deBruijn32tab", "math/bits.deBruijn64tab"], apart := false, laid := [("math/bits.deBruijn32tab", laid_math_bits_deBruijn32tab), ("math/bits.deBruijn64tab", laid_math_bits_deBruijn64tab), ("internal/strconv.uint64pow10", laid_internal_strconv_uint64pow10)] }
def BuildSizesSaid : Prop := buildSizesRow.holds Tryd.pinned (OpenSpec.ofChange buildSizesSpec)

/-- ITS FALSE NEIGHBOUR: 'it returns false'. Refute it at one input. -/
def buildSizesWrong : ChangeSpec := { name := "buildSizes", fn := fun _ => fun
  | [d1, d2] => { results := [.lit (.bool false)], args := [d1, d2] }
  | _ => none }
def BuildSizesWrongFalsely : Prop := buildSizesRow.holds Tryd.pinned (OpenSpec.ofChange buildSizesWrong)

/-- 'sederuntlaw12.BuildMeet': WHATEVER THE INPUT: true; the input reads as it did. -/
def buildMeetSpec : ChangeSpec := { name := "buildMeet", fn := fun _ => fun
  | [d] => { results := [.lit (.bool true)], args := [d] }
  | _ => none }
def buildMeetRow : OpenClaim := { program := "ytdeligopifoceaadoor", sum := "ad50d1d75c9e68526112a6617f5fc9a7ab8167e51f59f7f97f4fdd091467cb18", func := "sederunt/sederuntlaw12.BuildMeet", spec := "buildMeet", unfollowed := true, recurses := true, named := ["internal/strconv.uint64pow10", "math/bits.deBruijn32tab", "math/bits.deBruijn64tab"], apart := false, laid := [("math/bits.deBruijn32tab", laid_math_bits_deBruijn32tab), ("math/bits.deBruijn64tab", laid_math_bits_deBruijn64tab), ("internal/strconv.uint64pow10", laid_internal_strconv_uint64pow10)] }
def BuildMeetSaid : Prop := buildMeetRow.holds Tryd.pinned (OpenSpec.ofChange buildMeetSpec)

/-- ITS FALSE NEIGHBOUR: 'it returns false'. Refute it at one input. -/
def buildMeetWrong : ChangeSpec := { name := "buildMeet", fn := fun _ => fun
  | [d] => { results := [.lit (.bool false)], args := [d] }
  | _ => none }
def BuildMeetWrongFalsely : Prop := buildMeetRow.holds Tryd.pinned (OpenSpec.ofChange buildMeetWrong)

/-- 'sederuntlaw12.BuildWeighted': WHATEVER THE INPUT: true; the input reads as it did. -/
def buildWeightedSpec : ChangeSpec := { name := "buildWeighted", fn := fun _ => fun
  | [d1, d2] => { results := [.lit (.bool true)], args := [d1, d2] }
  | _ => none }
def buildWeightedRow : OpenClaim := { program := "ytdeligopifoceaadoor", sum := "ad50d1d75c9e68526112a6617f5fc9a7ab8167e51f59f7f97f4fdd091467cb18", func := "sederunt/sederuntlaw12.BuildWeighted", spec := "buildWeighted", unfollowed := true, recurses := true, named := ["internal/strconv.uint64pow10", "math/bits.deBruijn32tab", "math/bits.deBruijn64tab"], apart := false, laid := [("math/bits.deBruijn32tab", laid_math_bits_deBruijn32tab), ("math/bits.deBruijn64tab", laid_math_bits_deBruijn64tab), ("internal/strconv.uint64pow10", laid_internal_strconv_uint64pow10)] }
def BuildWeightedSaid : Prop := buildWeightedRow.holds Tryd.pinned (OpenSpec.ofChange buildWeightedSpec)

/-- ITS FALSE NEIGHBOUR: 'it returns false'. Refute it at one input. -/
def buildWeightedWrong : ChangeSpec := { name := "buildWeighted", fn := fun _ => fun
  | [d1, d2] => { results := [.lit (.bool false)], args := [d1, d2] }
  | _ => none }
def BuildWeightedWrongFalsely : Prop := buildWeightedRow.holds Tryd.pinned (OpenSpec.ofChange buildWeightedWrong)

/-- 'sederuntlaw12.BuildSites': WHATEVER THE INPUT: true; the input reads as it did. -/
def buildSitesSpec : ChangeSpec := { name := "buildSites", fn := fun _ => fun
  | [d1, d2, d3] => { results := [.lit (.bool true)], args := [d1, d2, d3] }
  | _ => none }
def buildSitesRow : OpenClaim := { program := "ytdeligopifoceaadoor", sum := "ad50d1d75c9e68526112a6617f5fc9a7ab8167e51f59f7f97f4fdd091467cb18", func := "sederunt/sederuntlaw12.BuildSites", spec := "buildSites", unfollowed := true, recurses := true, named := ["internal/strconv.uint64pow10", "math/bits.deBruijn32tab", "math/bits.deBruijn64tab"], apart := false, laid := [("math/bits.deBruijn32tab", laid_math_bits_deBruijn32tab), ("math/bits.deBruijn64tab", laid_math_bits_deBruijn64tab), ("internal/strconv.uint64pow10", laid_internal_strconv_uint64pow10)] }
def BuildSitesSaid : Prop := buildSitesRow.holds Tryd.pinned (OpenSpec.ofChange buildSitesSpec)

/-- ITS FALSE NEIGHBOUR: 'it returns false'. Refute it at one input. -/
def buildSitesWrong : ChangeSpec := { name := "buildSites", fn := fun _ => fun
  | [d1, d2, d3] => { results := [.lit (.bool false)], args := [d1, d2, d3] }
  | _ => none }
def BuildSitesWrongFalsely : Prop := buildSitesRow.holds Tryd.pinned (OpenSpec.ofChange buildSitesWrong)

/- THE SECOND FORM. 'bulk': how many values and letters a reading holds, each counted each time it is reached (what is shared counts as often as it is met; a slice's spare places count too). A statement '..UptoSaid' is the law's where the arguments, and the package variables that the reading takes, are together of bulk at most 1048576: NARROWER than '..Said'. Prove '..Said' where nothing that the law and all that it calls make is longer than what came in: it says more and counts as full. Else prove '..UptoSaid'. A law counts once. -/
mutual
def uptoBulk {H : Type} : DataW H → Nat
  | .lit (.string bytes) => bytes.length + 1
  | .lit _ => 1
  | .nil => 1
  | .ptr d => uptoBulk d + 1
  | .slice elems spare => uptoBulkAll elems + uptoBulkAll spare + 1
  | .agg parts => uptoBulkAll parts + 1
  | .iface _ d => uptoBulk d + 1
  | .map entries => uptoBulkEntries entries + 1
  | .held _ => 1
def uptoBulkAll {H : Type} : List (DataW H) → Nat
  | [] => 0
  | d :: r => uptoBulk d + uptoBulkAll r
def uptoBulkEntries {H : Type} : List (Lit × DataW H) → Nat
  | [] => 0
  | x :: r => uptoBulkEntry x + uptoBulkEntries r
def uptoBulkEntry {H : Type} : Lit × DataW H → Nat
  | (.string bytes, d) => bytes.length + uptoBulk d + 1
  | (_, d) => uptoBulk d + 1
 end
def uptoSmall : (H : Type) → List (DataW H) → Bool := fun _ ds => decide (uptoBulkAll ds ≤ 1048576)
def OpenSpec.upto (s : _root_.Go.ChangeSpec) : _root_.Go.OpenSpec := { _root_.Go.OpenSpec.ofChange s with cond := some uptoSmall }

/-- 'sederuntlaw12.BuildThreshold', WHERE WHAT IT READS IS OF BULK AT MOST 1048576: true; the input reads as it did. -/
def buildThresholdUptoRow : OpenClaim := { program := "ytdeligopifoceaadoor", sum := "ad50d1d75c9e68526112a6617f5fc9a7ab8167e51f59f7f97f4fdd091467cb18", func := "sederunt/sederuntlaw12.BuildThreshold", spec := "buildThreshold", unfollowed := true, recurses := true, named := ["internal/strconv.uint64pow10", "math/bits.deBruijn32tab", "math/bits.deBruijn64tab"], apart := false, laid := [("math/bits.deBruijn32tab", laid_math_bits_deBruijn32tab), ("math/bits.deBruijn64tab", laid_math_bits_deBruijn64tab), ("internal/strconv.uint64pow10", laid_internal_strconv_uint64pow10)], narrowed := true }
def BuildThresholdUptoSaid : Prop := buildThresholdUptoRow.holds Tryd.pinned (OpenSpec.upto buildThresholdSpec)

/-- 'sederuntlaw12.BuildGrid', WHERE WHAT IT READS IS OF BULK AT MOST 1048576: true; the input reads as it did. -/
def buildGridUptoRow : OpenClaim := { program := "ytdeligopifoceaadoor", sum := "ad50d1d75c9e68526112a6617f5fc9a7ab8167e51f59f7f97f4fdd091467cb18", func := "sederunt/sederuntlaw12.BuildGrid", spec := "buildGrid", unfollowed := true, recurses := true, named := ["internal/strconv.uint64pow10", "math/bits.deBruijn32tab", "math/bits.deBruijn64tab"], apart := false, laid := [("math/bits.deBruijn32tab", laid_math_bits_deBruijn32tab), ("math/bits.deBruijn64tab", laid_math_bits_deBruijn64tab), ("internal/strconv.uint64pow10", laid_internal_strconv_uint64pow10)], narrowed := true }
def BuildGridUptoSaid : Prop := buildGridUptoRow.holds Tryd.pinned (OpenSpec.upto buildGridSpec)

/-- 'sederuntlaw12.BuildWall', WHERE WHAT IT READS IS OF BULK AT MOST 1048576: true; the input reads as it did. -/
def buildWallUptoRow : OpenClaim := { program := "ytdeligopifoceaadoor", sum := "ad50d1d75c9e68526112a6617f5fc9a7ab8167e51f59f7f97f4fdd091467cb18", func := "sederunt/sederuntlaw12.BuildWall", spec := "buildWall", unfollowed := true, recurses := true, named := ["internal/strconv.uint64pow10", "math/bits.deBruijn32tab", "math/bits.deBruijn64tab"], apart := false, laid := [("math/bits.deBruijn32tab", laid_math_bits_deBruijn32tab), ("math/bits.deBruijn64tab", laid_math_bits_deBruijn64tab), ("internal/strconv.uint64pow10", laid_internal_strconv_uint64pow10)], narrowed := true }
def BuildWallUptoSaid : Prop := buildWallUptoRow.holds Tryd.pinned (OpenSpec.upto buildWallSpec)

/-- 'sederuntlaw12.BuildTree', WHERE WHAT IT READS IS OF BULK AT MOST 1048576: true; the input reads as it did. -/
def buildTreeUptoRow : OpenClaim := { program := "ytdeligopifoceaadoor", sum := "ad50d1d75c9e68526112a6617f5fc9a7ab8167e51f59f7f97f4fdd091467cb18", func := "sederunt/sederuntlaw12.BuildTree", spec := "buildTree", unfollowed := true, recurses := true, named := ["internal/strconv.uint64pow10", "math/bits.deBruijn32tab", "math/bits.deBruijn64tab"], apart := false, laid := [("math/bits.deBruijn32tab", laid_math_bits_deBruijn32tab), ("math/bits.deBruijn64tab", laid_math_bits_deBruijn64tab), ("internal/strconv.uint64pow10", laid_internal_strconv_uint64pow10)], narrowed := true }
def BuildTreeUptoSaid : Prop := buildTreeUptoRow.holds Tryd.pinned (OpenSpec.upto buildTreeSpec)

/-- 'sederuntlaw12.BuildCompose', WHERE WHAT IT READS IS OF BULK AT MOST 1048576: true; the input reads as it did. -/
def buildComposeUptoRow : OpenClaim := { program := "ytdeligopifoceaadoor", sum := "ad50d1d75c9e68526112a6617f5fc9a7ab8167e51f59f7f97f4fdd091467cb18", func := "sederunt/sederuntlaw12.BuildCompose", spec := "buildCompose", unfollowed := true, recurses := true, named := ["internal/strconv.uint64pow10", "math/bits.deBruijn32tab", "math/bits.deBruijn64tab"], apart := false, laid := [("math/bits.deBruijn32tab", laid_math_bits_deBruijn32tab), ("math/bits.deBruijn64tab", laid_math_bits_deBruijn64tab), ("internal/strconv.uint64pow10", laid_internal_strconv_uint64pow10)], narrowed := true }
def BuildComposeUptoSaid : Prop := buildComposeUptoRow.holds Tryd.pinned (OpenSpec.upto buildComposeSpec)

/-- 'sederuntlaw12.BuildDual', WHERE WHAT IT READS IS OF BULK AT MOST 1048576: true; the input reads as it did. -/
def buildDualUptoRow : OpenClaim := { program := "ytdeligopifoceaadoor", sum := "ad50d1d75c9e68526112a6617f5fc9a7ab8167e51f59f7f97f4fdd091467cb18", func := "sederunt/sederuntlaw12.BuildDual", spec := "buildDual", unfollowed := true, recurses := true, named := ["internal/strconv.uint64pow10", "math/bits.deBruijn32tab", "math/bits.deBruijn64tab"], apart := false, laid := [("math/bits.deBruijn32tab", laid_math_bits_deBruijn32tab), ("math/bits.deBruijn64tab", laid_math_bits_deBruijn64tab), ("internal/strconv.uint64pow10", laid_internal_strconv_uint64pow10)], narrowed := true }
def BuildDualUptoSaid : Prop := buildDualUptoRow.holds Tryd.pinned (OpenSpec.upto buildDualSpec)

/-- 'sederuntlaw12.BuildSizes', WHERE WHAT IT READS IS OF BULK AT MOST 1048576: true; the input reads as it did. -/
def buildSizesUptoRow : OpenClaim := { program := "ytdeligopifoceaadoor", sum := "ad50d1d75c9e68526112a6617f5fc9a7ab8167e51f59f7f97f4fdd091467cb18", func := "sederunt/sederuntlaw12.BuildSizes", spec := "buildSizes", unfollowed := true, recurses := true, named := ["internal/strconv.uint64pow10", "math/bits.deBruijn32tab", "math/bits.deBruijn64tab"], apart := false, laid := [("math/bits.deBruijn32tab", laid_math_bits_deBruijn32tab), ("math/bits.deBruijn64tab", laid_math_bits_deBruijn64tab), ("internal/strconv.uint64pow10", laid_internal_strconv_uint64pow10)], narrowed := true }
def BuildSizesUptoSaid : Prop := buildSizesUptoRow.holds Tryd.pinned (OpenSpec.upto buildSizesSpec)

/-- 'sederuntlaw12.BuildMeet', WHERE WHAT IT READS IS OF BULK AT MOST 1048576: true; the input reads as it did. -/
def buildMeetUptoRow : OpenClaim := { program := "ytdeligopifoceaadoor", sum := "ad50d1d75c9e68526112a6617f5fc9a7ab8167e51f59f7f97f4fdd091467cb18", func := "sederunt/sederuntlaw12.BuildMeet", spec := "buildMeet", unfollowed := true, recurses := true, named := ["internal/strconv.uint64pow10", "math/bits.deBruijn32tab", "math/bits.deBruijn64tab"], apart := false, laid := [("math/bits.deBruijn32tab", laid_math_bits_deBruijn32tab), ("math/bits.deBruijn64tab", laid_math_bits_deBruijn64tab), ("internal/strconv.uint64pow10", laid_internal_strconv_uint64pow10)], narrowed := true }
def BuildMeetUptoSaid : Prop := buildMeetUptoRow.holds Tryd.pinned (OpenSpec.upto buildMeetSpec)

/-- 'sederuntlaw12.BuildWeighted', WHERE WHAT IT READS IS OF BULK AT MOST 1048576: true; the input reads as it did. -/
def buildWeightedUptoRow : OpenClaim := { program := "ytdeligopifoceaadoor", sum := "ad50d1d75c9e68526112a6617f5fc9a7ab8167e51f59f7f97f4fdd091467cb18", func := "sederunt/sederuntlaw12.BuildWeighted", spec := "buildWeighted", unfollowed := true, recurses := true, named := ["internal/strconv.uint64pow10", "math/bits.deBruijn32tab", "math/bits.deBruijn64tab"], apart := false, laid := [("math/bits.deBruijn32tab", laid_math_bits_deBruijn32tab), ("math/bits.deBruijn64tab", laid_math_bits_deBruijn64tab), ("internal/strconv.uint64pow10", laid_internal_strconv_uint64pow10)], narrowed := true }
def BuildWeightedUptoSaid : Prop := buildWeightedUptoRow.holds Tryd.pinned (OpenSpec.upto buildWeightedSpec)

/-- 'sederuntlaw12.BuildSites', WHERE WHAT IT READS IS OF BULK AT MOST 1048576: true; the input reads as it did. -/
def buildSitesUptoRow : OpenClaim := { program := "ytdeligopifoceaadoor", sum := "ad50d1d75c9e68526112a6617f5fc9a7ab8167e51f59f7f97f4fdd091467cb18", func := "sederunt/sederuntlaw12.BuildSites", spec := "buildSites", unfollowed := true, recurses := true, named := ["internal/strconv.uint64pow10", "math/bits.deBruijn32tab", "math/bits.deBruijn64tab"], apart := false, laid := [("math/bits.deBruijn32tab", laid_math_bits_deBruijn32tab), ("math/bits.deBruijn64tab", laid_math_bits_deBruijn64tab), ("internal/strconv.uint64pow10", laid_internal_strconv_uint64pow10)], narrowed := true }
def BuildSitesUptoSaid : Prop := buildSitesUptoRow.holds Tryd.pinned (OpenSpec.upto buildSitesSpec)

end Rows
end Go.Proofs.YtdeligopifoceaaDoor
