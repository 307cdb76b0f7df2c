/-
  NARROWER THAN 'FOR EVERY INPUT', by the rows' own cells (each row's printed sentence says how): FailureOf: laid · FailureErrors: laid · FailureImportance: laid · FailurePolynomial: laid · FailureAt: laid · FailureSites: laid · FailureAlone: laid · FailureDual: laid · FailurePair: laid.
  DERIVED. THE GIVEN ROWS OF THIS SEAT. 9 by the template 'for every input the law returns true; each argument reads behind the call as it read before'; 0 by the template 'total and deterministic' (their statements: YtcbginhpibfgaaaGreatDoorTotals.lean).
  GIVEN WITH THE SEED: the statements are not yours to turn. If you find one false, say at which input.
  Laid BY PROGRAM, IN A SANDBOX (cutbox-rows.mjs): the forced cells as the released guide's own fill.sh prints them over the translation 9a70619f2b46849b… (all of the seat's roots in one cut). By AI agents, Wed Nov 11 2026. No macro, syntax, notation, axiom, sorry.
-/
import Derived.Test.YtcbginhpibfgaaaGreatDoorChecked
import GoSem.Claim
import GoSem.ClaimJoined
import GoSem.ClaimMapViews
import Derived.JoinedTies
import Derived.KernelRfl
namespace Go.Proofs.YtcbginhpibfgaaaGreatDoor
/- THE CELL 'sum', in the pinned program and in every row, IS THE sha256 OF THE DUMP (.gsa) THAT YtcbginhpibfgaaaGreatDoorProg.lean LOADS. Nothing in Lean hashes anything: it is a label: what it is worth is what the hold of that sum in a sandbox is worth. -/
noncomputable def Tryz.pinned : Pinned := { name := "ytcbginhpibfgaaagreatdoor", sum := "9a70619f2b46849ba17ebfd87c7ac54b358bfc6112f86e887921f4e850bf1200", checked := Tryz.checked }
namespace Rows
def none {H : Type} : Left H := { results := [], args := [] }

/- WHAT THE LISTED PACKAGE-LEVEL VARIABLES READ AS WHEN THE CALL BEGINS. Each datum BY PROGRAM (the guide's laid-datum.mjs) off the statement by which the dump's own 'gosem.cut.vars' lays the variable. In a bare row this is a premise. The card (YtcbginhpibfgaaaGreatDoorCards.lean) ties it to the program's text. -/
def laid_math_bits_deBruijn32tab {H : Type} : DataW H := .agg [.lit (.int .u8 0), .lit (.int .u8 1), .lit (.int .u8 28), .lit (.int .u8 2), .lit (.int .u8 29), .lit (.int .u8 14), .lit (.int .u8 24), .lit (.int .u8 3), .lit (.int .u8 30), .lit (.int .u8 22), .lit (.int .u8 20), .lit (.int .u8 15), .lit (.int .u8 25), .lit (.int .u8 17), .lit (.int .u8 4), .lit (.int .u8 8), .lit (.int .u8 31), .lit (.int .u8 27), .lit (.int .u8 13), .lit (.int .u8 23), .lit (.int .u8 21), .lit (.int .u8 19), .lit (.int .u8 16), .lit (.int .u8 7), .lit (.int .u8 26), .lit (.int .u8 12), .lit (.int .u8 18), .lit (.int .u8 6), .lit (.int .u8 11), .lit (.int .u8 5), .lit (.int .u8 10), .lit (.int .u8 9)]
def laid_math_bits_deBruijn64tab {H : Type} : DataW H := .agg [.lit (.int .u8 0), .lit (.int .u8 1), .lit (.int .u8 56), .lit (.int .u8 2), .lit (.int .u8 57), .lit (.int .u8 49), .lit (.int .u8 28), .lit (.int .u8 3), .lit (.int .u8 61), .lit (.int .u8 58), .lit (.int .u8 42), .lit (.int .u8 50), .lit (.int .u8 38), .lit (.int .u8 29), .lit (.int .u8 17), .lit (.int .u8 4), .lit (.int .u8 62), .lit (.int .u8 47), .lit (.int .u8 59), .lit (.int .u8 36), .lit (.int .u8 45), .lit (.int .u8 43), .lit (.int .u8 51), .lit (.int .u8 22), .lit (.int .u8 53), .lit (.int .u8 39), .lit (.int .u8 33), .lit (.int .u8 30), .lit (.int .u8 24), .lit (.int .u8 18), .lit (.int .u8 12), .lit (.int .u8 5), .lit (.int .u8 63), .lit (.int .u8 55), .lit (.int .u8 48), .lit (.int .u8 27), .lit (.int .u8 60), .lit (.int .u8 41), .lit (.int .u8 37), .lit (.int .u8 16), .lit (.int .u8 46), .lit (.int .u8 35), .lit (.int .u8 44), .lit (.int .u8 21), .lit (.int .u8 52), .lit (.int .u8 32), .lit (.int .u8 23), .lit (.int .u8 11), .lit (.int .u8 54), .lit (.int .u8 26), .lit (.int .u8 40), .lit (.int .u8 15), .lit (.int .u8 34), .lit (.int .u8 20), .lit (.int .u8 31), .lit (.int .u8 10), .lit (.int .u8 25), .lit (.int .u8 14), .lit (.int .u8 19), .lit (.int .u8 9), .lit (.int .u8 13), .lit (.int .u8 8), .lit (.int .u8 7), .lit (.int .u8 6)]
def laid_internal_strconv_uint64pow10 {H : Type} : DataW H := .agg [.lit (.int .u64 1), .lit (.int .u64 10), .lit (.int .u64 100), .lit (.int .u64 1000), .lit (.int .u64 10000), .lit (.int .u64 100000), .lit (.int .u64 1000000), .lit (.int .u64 10000000), .lit (.int .u64 100000000), .lit (.int .u64 1000000000), .lit (.int .u64 10000000000), .lit (.int .u64 100000000000), .lit (.int .u64 1000000000000), .lit (.int .u64 10000000000000), .lit (.int .u64 100000000000000), .lit (.int .u64 1000000000000000), .lit (.int .u64 10000000000000000), .lit (.int .u64 100000000000000000), .lit (.int .u64 1000000000000000000), .lit (.int .u64 10000000000000000000)]

/-- 'sederuntlaw16.FailureOf': WHATEVER THE INPUT: true; the input reads as it did. -/
def failureOfSpec : ChangeSpec := { name := "failureOf", fn := fun _ => fun
  | [d1, d2] => { results := [.lit (.bool true)], args := [d1, d2] }
  | _ => none }
def failureOfRow : OpenClaim := { program := "ytcbginhpibfgaaagreatdoor", sum := "9a70619f2b46849ba17ebfd87c7ac54b358bfc6112f86e887921f4e850bf1200", func := "sederunt/sederuntlaw16.FailureOf", spec := "failureOf", unfollowed := true, recurses := true, named := ["internal/strconv.uint64pow10", "math/bits.deBruijn32tab", "math/bits.deBruijn64tab"], plainKeys := false, apart := false, laid := [("math/bits.deBruijn32tab", laid_math_bits_deBruijn32tab), ("math/bits.deBruijn64tab", laid_math_bits_deBruijn64tab), ("internal/strconv.uint64pow10", laid_internal_strconv_uint64pow10)] }
def FailureOfSaid : Prop := failureOfRow.holds Tryz.pinned (OpenSpec.ofChange failureOfSpec)

/-- ITS FALSE NEIGHBOUR: 'it returns false'. Refute it at one input. -/
def failureOfWrong : ChangeSpec := { name := "failureOf", fn := fun _ => fun
  | [d1, d2] => { results := [.lit (.bool false)], args := [d1, d2] }
  | _ => none }
def FailureOfWrongFalsely : Prop := failureOfRow.holds Tryz.pinned (OpenSpec.ofChange failureOfWrong)

/-- 'sederuntlaw16.FailureErrors': WHATEVER THE INPUT: true; the input reads as it did. -/
def failureErrorsSpec : ChangeSpec := { name := "failureErrors", fn := fun _ => fun
  | [d1, d2, d3] => { results := [.lit (.bool true)], args := [d1, d2, d3] }
  | _ => none }
def failureErrorsRow : OpenClaim := { program := "ytcbginhpibfgaaagreatdoor", sum := "9a70619f2b46849ba17ebfd87c7ac54b358bfc6112f86e887921f4e850bf1200", func := "sederunt/sederuntlaw16.FailureErrors", spec := "failureErrors", unfollowed := true, recurses := true, named := ["internal/strconv.uint64pow10", "math/bits.deBruijn32tab", "math/bits.deBruijn64tab"], plainKeys := false, apart := false, laid := [("math/bits.deBruijn32tab", laid_math_bits_deBruijn32tab), ("math/bits.deBruijn64tab", laid_math_bits_deBruijn64tab), ("internal/strconv.uint64pow10", laid_internal_strconv_uint64pow10)] }
def FailureErrorsSaid : Prop := failureErrorsRow.holds Tryz.pinned (OpenSpec.ofChange failureErrorsSpec)

/-- ITS FALSE NEIGHBOUR: 'it returns false'. Refute it at one input. -/
def failureErrorsWrong : ChangeSpec := { name := "failureErrors", fn := fun _ => fun
  | [d1, d2, d3] => { results := [.lit (.bool false)], args := [d1, d2, d3] }
  | _ => none }
def FailureErrorsWrongFalsely : Prop := failureErrorsRow.holds Tryz.pinned (OpenSpec.ofChange failureErrorsWrong)

/-- 'sederuntlaw16.FailureImportance': WHATEVER THE INPUT: true; the input reads as it did. -/
def failureImportanceSpec : ChangeSpec := { name := "failureImportance", fn := fun _ => fun
  | [d1, d2, d3] => { results := [.lit (.bool true)], args := [d1, d2, d3] }
  | _ => none }
def failureImportanceRow : OpenClaim := { program := "ytcbginhpibfgaaagreatdoor", sum := "9a70619f2b46849ba17ebfd87c7ac54b358bfc6112f86e887921f4e850bf1200", func := "sederunt/sederuntlaw16.FailureImportance", spec := "failureImportance", unfollowed := true, recurses := true, named := ["internal/strconv.uint64pow10", "math/bits.deBruijn32tab", "math/bits.deBruijn64tab"], plainKeys := false, apart := false, laid := [("math/bits.deBruijn32tab", laid_math_bits_deBruijn32tab), ("math/bits.deBruijn64tab", laid_math_bits_deBruijn64tab), ("internal/strconv.uint64pow10", laid_internal_strconv_uint64pow10)] }
def FailureImportanceSaid : Prop := failureImportanceRow.holds Tryz.pinned (OpenSpec.ofChange failureImportanceSpec)

/-- ITS FALSE NEIGHBOUR: 'it returns false'. Refute it at one input. -/
def failureImportanceWrong : ChangeSpec := { name := "failureImportance", fn := fun _ => fun
  | [d1, d2, d3] => { results := [.lit (.bool false)], args := [d1, d2, d3] }
  | _ => none }
def FailureImportanceWrongFalsely : Prop := failureImportanceRow.holds Tryz.pinned (OpenSpec.ofChange failureImportanceWrong)

/-- 'sederuntlaw16.FailurePolynomial': WHATEVER THE INPUT: true; the input reads as it did. -/
def failurePolynomialSpec : ChangeSpec := { name := "failurePolynomial", fn := fun _ => fun
  | [d1, d2] => { results := [.lit (.bool true)], args := [d1, d2] }
  | _ => none }
def failurePolynomialRow : OpenClaim := { program := "ytcbginhpibfgaaagreatdoor", sum := "9a70619f2b46849ba17ebfd87c7ac54b358bfc6112f86e887921f4e850bf1200", func := "sederunt/sederuntlaw16.FailurePolynomial", spec := "failurePolynomial", unfollowed := true, recurses := true, named := ["internal/strconv.uint64pow10", "math/bits.deBruijn32tab", "math/bits.deBruijn64tab"], plainKeys := false, apart := false, laid := [("math/bits.deBruijn32tab", laid_math_bits_deBruijn32tab), ("math/bits.deBruijn64tab", laid_math_bits_deBruijn64tab), ("internal/strconv.uint64pow10", laid_internal_strconv_uint64pow10)] }
def FailurePolynomialSaid : Prop := failurePolynomialRow.holds Tryz.pinned (OpenSpec.ofChange failurePolynomialSpec)

/-- ITS FALSE NEIGHBOUR: 'it returns false'. Refute it at one input. -/
def failurePolynomialWrong : ChangeSpec := { name := "failurePolynomial", fn := fun _ => fun
  | [d1, d2] => { results := [.lit (.bool false)], args := [d1, d2] }
  | _ => none }
def FailurePolynomialWrongFalsely : Prop := failurePolynomialRow.holds Tryz.pinned (OpenSpec.ofChange failurePolynomialWrong)

/-- 'sederuntlaw16.FailureAt': WHATEVER THE INPUT: true; the input reads as it did. -/
def failureAtSpec : ChangeSpec := { name := "failureAt", fn := fun _ => fun
  | [d1, d2] => { results := [.lit (.bool true)], args := [d1, d2] }
  | _ => none }
def failureAtRow : OpenClaim := { program := "ytcbginhpibfgaaagreatdoor", sum := "9a70619f2b46849ba17ebfd87c7ac54b358bfc6112f86e887921f4e850bf1200", func := "sederunt/sederuntlaw16.FailureAt", spec := "failureAt", unfollowed := true, recurses := true, named := ["internal/strconv.uint64pow10", "math/bits.deBruijn32tab", "math/bits.deBruijn64tab"], plainKeys := false, apart := false, laid := [("math/bits.deBruijn32tab", laid_math_bits_deBruijn32tab), ("math/bits.deBruijn64tab", laid_math_bits_deBruijn64tab), ("internal/strconv.uint64pow10", laid_internal_strconv_uint64pow10)] }
def FailureAtSaid : Prop := failureAtRow.holds Tryz.pinned (OpenSpec.ofChange failureAtSpec)

/-- ITS FALSE NEIGHBOUR: 'it returns false'. Refute it at one input. -/
def failureAtWrong : ChangeSpec := { name := "failureAt", fn := fun _ => fun
  | [d1, d2] => { results := [.lit (.bool false)], args := [d1, d2] }
  | _ => none }
def FailureAtWrongFalsely : Prop := failureAtRow.holds Tryz.pinned (OpenSpec.ofChange failureAtWrong)

/-- 'sederuntlaw16.FailureSites': WHATEVER THE INPUT: true; the input reads as it did. -/
def failureSitesSpec : ChangeSpec := { name := "failureSites", fn := fun _ => fun
  | [d1, d2, d3] => { results := [.lit (.bool true)], args := [d1, d2, d3] }
  | _ => none }
def failureSitesRow : OpenClaim := { program := "ytcbginhpibfgaaagreatdoor", sum := "9a70619f2b46849ba17ebfd87c7ac54b358bfc6112f86e887921f4e850bf1200", func := "sederunt/sederuntlaw16.FailureSites", spec := "failureSites", unfollowed := true, recurses := true, named := ["internal/strconv.uint64pow10", "math/bits.deBruijn32tab", "math/bits.deBruijn64tab"], plainKeys := false, apart := false, laid := [("math/bits.deBruijn32tab", laid_math_bits_deBruijn32tab), ("math/bits.deBruijn64tab", laid_math_bits_deBruijn64tab), ("internal/strconv.uint64pow10", laid_internal_strconv_uint64pow10)] }
def FailureSitesSaid : Prop := failureSitesRow.holds Tryz.pinned (OpenSpec.ofChange failureSitesSpec)

/-- ITS FALSE NEIGHBOUR: 'it returns false'. Refute it at one input. -/
def failureSitesWrong : ChangeSpec := { name := "failureSites", fn := fun _ => fun
  | [d1, d2, d3] => { results := [.lit (.bool false)], args := [d1, d2, d3] }
  | _ => none }
def FailureSitesWrongFalsely : Prop := failureSitesRow.holds Tryz.pinned (OpenSpec.ofChange failureSitesWrong)

/-- 'sederuntlaw16.FailureAlone': WHATEVER THE INPUT: true; the input reads as it did. -/
def failureAloneSpec : ChangeSpec := { name := "failureAlone", fn := fun _ => fun
  | [d1, d2, d3] => { results := [.lit (.bool true)], args := [d1, d2, d3] }
  | _ => none }
def failureAloneRow : OpenClaim := { program := "ytcbginhpibfgaaagreatdoor", sum := "9a70619f2b46849ba17ebfd87c7ac54b358bfc6112f86e887921f4e850bf1200", func := "sederunt/sederuntlaw16.FailureAlone", spec := "failureAlone", unfollowed := true, recurses := true, named := ["internal/strconv.uint64pow10", "math/bits.deBruijn32tab", "math/bits.deBruijn64tab"], plainKeys := false, apart := false, laid := [("math/bits.deBruijn32tab", laid_math_bits_deBruijn32tab), ("math/bits.deBruijn64tab", laid_math_bits_deBruijn64tab), ("internal/strconv.uint64pow10", laid_internal_strconv_uint64pow10)] }
def FailureAloneSaid : Prop := failureAloneRow.holds Tryz.pinned (OpenSpec.ofChange failureAloneSpec)

/-- ITS FALSE NEIGHBOUR: 'it returns false'. Refute it at one input. -/
def failureAloneWrong : ChangeSpec := { name := "failureAlone", fn := fun _ => fun
  | [d1, d2, d3] => { results := [.lit (.bool false)], args := [d1, d2, d3] }
  | _ => none }
def FailureAloneWrongFalsely : Prop := failureAloneRow.holds Tryz.pinned (OpenSpec.ofChange failureAloneWrong)

/-- 'sederuntlaw16.FailureDual': WHATEVER THE INPUT: true; the input reads as it did. -/
def failureDualSpec : ChangeSpec := { name := "failureDual", fn := fun _ => fun
  | [d1, d2] => { results := [.lit (.bool true)], args := [d1, d2] }
  | _ => none }
def failureDualRow : OpenClaim := { program := "ytcbginhpibfgaaagreatdoor", sum := "9a70619f2b46849ba17ebfd87c7ac54b358bfc6112f86e887921f4e850bf1200", func := "sederunt/sederuntlaw16.FailureDual", spec := "failureDual", unfollowed := true, recurses := true, named := ["internal/strconv.uint64pow10", "math/bits.deBruijn32tab", "math/bits.deBruijn64tab"], plainKeys := false, apart := false, laid := [("math/bits.deBruijn32tab", laid_math_bits_deBruijn32tab), ("math/bits.deBruijn64tab", laid_math_bits_deBruijn64tab), ("internal/strconv.uint64pow10", laid_internal_strconv_uint64pow10)] }
def FailureDualSaid : Prop := failureDualRow.holds Tryz.pinned (OpenSpec.ofChange failureDualSpec)

/-- ITS FALSE NEIGHBOUR: 'it returns false'. Refute it at one input. -/
def failureDualWrong : ChangeSpec := { name := "failureDual", fn := fun _ => fun
  | [d1, d2] => { results := [.lit (.bool false)], args := [d1, d2] }
  | _ => none }
def FailureDualWrongFalsely : Prop := failureDualRow.holds Tryz.pinned (OpenSpec.ofChange failureDualWrong)

/-- 'sederuntlaw16.FailurePair': WHATEVER THE INPUT: true; the input reads as it did. -/
def failurePairSpec : ChangeSpec := { name := "failurePair", fn := fun _ => fun
  | [d1, d2, d3] => { results := [.lit (.bool true)], args := [d1, d2, d3] }
  | _ => none }
def failurePairRow : OpenClaim := { program := "ytcbginhpibfgaaagreatdoor", sum := "9a70619f2b46849ba17ebfd87c7ac54b358bfc6112f86e887921f4e850bf1200", func := "sederunt/sederuntlaw16.FailurePair", spec := "failurePair", unfollowed := true, recurses := true, named := ["internal/strconv.uint64pow10", "math/bits.deBruijn32tab", "math/bits.deBruijn64tab"], plainKeys := false, apart := false, laid := [("math/bits.deBruijn32tab", laid_math_bits_deBruijn32tab), ("math/bits.deBruijn64tab", laid_math_bits_deBruijn64tab), ("internal/strconv.uint64pow10", laid_internal_strconv_uint64pow10)] }
def FailurePairSaid : Prop := failurePairRow.holds Tryz.pinned (OpenSpec.ofChange failurePairSpec)

/-- ITS FALSE NEIGHBOUR: 'it returns false'. Refute it at one input. -/
def failurePairWrong : ChangeSpec := { name := "failurePair", fn := fun _ => fun
  | [d1, d2, d3] => { results := [.lit (.bool false)], args := [d1, d2, d3] }
  | _ => none }
def FailurePairWrongFalsely : Prop := failurePairRow.holds Tryz.pinned (OpenSpec.ofChange failurePairWrong)

/- THE SECOND FORM. 'bulk': how many values and letters a reading holds, each counted each time it is reached (what is shared counts as often as it is met; a slice's spare places count too). A statement '..UptoSaid' is the law's where the arguments, and the package variables that the reading takes, are together of bulk at most 1048576: NARROWER than '..Said'. Prove '..Said' where nothing that the law and all that it calls make is longer than what came in: it says more and counts as full. Else prove '..UptoSaid'. A law counts once. -/
mutual
def uptoBulk {H : Type} : DataW H → Nat
  | .lit (.string bytes) => bytes.length + 1
  | .lit _ => 1
  | .nil => 1
  | .ptr d => uptoBulk d + 1
  | .slice elems spare => uptoBulkAll elems + uptoBulkAll spare + 1
  | .agg parts => uptoBulkAll parts + 1
  | .iface _ d => uptoBulk d + 1
  | .map entries => uptoBulkEntries entries + 1
  | .held _ => 1
def uptoBulkAll {H : Type} : List (DataW H) → Nat
  | [] => 0
  | d :: r => uptoBulk d + uptoBulkAll r
def uptoBulkEntries {H : Type} : List (Lit × DataW H) → Nat
  | [] => 0
  | x :: r => uptoBulkEntry x + uptoBulkEntries r
def uptoBulkEntry {H : Type} : Lit × DataW H → Nat
  | (.string bytes, d) => bytes.length + uptoBulk d + 1
  | (_, d) => uptoBulk d + 1
 end
def uptoSmall : (H : Type) → List (DataW H) → Bool := fun _ ds => decide (uptoBulkAll ds ≤ 1048576)
def OpenSpec.upto (s : _root_.Go.ChangeSpec) : _root_.Go.OpenSpec := { _root_.Go.OpenSpec.ofChange s with cond := some uptoSmall }

/-- 'sederuntlaw16.FailureOf', WHERE WHAT IT READS IS OF BULK AT MOST 1048576: true; the input reads as it did. -/
def failureOfUptoRow : OpenClaim := { program := "ytcbginhpibfgaaagreatdoor", sum := "9a70619f2b46849ba17ebfd87c7ac54b358bfc6112f86e887921f4e850bf1200", func := "sederunt/sederuntlaw16.FailureOf", spec := "failureOf", unfollowed := true, recurses := true, named := ["internal/strconv.uint64pow10", "math/bits.deBruijn32tab", "math/bits.deBruijn64tab"], plainKeys := false, apart := false, laid := [("math/bits.deBruijn32tab", laid_math_bits_deBruijn32tab), ("math/bits.deBruijn64tab", laid_math_bits_deBruijn64tab), ("internal/strconv.uint64pow10", laid_internal_strconv_uint64pow10)], narrowed := true }
def FailureOfUptoSaid : Prop := failureOfUptoRow.holds Tryz.pinned (OpenSpec.upto failureOfSpec)

/-- 'sederuntlaw16.FailureErrors', WHERE WHAT IT READS IS OF BULK AT MOST 1048576: true; the input reads as it did. -/
def failureErrorsUptoRow : OpenClaim := { program := "ytcbginhpibfgaaagreatdoor", sum := "9a70619f2b46849ba17ebfd87c7ac54b358bfc6112f86e887921f4e850bf1200", func := "sederunt/sederuntlaw16.FailureErrors", spec := "failureErrors", unfollowed := true, recurses := true, named := ["internal/strconv.uint64pow10", "math/bits.deBruijn32tab", "math/bits.deBruijn64tab"], plainKeys := false, apart := false, laid := [("math/bits.deBruijn32tab", laid_math_bits_deBruijn32tab), ("math/bits.deBruijn64tab", laid_math_bits_deBruijn64tab), ("internal/strconv.uint64pow10", laid_internal_strconv_uint64pow10)], narrowed := true }
def FailureErrorsUptoSaid : Prop := failureErrorsUptoRow.holds Tryz.pinned (OpenSpec.upto failureErrorsSpec)

/-- 'sederuntlaw16.FailureImportance', WHERE WHAT IT READS IS OF BULK AT MOST 1048576: true; the input reads as it did. -/
def failureImportanceUptoRow : OpenClaim := { program := "ytcbginhpibfgaaagreatdoor", sum := "9a70619f2b46849ba17ebfd87c7ac54b358bfc6112f86e887921f4e850bf1200", func := "sederunt/sederuntlaw16.FailureImportance", spec := "failureImportance", unfollowed := true, recurses := true, named := ["internal/strconv.uint64pow10", "math/bits.deBruijn32tab", "math/bits.deBruijn64tab"], plainKeys := false, apart := false, laid := [("math/bits.deBruijn32tab", laid_math_bits_deBruijn32tab), ("math/bits.deBruijn64tab", laid_math_bits_deBruijn64tab), ("internal/strconv.uint64pow10", laid_internal_strconv_uint64pow10)], narrowed := true }
def FailureImportanceUptoSaid : Prop := failureImportanceUptoRow.holds Tryz.pinned (OpenSpec.upto failureImportanceSpec)

/-- 'sederuntlaw16.FailurePolynomial', WHERE WHAT IT READS IS OF BULK AT MOST 1048576: true; the input reads as it did. -/
def failurePolynomialUptoRow : OpenClaim := { program := "ytcbginhpibfgaaagreatdoor", sum := "9a70619f2b46849ba17ebfd87c7ac54b358bfc6112f86e887921f4e850bf1200", func := "sederunt/sederuntlaw16.FailurePolynomial", spec := "failurePolynomial", unfollowed := true, recurses := true, named := ["internal/strconv.uint64pow10", "math/bits.deBruijn32tab", "math/bits.deBruijn64tab"], plainKeys := false, apart := false, laid := [("math/bits.deBruijn32tab", laid_math_bits_deBruijn32tab), ("math/bits.deBruijn64tab", laid_math_bits_deBruijn64tab), ("internal/strconv.uint64pow10", laid_internal_strconv_uint64pow10)], narrowed := true }
def FailurePolynomialUptoSaid : Prop := failurePolynomialUptoRow.holds Tryz.pinned (OpenSpec.upto failurePolynomialSpec)

/-- 'sederuntlaw16.FailureAt', WHERE WHAT IT READS IS OF BULK AT MOST 1048576: true; the input reads as it did. -/
def failureAtUptoRow : OpenClaim := { program := "ytcbginhpibfgaaagreatdoor", sum := "9a70619f2b46849ba17ebfd87c7ac54b358bfc6112f86e887921f4e850bf1200", func := "sederunt/sederuntlaw16.FailureAt", spec := "failureAt", unfollowed := true, recurses := true, named := ["internal/strconv.uint64pow10", "math/bits.deBruijn32tab", "math/bits.deBruijn64tab"], plainKeys := false, apart := false, laid := [("math/bits.deBruijn32tab", laid_math_bits_deBruijn32tab), ("math/bits.deBruijn64tab", laid_math_bits_deBruijn64tab), ("internal/strconv.uint64pow10", laid_internal_strconv_uint64pow10)], narrowed := true }
def FailureAtUptoSaid : Prop := failureAtUptoRow.holds Tryz.pinned (OpenSpec.upto failureAtSpec)

/-- 'sederuntlaw16.FailureSites', WHERE WHAT IT READS IS OF BULK AT MOST 1048576: true; the input reads as it did. -/
def failureSitesUptoRow : OpenClaim := { program := "ytcbginhpibfgaaagreatdoor", sum := "9a70619f2b46849ba17ebfd87c7ac54b358bfc6112f86e887921f4e850bf1200", func := "sederunt/sederuntlaw16.FailureSites", spec := "failureSites", unfollowed := true, recurses := true, named := ["internal/strconv.uint64pow10", "math/bits.deBruijn32tab", "math/bits.deBruijn64tab"], plainKeys := false, apart := false, laid := [("math/bits.deBruijn32tab", laid_math_bits_deBruijn32tab), ("math/bits.deBruijn64tab", laid_math_bits_deBruijn64tab), ("internal/strconv.uint64pow10", laid_internal_strconv_uint64pow10)], narrowed := true }
def FailureSitesUptoSaid : Prop := failureSitesUptoRow.holds Tryz.pinned (OpenSpec.upto failureSitesSpec)

/-- 'sederuntlaw16.FailureAlone', WHERE WHAT IT READS IS OF BULK AT MOST 1048576: true; the input reads as it did. -/
def failureAloneUptoRow : OpenClaim := { program := "ytcbginhpibfgaaagreatdoor", sum := "9a70619f2b46849ba17ebfd87c7ac54b358bfc6112f86e887921f4e850bf1200", func := "sederunt/sederuntlaw16.FailureAlone", spec := "failureAlone", unfollowed := true, recurses := true, named := ["internal/strconv.uint64pow10", "math/bits.deBruijn32tab", "math/bits.deBruijn64tab"], plainKeys := false, apart := false, laid := [("math/bits.deBruijn32tab", laid_math_bits_deBruijn32tab), ("math/bits.deBruijn64tab", laid_math_bits_deBruijn64tab), ("internal/strconv.uint64pow10", laid_internal_strconv_uint64pow10)], narrowed := true }
def FailureAloneUptoSaid : Prop := failureAloneUptoRow.holds Tryz.pinned (OpenSpec.upto failureAloneSpec)

/-- 'sederuntlaw16.FailureDual', WHERE WHAT IT READS IS OF BULK AT MOST 1048576: true; the input reads as it did. -/
def failureDualUptoRow : OpenClaim := { program := "ytcbginhpibfgaaagreatdoor", sum := "9a70619f2b46849ba17ebfd87c7ac54b358bfc6112f86e887921f4e850bf1200", func := "sederunt/sederuntlaw16.FailureDual", spec := "failureDual", unfollowed := true, recurses := true, named := ["internal/strconv.uint64pow10", "math/bits.deBruijn32tab", "math/bits.deBruijn64tab"], plainKeys := false, apart := false, laid := [("math/bits.deBruijn32tab", laid_math_bits_deBruijn32tab), ("math/bits.deBruijn64tab", laid_math_bits_deBruijn64tab), ("internal/strconv.uint64pow10", laid_internal_strconv_uint64pow10)], narrowed := true }
def FailureDualUptoSaid : Prop := failureDualUptoRow.holds Tryz.pinned (OpenSpec.upto failureDualSpec)

/-- 'sederuntlaw16.FailurePair', WHERE WHAT IT READS IS OF BULK AT MOST 1048576: true; the input reads as it did. -/
def failurePairUptoRow : OpenClaim := { program := "ytcbginhpibfgaaagreatdoor", sum := "9a70619f2b46849ba17ebfd87c7ac54b358bfc6112f86e887921f4e850bf1200", func := "sederunt/sederuntlaw16.FailurePair", spec := "failurePair", unfollowed := true, recurses := true, named := ["internal/strconv.uint64pow10", "math/bits.deBruijn32tab", "math/bits.deBruijn64tab"], plainKeys := false, apart := false, laid := [("math/bits.deBruijn32tab", laid_math_bits_deBruijn32tab), ("math/bits.deBruijn64tab", laid_math_bits_deBruijn64tab), ("internal/strconv.uint64pow10", laid_internal_strconv_uint64pow10)], narrowed := true }
def FailurePairUptoSaid : Prop := failurePairUptoRow.holds Tryz.pinned (OpenSpec.upto failurePairSpec)

end Rows
end Go.Proofs.YtcbginhpibfgaaaGreatDoor
