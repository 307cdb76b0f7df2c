/-
  NARROWER THAN 'FOR EVERY INPUT', by the rows' own cells (each row's printed sentence says how): FederatedMinimal: laid · FederatedBlocks: laid · FederatedSplit: laid · FederatedSpread: laid · FederatedDelete: laid · FederatedValid: laid · FederatedQuorum: laid · FederatedUnion: laid.
  DERIVED. THE GIVEN ROWS OF THIS SEAT. 8 by the template 'for every input the law returns true; each argument reads behind the call as it read before'; 0 by the template 'total and deterministic' (their statements: YtgnkcohlfdddnaaDoorTotals.lean).
  GIVEN WITH THE SEED: the statements are not yours to turn. If you find one false, say at which input.
  Laid BY PROGRAM, IN A SANDBOX (cutbox-rows.mjs): the forced cells as the released guide's own fill.sh prints them over the translation 88c63c9fb959ccaa… (all of the seat's roots in one cut). By AI agents, Wed Nov 11 2026. No macro, syntax, notation, axiom, sorry.
-/
import Derived.Test.YtgnkcohlfdddnaaDoorChecked
import GoSem.Claim
import GoSem.ClaimJoined
import GoSem.ClaimMapViews
import Derived.JoinedTies
import Derived.KernelRfl
namespace Go.Proofs.YtgnkcohlfdddnaaDoor
/- THE CELL 'sum', in the pinned program and in every row, IS THE sha256 OF THE DUMP (.gsa) THAT YtgnkcohlfdddnaaDoorProg.lean LOADS. Nothing in Lean hashes anything: it is a label: what it is worth is what the hold of that sum in a sandbox is worth. -/
noncomputable def Tryd.pinned : Pinned := { name := "ytgnkcohlfdddnaadoor", sum := "88c63c9fb959ccaac4b23857b3cf31a9f7a9a0131bd015233d5e422679f4306c", checked := Tryd.checked }
namespace Rows
def none {H : Type} : Left H := { results := [], args := [] }

/- WHAT THE LISTED PACKAGE-LEVEL VARIABLES READ AS WHEN THE CALL BEGINS. Each datum BY PROGRAM (the guide's laid-datum.mjs) off the statement by which the dump's own 'gosem.cut.vars' lays the variable. In a bare row this is a premise. The card (YtgnkcohlfdddnaaDoorCards.lean) ties it to the program's text. -/
def laid_math_bits_deBruijn32tab {H : Type} : DataW H := .agg [.lit (.int .u8 0), .lit (.int .u8 1), .lit (.int .u8 28), .lit (.int .u8 2), .lit (.int .u8 29), .lit (.int .u8 14), .lit (.int .u8 24), .lit (.int .u8 3), .lit (.int .u8 30), .lit (.int .u8 22), .lit (.int .u8 20), .lit (.int .u8 15), .lit (.int .u8 25), .lit (.int .u8 17), .lit (.int .u8 4), .lit (.int .u8 8), .lit (.int .u8 31), .lit (.int .u8 27), .lit (.int .u8 13), .lit (.int .u8 23), .lit (.int .u8 21), .lit (.int .u8 19), .lit (.int .u8 16), .lit (.int .u8 7), .lit (.int .u8 26), .lit (.int .u8 12), .lit (.int .u8 18), .lit (.int .u8 6), .lit (.int .u8 11), .lit (.int .u8 5), .lit (.int .u8 10), .lit (.int .u8 9)]

/-- 'sederuntlaw22.FederatedMinimal': WHATEVER THE INPUT: true; the input reads as it did. -/
def federatedMinimalSpec : ChangeSpec := { name := "federatedMinimal", fn := fun _ => fun
  | [d] => { results := [.lit (.bool true)], args := [d] }
  | _ => none }
def federatedMinimalRow : OpenClaim := { program := "ytgnkcohlfdddnaadoor", sum := "88c63c9fb959ccaac4b23857b3cf31a9f7a9a0131bd015233d5e422679f4306c", func := "sederunt/sederuntlaw22.FederatedMinimal", spec := "federatedMinimal", unfollowed := true, recurses := true, named := ["math/bits.deBruijn32tab"], apart := false, laid := [("math/bits.deBruijn32tab", laid_math_bits_deBruijn32tab)] }
def FederatedMinimalSaid : Prop := federatedMinimalRow.holds Tryd.pinned (OpenSpec.ofChange federatedMinimalSpec)

/-- ITS FALSE NEIGHBOUR: 'it returns false'. Refute it at one input. -/
def federatedMinimalWrong : ChangeSpec := { name := "federatedMinimal", fn := fun _ => fun
  | [d] => { results := [.lit (.bool false)], args := [d] }
  | _ => none }
def FederatedMinimalWrongFalsely : Prop := federatedMinimalRow.holds Tryd.pinned (OpenSpec.ofChange federatedMinimalWrong)

/-- 'sederuntlaw22.FederatedBlocks': WHATEVER THE INPUT: true; the input reads as it did. -/
def federatedBlocksSpec : ChangeSpec := { name := "federatedBlocks", fn := fun _ => fun
  | [d1, d2, d3] => { results := [.lit (.bool true)], args := [d1, d2, d3] }
  | _ => none }
def federatedBlocksRow : OpenClaim := { program := "ytgnkcohlfdddnaadoor", sum := "88c63c9fb959ccaac4b23857b3cf31a9f7a9a0131bd015233d5e422679f4306c", func := "sederunt/sederuntlaw22.FederatedBlocks", spec := "federatedBlocks", unfollowed := true, recurses := true, named := ["math/bits.deBruijn32tab"], apart := false, laid := [("math/bits.deBruijn32tab", laid_math_bits_deBruijn32tab)] }
def FederatedBlocksSaid : Prop := federatedBlocksRow.holds Tryd.pinned (OpenSpec.ofChange federatedBlocksSpec)

/-- ITS FALSE NEIGHBOUR: 'it returns false'. Refute it at one input. -/
def federatedBlocksWrong : ChangeSpec := { name := "federatedBlocks", fn := fun _ => fun
  | [d1, d2, d3] => { results := [.lit (.bool false)], args := [d1, d2, d3] }
  | _ => none }
def FederatedBlocksWrongFalsely : Prop := federatedBlocksRow.holds Tryd.pinned (OpenSpec.ofChange federatedBlocksWrong)

/-- 'sederuntlaw22.FederatedSplit': WHATEVER THE INPUT: true; the input reads as it did. -/
def federatedSplitSpec : ChangeSpec := { name := "federatedSplit", fn := fun _ => fun
  | [d] => { results := [.lit (.bool true)], args := [d] }
  | _ => none }
def federatedSplitRow : OpenClaim := { program := "ytgnkcohlfdddnaadoor", sum := "88c63c9fb959ccaac4b23857b3cf31a9f7a9a0131bd015233d5e422679f4306c", func := "sederunt/sederuntlaw22.FederatedSplit", spec := "federatedSplit", unfollowed := true, recurses := true, named := ["math/bits.deBruijn32tab"], apart := false, laid := [("math/bits.deBruijn32tab", laid_math_bits_deBruijn32tab)] }
def FederatedSplitSaid : Prop := federatedSplitRow.holds Tryd.pinned (OpenSpec.ofChange federatedSplitSpec)

/-- ITS FALSE NEIGHBOUR: 'it returns false'. Refute it at one input. -/
def federatedSplitWrong : ChangeSpec := { name := "federatedSplit", fn := fun _ => fun
  | [d] => { results := [.lit (.bool false)], args := [d] }
  | _ => none }
def FederatedSplitWrongFalsely : Prop := federatedSplitRow.holds Tryd.pinned (OpenSpec.ofChange federatedSplitWrong)

/-- 'sederuntlaw22.FederatedSpread': WHATEVER THE INPUT: true; the input reads as it did. -/
def federatedSpreadSpec : ChangeSpec := { name := "federatedSpread", fn := fun _ => fun
  | [d1, d2] => { results := [.lit (.bool true)], args := [d1, d2] }
  | _ => none }
def federatedSpreadRow : OpenClaim := { program := "ytgnkcohlfdddnaadoor", sum := "88c63c9fb959ccaac4b23857b3cf31a9f7a9a0131bd015233d5e422679f4306c", func := "sederunt/sederuntlaw22.FederatedSpread", spec := "federatedSpread", unfollowed := true, recurses := true, named := ["math/bits.deBruijn32tab"], apart := false, laid := [("math/bits.deBruijn32tab", laid_math_bits_deBruijn32tab)] }
def FederatedSpreadSaid : Prop := federatedSpreadRow.holds Tryd.pinned (OpenSpec.ofChange federatedSpreadSpec)

/-- ITS FALSE NEIGHBOUR: 'it returns false'. Refute it at one input. -/
def federatedSpreadWrong : ChangeSpec := { name := "federatedSpread", fn := fun _ => fun
  | [d1, d2] => { results := [.lit (.bool false)], args := [d1, d2] }
  | _ => none }
def FederatedSpreadWrongFalsely : Prop := federatedSpreadRow.holds Tryd.pinned (OpenSpec.ofChange federatedSpreadWrong)

/-- 'sederuntlaw22.FederatedDelete': WHATEVER THE INPUT: true; the input reads as it did. -/
def federatedDeleteSpec : ChangeSpec := { name := "federatedDelete", fn := fun _ => fun
  | [d1, d2, d3] => { results := [.lit (.bool true)], args := [d1, d2, d3] }
  | _ => none }
def federatedDeleteRow : OpenClaim := { program := "ytgnkcohlfdddnaadoor", sum := "88c63c9fb959ccaac4b23857b3cf31a9f7a9a0131bd015233d5e422679f4306c", func := "sederunt/sederuntlaw22.FederatedDelete", spec := "federatedDelete", unfollowed := true, recurses := true, named := ["math/bits.deBruijn32tab"], apart := false, laid := [("math/bits.deBruijn32tab", laid_math_bits_deBruijn32tab)] }
def FederatedDeleteSaid : Prop := federatedDeleteRow.holds Tryd.pinned (OpenSpec.ofChange federatedDeleteSpec)

/-- ITS FALSE NEIGHBOUR: 'it returns false'. Refute it at one input. -/
def federatedDeleteWrong : ChangeSpec := { name := "federatedDelete", fn := fun _ => fun
  | [d1, d2, d3] => { results := [.lit (.bool false)], args := [d1, d2, d3] }
  | _ => none }
def FederatedDeleteWrongFalsely : Prop := federatedDeleteRow.holds Tryd.pinned (OpenSpec.ofChange federatedDeleteWrong)

/-- 'sederuntlaw22.FederatedValid': WHATEVER THE INPUT: true; the input reads as it did. -/
def federatedValidSpec : ChangeSpec := { name := "federatedValid", fn := fun _ => fun
  | [d] => { results := [.lit (.bool true)], args := [d] }
  | _ => none }
def federatedValidRow : OpenClaim := { program := "ytgnkcohlfdddnaadoor", sum := "88c63c9fb959ccaac4b23857b3cf31a9f7a9a0131bd015233d5e422679f4306c", func := "sederunt/sederuntlaw22.FederatedValid", spec := "federatedValid", unfollowed := true, recurses := true, named := ["math/bits.deBruijn32tab"], apart := false, laid := [("math/bits.deBruijn32tab", laid_math_bits_deBruijn32tab)] }
def FederatedValidSaid : Prop := federatedValidRow.holds Tryd.pinned (OpenSpec.ofChange federatedValidSpec)

/-- ITS FALSE NEIGHBOUR: 'it returns false'. Refute it at one input. -/
def federatedValidWrong : ChangeSpec := { name := "federatedValid", fn := fun _ => fun
  | [d] => { results := [.lit (.bool false)], args := [d] }
  | _ => none }
def FederatedValidWrongFalsely : Prop := federatedValidRow.holds Tryd.pinned (OpenSpec.ofChange federatedValidWrong)

/-- 'sederuntlaw22.FederatedQuorum': WHATEVER THE INPUT: true; the input reads as it did. -/
def federatedQuorumSpec : ChangeSpec := { name := "federatedQuorum", fn := fun _ => fun
  | [d1, d2, d3] => { results := [.lit (.bool true)], args := [d1, d2, d3] }
  | _ => none }
def federatedQuorumRow : OpenClaim := { program := "ytgnkcohlfdddnaadoor", sum := "88c63c9fb959ccaac4b23857b3cf31a9f7a9a0131bd015233d5e422679f4306c", func := "sederunt/sederuntlaw22.FederatedQuorum", spec := "federatedQuorum", unfollowed := true, recurses := true, named := ["math/bits.deBruijn32tab"], apart := false, laid := [("math/bits.deBruijn32tab", laid_math_bits_deBruijn32tab)] }
def FederatedQuorumSaid : Prop := federatedQuorumRow.holds Tryd.pinned (OpenSpec.ofChange federatedQuorumSpec)

/-- ITS FALSE NEIGHBOUR: 'it returns false'. Refute it at one input. -/
def federatedQuorumWrong : ChangeSpec := { name := "federatedQuorum", fn := fun _ => fun
  | [d1, d2, d3] => { results := [.lit (.bool false)], args := [d1, d2, d3] }
  | _ => none }
def FederatedQuorumWrongFalsely : Prop := federatedQuorumRow.holds Tryd.pinned (OpenSpec.ofChange federatedQuorumWrong)

/-- 'sederuntlaw22.FederatedUnion': WHATEVER THE INPUT: true; the input reads as it did. -/
def federatedUnionSpec : ChangeSpec := { name := "federatedUnion", fn := fun _ => fun
  | [d1, d2, d3] => { results := [.lit (.bool true)], args := [d1, d2, d3] }
  | _ => none }
def federatedUnionRow : OpenClaim := { program := "ytgnkcohlfdddnaadoor", sum := "88c63c9fb959ccaac4b23857b3cf31a9f7a9a0131bd015233d5e422679f4306c", func := "sederunt/sederuntlaw22.FederatedUnion", spec := "federatedUnion", unfollowed := true, recurses := true, named := ["math/bits.deBruijn32tab"], apart := false, laid := [("math/bits.deBruijn32tab", laid_math_bits_deBruijn32tab)] }
def FederatedUnionSaid : Prop := federatedUnionRow.holds Tryd.pinned (OpenSpec.ofChange federatedUnionSpec)

/-- ITS FALSE NEIGHBOUR: 'it returns false'. Refute it at one input. -/
def federatedUnionWrong : ChangeSpec := { name := "federatedUnion", fn := fun _ => fun
  | [d1, d2, d3] => { results := [.lit (.bool false)], args := [d1, d2, d3] }
  | _ => none }
def FederatedUnionWrongFalsely : Prop := federatedUnionRow.holds Tryd.pinned (OpenSpec.ofChange federatedUnionWrong)

/- THE SECOND FORM. 'bulk': how many values and letters a reading holds, each counted each time it is reached (what is shared counts as often as it is met; a slice's spare places count too). A statement '..UptoSaid' is the law's where the arguments, and the package variables that the reading takes, are together of bulk at most 1048576: NARROWER than '..Said'. Prove '..Said' where nothing that the law and all that it calls make is longer than what came in: it says more and counts as full. Else prove '..UptoSaid'. A law counts once. -/
mutual
def uptoBulk {H : Type} : DataW H → Nat
  | .lit (.string bytes) => bytes.length + 1
  | .lit _ => 1
  | .nil => 1
  | .ptr d => uptoBulk d + 1
  | .slice elems spare => uptoBulkAll elems + uptoBulkAll spare + 1
  | .agg parts => uptoBulkAll parts + 1
  | .iface _ d => uptoBulk d + 1
  | .map entries => uptoBulkEntries entries + 1
  | .held _ => 1
def uptoBulkAll {H : Type} : List (DataW H) → Nat
  | [] => 0
  | d :: r => uptoBulk d + uptoBulkAll r
def uptoBulkEntries {H : Type} : List (Lit × DataW H) → Nat
  | [] => 0
  | x :: r => uptoBulkEntry x + uptoBulkEntries r
def uptoBulkEntry {H : Type} : Lit × DataW H → Nat
  | (.string bytes, d) => bytes.length + uptoBulk d + 1
  | (_, d) => uptoBulk d + 1
 end
def uptoSmall : (H : Type) → List (DataW H) → Bool := fun _ ds => decide (uptoBulkAll ds ≤ 1048576)
def OpenSpec.upto (s : _root_.Go.ChangeSpec) : _root_.Go.OpenSpec := { _root_.Go.OpenSpec.ofChange s with cond := some uptoSmall }

/-- 'sederuntlaw22.FederatedMinimal', WHERE WHAT IT READS IS OF BULK AT MOST 1048576: true; the input reads as it did. -/
def federatedMinimalUptoRow : OpenClaim := { program := "ytgnkcohlfdddnaadoor", sum := "88c63c9fb959ccaac4b23857b3cf31a9f7a9a0131bd015233d5e422679f4306c", func := "sederunt/sederuntlaw22.FederatedMinimal", spec := "federatedMinimal", unfollowed := true, recurses := true, named := ["math/bits.deBruijn32tab"], apart := false, laid := [("math/bits.deBruijn32tab", laid_math_bits_deBruijn32tab)], narrowed := true }
def FederatedMinimalUptoSaid : Prop := federatedMinimalUptoRow.holds Tryd.pinned (OpenSpec.upto federatedMinimalSpec)

/-- 'sederuntlaw22.FederatedBlocks', WHERE WHAT IT READS IS OF BULK AT MOST 1048576: true; the input reads as it did. -/
def federatedBlocksUptoRow : OpenClaim := { program := "ytgnkcohlfdddnaadoor", sum := "88c63c9fb959ccaac4b23857b3cf31a9f7a9a0131bd015233d5e422679f4306c", func := "sederunt/sederuntlaw22.FederatedBlocks", spec := "federatedBlocks", unfollowed := true, recurses := true, named := ["math/bits.deBruijn32tab"], apart := false, laid := [("math/bits.deBruijn32tab", laid_math_bits_deBruijn32tab)], narrowed := true }
def FederatedBlocksUptoSaid : Prop := federatedBlocksUptoRow.holds Tryd.pinned (OpenSpec.upto federatedBlocksSpec)

/-- 'sederuntlaw22.FederatedSplit', WHERE WHAT IT READS IS OF BULK AT MOST 1048576: true; the input reads as it did. -/
def federatedSplitUptoRow : OpenClaim := { program := "ytgnkcohlfdddnaadoor", sum := "88c63c9fb959ccaac4b23857b3cf31a9f7a9a0131bd015233d5e422679f4306c", func := "sederunt/sederuntlaw22.FederatedSplit", spec := "federatedSplit", unfollowed := true, recurses := true, named := ["math/bits.deBruijn32tab"], apart := false, laid := [("math/bits.deBruijn32tab", laid_math_bits_deBruijn32tab)], narrowed := true }
def FederatedSplitUptoSaid : Prop := federatedSplitUptoRow.holds Tryd.pinned (OpenSpec.upto federatedSplitSpec)

/-- 'sederuntlaw22.FederatedSpread', WHERE WHAT IT READS IS OF BULK AT MOST 1048576: true; the input reads as it did. -/
def federatedSpreadUptoRow : OpenClaim := { program := "ytgnkcohlfdddnaadoor", sum := "88c63c9fb959ccaac4b23857b3cf31a9f7a9a0131bd015233d5e422679f4306c", func := "sederunt/sederuntlaw22.FederatedSpread", spec := "federatedSpread", unfollowed := true, recurses := true, named := ["math/bits.deBruijn32tab"], apart := false, laid := [("math/bits.deBruijn32tab", laid_math_bits_deBruijn32tab)], narrowed := true }
def FederatedSpreadUptoSaid : Prop := federatedSpreadUptoRow.holds Tryd.pinned (OpenSpec.upto federatedSpreadSpec)

/-- 'sederuntlaw22.FederatedDelete', WHERE WHAT IT READS IS OF BULK AT MOST 1048576: true; the input reads as it did. -/
def federatedDeleteUptoRow : OpenClaim := { program := "ytgnkcohlfdddnaadoor", sum := "88c63c9fb959ccaac4b23857b3cf31a9f7a9a0131bd015233d5e422679f4306c", func := "sederunt/sederuntlaw22.FederatedDelete", spec := "federatedDelete", unfollowed := true, recurses := true, named := ["math/bits.deBruijn32tab"], apart := false, laid := [("math/bits.deBruijn32tab", laid_math_bits_deBruijn32tab)], narrowed := true }
def FederatedDeleteUptoSaid : Prop := federatedDeleteUptoRow.holds Tryd.pinned (OpenSpec.upto federatedDeleteSpec)

/-- 'sederuntlaw22.FederatedValid', WHERE WHAT IT READS IS OF BULK AT MOST 1048576: true; the input reads as it did. -/
def federatedValidUptoRow : OpenClaim := { program := "ytgnkcohlfdddnaadoor", sum := "88c63c9fb959ccaac4b23857b3cf31a9f7a9a0131bd015233d5e422679f4306c", func := "sederunt/sederuntlaw22.FederatedValid", spec := "federatedValid", unfollowed := true, recurses := true, named := ["math/bits.deBruijn32tab"], apart := false, laid := [("math/bits.deBruijn32tab", laid_math_bits_deBruijn32tab)], narrowed := true }
def FederatedValidUptoSaid : Prop := federatedValidUptoRow.holds Tryd.pinned (OpenSpec.upto federatedValidSpec)

/-- 'sederuntlaw22.FederatedQuorum', WHERE WHAT IT READS IS OF BULK AT MOST 1048576: true; the input reads as it did. -/
def federatedQuorumUptoRow : OpenClaim := { program := "ytgnkcohlfdddnaadoor", sum := "88c63c9fb959ccaac4b23857b3cf31a9f7a9a0131bd015233d5e422679f4306c", func := "sederunt/sederuntlaw22.FederatedQuorum", spec := "federatedQuorum", unfollowed := true, recurses := true, named := ["math/bits.deBruijn32tab"], apart := false, laid := [("math/bits.deBruijn32tab", laid_math_bits_deBruijn32tab)], narrowed := true }
def FederatedQuorumUptoSaid : Prop := federatedQuorumUptoRow.holds Tryd.pinned (OpenSpec.upto federatedQuorumSpec)

/-- 'sederuntlaw22.FederatedUnion', WHERE WHAT IT READS IS OF BULK AT MOST 1048576: true; the input reads as it did. -/
def federatedUnionUptoRow : OpenClaim := { program := "ytgnkcohlfdddnaadoor", sum := "88c63c9fb959ccaac4b23857b3cf31a9f7a9a0131bd015233d5e422679f4306c", func := "sederunt/sederuntlaw22.FederatedUnion", spec := "federatedUnion", unfollowed := true, recurses := true, named := ["math/bits.deBruijn32tab"], apart := false, laid := [("math/bits.deBruijn32tab", laid_math_bits_deBruijn32tab)], narrowed := true }
def FederatedUnionUptoSaid : Prop := federatedUnionUptoRow.holds Tryd.pinned (OpenSpec.upto federatedUnionSpec)

end Rows
end Go.Proofs.YtgnkcohlfdddnaaDoor
