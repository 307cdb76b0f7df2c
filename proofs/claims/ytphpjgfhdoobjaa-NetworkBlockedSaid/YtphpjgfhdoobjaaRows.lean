/-
  No cell of these rows narrows 'for every input' (looked for: loops, veiled, ifaces, maps, wideKeys, modest, calm, conditions, laid).
  DERIVED. THE GIVEN ROWS OF THIS SEAT. 7 by the template 'for every input the law returns true; each argument reads behind the call as it read before'; 0 by the template 'total and deterministic' (their statements: YtphpjgfhdoobjaaTotals.lean).
  GIVEN WITH THE SEED: the statements are not yours to turn. If you find one false, say at which input.
  Laid BY PROGRAM, IN A SANDBOX (cutbox-rows.mjs): the forced cells as the released guide's own fill.sh prints them over the translation 094cc686fc07abde… (all of the seat's roots in one cut). By AI agents, Wed Nov 11 2026. No macro, syntax, notation, axiom, sorry.
-/
import Derived.Test.YtphpjgfhdoobjaaChecked
import GoSem.Claim
import GoSem.ClaimJoined
import GoSem.ClaimMapViews
import Derived.JoinedTies
import Derived.KernelRfl
namespace Go.Proofs.Ytphpjgfhdoobjaa
/- THE CELL 'sum', in the pinned program and in every row, IS THE sha256 OF THE DUMP (.gsa) THAT YtphpjgfhdoobjaaProg.lean LOADS. Nothing in Lean hashes anything: it is a label: what it is worth is what the hold of that sum in a sandbox is worth. -/
noncomputable def Try.pinned : Pinned := { name := "ytphpjgfhdoobjaa", sum := "094cc686fc07abde7c27f3744ccad9d27da77811bcdd93975b226645b76c6c5a", checked := Try.checked }
namespace Rows
def none {H : Type} : Left H := { results := [], args := [] }

/-- 'sederuntlaw31.NetworkOrder': WHATEVER THE INPUT: true; the input reads as it did. -/
def networkOrderSpec : ChangeSpec := { name := "networkOrder", fn := fun _ => fun
  | [d] => { results := [.lit (.bool true)], args := [d] }
  | _ => none }
def networkOrderRow : OpenClaim := { program := "ytphpjgfhdoobjaa", sum := "094cc686fc07abde7c27f3744ccad9d27da77811bcdd93975b226645b76c6c5a", func := "sederunt/sederuntlaw31.NetworkOrder", spec := "networkOrder", unfollowed := true, recurses := true, plainKeys := false, apart := false }
def NetworkOrderSaid : Prop := networkOrderRow.holds Try.pinned (OpenSpec.ofChange networkOrderSpec)

/-- ITS FALSE NEIGHBOUR: 'it returns false'. Refute it at one input. -/
def networkOrderWrong : ChangeSpec := { name := "networkOrder", fn := fun _ => fun
  | [d] => { results := [.lit (.bool false)], args := [d] }
  | _ => none }
def NetworkOrderWrongFalsely : Prop := networkOrderRow.holds Try.pinned (OpenSpec.ofChange networkOrderWrong)

/-- 'sederuntlaw31.NetworkNew': WHATEVER THE INPUT: true; the input reads as it did. -/
def networkNewSpec : ChangeSpec := { name := "networkNew", fn := fun _ => fun
  | [d] => { results := [.lit (.bool true)], args := [d] }
  | _ => none }
def networkNewRow : OpenClaim := { program := "ytphpjgfhdoobjaa", sum := "094cc686fc07abde7c27f3744ccad9d27da77811bcdd93975b226645b76c6c5a", func := "sederunt/sederuntlaw31.NetworkNew", spec := "networkNew", unfollowed := true, recurses := true, plainKeys := false, apart := false }
def NetworkNewSaid : Prop := networkNewRow.holds Try.pinned (OpenSpec.ofChange networkNewSpec)

/-- ITS FALSE NEIGHBOUR: 'it returns false'. Refute it at one input. -/
def networkNewWrong : ChangeSpec := { name := "networkNew", fn := fun _ => fun
  | [d] => { results := [.lit (.bool false)], args := [d] }
  | _ => none }
def NetworkNewWrongFalsely : Prop := networkNewRow.holds Try.pinned (OpenSpec.ofChange networkNewWrong)

/-- 'sederuntlaw31.NetworkBlocked': WHATEVER THE INPUT: true; the input reads as it did. -/
def networkBlockedSpec : ChangeSpec := { name := "networkBlocked", fn := fun _ => fun
  | [d1, d2, d3] => { results := [.lit (.bool true)], args := [d1, d2, d3] }
  | _ => none }
def networkBlockedRow : OpenClaim := { program := "ytphpjgfhdoobjaa", sum := "094cc686fc07abde7c27f3744ccad9d27da77811bcdd93975b226645b76c6c5a", func := "sederunt/sederuntlaw31.NetworkBlocked", spec := "networkBlocked", unfollowed := true, recurses := true, plainKeys := false, apart := false }
def NetworkBlockedSaid : Prop := networkBlockedRow.holds Try.pinned (OpenSpec.ofChange networkBlockedSpec)

/-- ITS FALSE NEIGHBOUR: 'it returns false'. Refute it at one input. -/
def networkBlockedWrong : ChangeSpec := { name := "networkBlocked", fn := fun _ => fun
  | [d1, d2, d3] => { results := [.lit (.bool false)], args := [d1, d2, d3] }
  | _ => none }
def NetworkBlockedWrongFalsely : Prop := networkBlockedRow.holds Try.pinned (OpenSpec.ofChange networkBlockedWrong)

/-- 'sederuntlaw31.NetworkLimit': WHATEVER THE INPUT: true; the input reads as it did. -/
def networkLimitSpec : ChangeSpec := { name := "networkLimit", fn := fun _ => fun
  | [d1, d2] => { results := [.lit (.bool true)], args := [d1, d2] }
  | _ => none }
def networkLimitRow : OpenClaim := { program := "ytphpjgfhdoobjaa", sum := "094cc686fc07abde7c27f3744ccad9d27da77811bcdd93975b226645b76c6c5a", func := "sederunt/sederuntlaw31.NetworkLimit", spec := "networkLimit", unfollowed := true, recurses := true, plainKeys := false, apart := false }
def NetworkLimitSaid : Prop := networkLimitRow.holds Try.pinned (OpenSpec.ofChange networkLimitSpec)

/-- ITS FALSE NEIGHBOUR: 'it returns false'. Refute it at one input. -/
def networkLimitWrong : ChangeSpec := { name := "networkLimit", fn := fun _ => fun
  | [d1, d2] => { results := [.lit (.bool false)], args := [d1, d2] }
  | _ => none }
def NetworkLimitWrongFalsely : Prop := networkLimitRow.holds Try.pinned (OpenSpec.ofChange networkLimitWrong)

/-- 'sederuntlaw31.NetworkMessages': WHATEVER THE INPUT: true; the input reads as it did. -/
def networkMessagesSpec : ChangeSpec := { name := "networkMessages", fn := fun _ => fun
  | [d] => { results := [.lit (.bool true)], args := [d] }
  | _ => none }
def networkMessagesRow : OpenClaim := { program := "ytphpjgfhdoobjaa", sum := "094cc686fc07abde7c27f3744ccad9d27da77811bcdd93975b226645b76c6c5a", func := "sederunt/sederuntlaw31.NetworkMessages", spec := "networkMessages", unfollowed := true, recurses := true, plainKeys := false, apart := false }
def NetworkMessagesSaid : Prop := networkMessagesRow.holds Try.pinned (OpenSpec.ofChange networkMessagesSpec)

/-- ITS FALSE NEIGHBOUR: 'it returns false'. Refute it at one input. -/
def networkMessagesWrong : ChangeSpec := { name := "networkMessages", fn := fun _ => fun
  | [d] => { results := [.lit (.bool false)], args := [d] }
  | _ => none }
def NetworkMessagesWrongFalsely : Prop := networkMessagesRow.holds Try.pinned (OpenSpec.ofChange networkMessagesWrong)

/-- 'sederuntlaw31.NetworkScript': WHATEVER THE INPUT: true; the input reads as it did. -/
def networkScriptSpec : ChangeSpec := { name := "networkScript", fn := fun _ => fun
  | [d1, d2] => { results := [.lit (.bool true)], args := [d1, d2] }
  | _ => none }
def networkScriptRow : OpenClaim := { program := "ytphpjgfhdoobjaa", sum := "094cc686fc07abde7c27f3744ccad9d27da77811bcdd93975b226645b76c6c5a", func := "sederunt/sederuntlaw31.NetworkScript", spec := "networkScript", unfollowed := true, recurses := true, plainKeys := false, apart := false }
def NetworkScriptSaid : Prop := networkScriptRow.holds Try.pinned (OpenSpec.ofChange networkScriptSpec)

/-- ITS FALSE NEIGHBOUR: 'it returns false'. Refute it at one input. -/
def networkScriptWrong : ChangeSpec := { name := "networkScript", fn := fun _ => fun
  | [d1, d2] => { results := [.lit (.bool false)], args := [d1, d2] }
  | _ => none }
def NetworkScriptWrongFalsely : Prop := networkScriptRow.holds Try.pinned (OpenSpec.ofChange networkScriptWrong)

/-- 'sederuntlaw31.NetworkKept': WHATEVER THE INPUT: true; the input reads as it did. -/
def networkKeptSpec : ChangeSpec := { name := "networkKept", fn := fun _ => fun
  | [d1, d2] => { results := [.lit (.bool true)], args := [d1, d2] }
  | _ => none }
def networkKeptRow : OpenClaim := { program := "ytphpjgfhdoobjaa", sum := "094cc686fc07abde7c27f3744ccad9d27da77811bcdd93975b226645b76c6c5a", func := "sederunt/sederuntlaw31.NetworkKept", spec := "networkKept", unfollowed := true, recurses := true, plainKeys := false, apart := false }
def NetworkKeptSaid : Prop := networkKeptRow.holds Try.pinned (OpenSpec.ofChange networkKeptSpec)

/-- ITS FALSE NEIGHBOUR: 'it returns false'. Refute it at one input. -/
def networkKeptWrong : ChangeSpec := { name := "networkKept", fn := fun _ => fun
  | [d1, d2] => { results := [.lit (.bool false)], args := [d1, d2] }
  | _ => none }
def NetworkKeptWrongFalsely : Prop := networkKeptRow.holds Try.pinned (OpenSpec.ofChange networkKeptWrong)

/- THE SECOND FORM. 'bulk': how many values and letters a reading holds, each counted each time it is reached (what is shared counts as often as it is met; a slice's spare places count too). A statement '..UptoSaid' is the law's where the arguments, and the package variables that the reading takes, are together of bulk at most 1048576: NARROWER than '..Said'. Prove '..Said' where nothing that the law and all that it calls make is longer than what came in: it says more and counts as full. Else prove '..UptoSaid'. A law counts once. -/
mutual
def uptoBulk {H : Type} : DataW H → Nat
  | .lit (.string bytes) => bytes.length + 1
  | .lit _ => 1
  | .nil => 1
  | .ptr d => uptoBulk d + 1
  | .slice elems spare => uptoBulkAll elems + uptoBulkAll spare + 1
  | .agg parts => uptoBulkAll parts + 1
  | .iface _ d => uptoBulk d + 1
  | .map entries => uptoBulkEntries entries + 1
  | .held _ => 1
def uptoBulkAll {H : Type} : List (DataW H) → Nat
  | [] => 0
  | d :: r => uptoBulk d + uptoBulkAll r
def uptoBulkEntries {H : Type} : List (Lit × DataW H) → Nat
  | [] => 0
  | x :: r => uptoBulkEntry x + uptoBulkEntries r
def uptoBulkEntry {H : Type} : Lit × DataW H → Nat
  | (.string bytes, d) => bytes.length + uptoBulk d + 1
  | (_, d) => uptoBulk d + 1
 end
def uptoSmall : (H : Type) → List (DataW H) → Bool := fun _ ds => decide (uptoBulkAll ds ≤ 1048576)
def OpenSpec.upto (s : _root_.Go.ChangeSpec) : _root_.Go.OpenSpec := { _root_.Go.OpenSpec.ofChange s with cond := some uptoSmall }

/-- 'sederuntlaw31.NetworkOrder', WHERE WHAT IT READS IS OF BULK AT MOST 1048576: true; the input reads as it did. -/
def networkOrderUptoRow : OpenClaim := { program := "ytphpjgfhdoobjaa", sum := "094cc686fc07abde7c27f3744ccad9d27da77811bcdd93975b226645b76c6c5a", func := "sederunt/sederuntlaw31.NetworkOrder", spec := "networkOrder", unfollowed := true, recurses := true, plainKeys := false, apart := false, narrowed := true }
def NetworkOrderUptoSaid : Prop := networkOrderUptoRow.holds Try.pinned (OpenSpec.upto networkOrderSpec)

/-- 'sederuntlaw31.NetworkNew', WHERE WHAT IT READS IS OF BULK AT MOST 1048576: true; the input reads as it did. -/
def networkNewUptoRow : OpenClaim := { program := "ytphpjgfhdoobjaa", sum := "094cc686fc07abde7c27f3744ccad9d27da77811bcdd93975b226645b76c6c5a", func := "sederunt/sederuntlaw31.NetworkNew", spec := "networkNew", unfollowed := true, recurses := true, plainKeys := false, apart := false, narrowed := true }
def NetworkNewUptoSaid : Prop := networkNewUptoRow.holds Try.pinned (OpenSpec.upto networkNewSpec)

/-- 'sederuntlaw31.NetworkBlocked', WHERE WHAT IT READS IS OF BULK AT MOST 1048576: true; the input reads as it did. -/
def networkBlockedUptoRow : OpenClaim := { program := "ytphpjgfhdoobjaa", sum := "094cc686fc07abde7c27f3744ccad9d27da77811bcdd93975b226645b76c6c5a", func := "sederunt/sederuntlaw31.NetworkBlocked", spec := "networkBlocked", unfollowed := true, recurses := true, plainKeys := false, apart := false, narrowed := true }
def NetworkBlockedUptoSaid : Prop := networkBlockedUptoRow.holds Try.pinned (OpenSpec.upto networkBlockedSpec)

/-- 'sederuntlaw31.NetworkLimit', WHERE WHAT IT READS IS OF BULK AT MOST 1048576: true; the input reads as it did. -/
def networkLimitUptoRow : OpenClaim := { program := "ytphpjgfhdoobjaa", sum := "094cc686fc07abde7c27f3744ccad9d27da77811bcdd93975b226645b76c6c5a", func := "sederunt/sederuntlaw31.NetworkLimit", spec := "networkLimit", unfollowed := true, recurses := true, plainKeys := false, apart := false, narrowed := true }
def NetworkLimitUptoSaid : Prop := networkLimitUptoRow.holds Try.pinned (OpenSpec.upto networkLimitSpec)

/-- 'sederuntlaw31.NetworkMessages', WHERE WHAT IT READS IS OF BULK AT MOST 1048576: true; the input reads as it did. -/
def networkMessagesUptoRow : OpenClaim := { program := "ytphpjgfhdoobjaa", sum := "094cc686fc07abde7c27f3744ccad9d27da77811bcdd93975b226645b76c6c5a", func := "sederunt/sederuntlaw31.NetworkMessages", spec := "networkMessages", unfollowed := true, recurses := true, plainKeys := false, apart := false, narrowed := true }
def NetworkMessagesUptoSaid : Prop := networkMessagesUptoRow.holds Try.pinned (OpenSpec.upto networkMessagesSpec)

/-- 'sederuntlaw31.NetworkScript', WHERE WHAT IT READS IS OF BULK AT MOST 1048576: true; the input reads as it did. -/
def networkScriptUptoRow : OpenClaim := { program := "ytphpjgfhdoobjaa", sum := "094cc686fc07abde7c27f3744ccad9d27da77811bcdd93975b226645b76c6c5a", func := "sederunt/sederuntlaw31.NetworkScript", spec := "networkScript", unfollowed := true, recurses := true, plainKeys := false, apart := false, narrowed := true }
def NetworkScriptUptoSaid : Prop := networkScriptUptoRow.holds Try.pinned (OpenSpec.upto networkScriptSpec)

/-- 'sederuntlaw31.NetworkKept', WHERE WHAT IT READS IS OF BULK AT MOST 1048576: true; the input reads as it did. -/
def networkKeptUptoRow : OpenClaim := { program := "ytphpjgfhdoobjaa", sum := "094cc686fc07abde7c27f3744ccad9d27da77811bcdd93975b226645b76c6c5a", func := "sederunt/sederuntlaw31.NetworkKept", spec := "networkKept", unfollowed := true, recurses := true, plainKeys := false, apart := false, narrowed := true }
def NetworkKeptUptoSaid : Prop := networkKeptUptoRow.holds Try.pinned (OpenSpec.upto networkKeptSpec)

end Rows
end Go.Proofs.Ytphpjgfhdoobjaa
