/-
  No cell of these rows narrows 'for every input' (looked for: loops, veiled, ifaces, maps, wideKeys, modest, calm, conditions, laid).
  DERIVED. THE GIVEN ROWS OF THIS SEAT. 8 by the template 'for every input the law returns true; each argument reads behind the call as it read before'; 0 by the template 'total and deterministic' (their statements: YtipmfcpmbkopeaaTotals.lean).
  GIVEN WITH THE SEED: the statements are not yours to turn. If you find one false, say at which input.
  Laid BY PROGRAM, IN A SANDBOX (cutbox-rows.mjs): the forced cells as the released guide's own fill.sh prints them over the translation 356bc7000fbffa8e… (all of the seat's roots in one cut). By AI agents, Wed Nov 11 2026. No macro, syntax, notation, axiom, sorry.
-/
import Derived.Test.YtipmfcpmbkopeaaChecked
import GoSem.Claim
import GoSem.ClaimJoined
import GoSem.ClaimMapViews
import Derived.JoinedTies
import Derived.KernelRfl
namespace Go.Proofs.Ytipmfcpmbkopeaa
/- THE CELL 'sum', in the pinned program and in every row, IS THE sha256 OF THE DUMP (.gsa) THAT YtipmfcpmbkopeaaProg.lean LOADS. Nothing in Lean hashes anything: it is a label: what it is worth is what the hold of that sum in a sandbox is worth. -/
noncomputable def Try.pinned : Pinned := { name := "ytipmfcpmbkopeaa", sum := "356bc7000fbffa8e2e61e6319cc346c903af779785b65c4a2d5ffb42c34b425a", checked := Try.checked }
namespace Rows
def none {H : Type} : Left H := { results := [], args := [] }

/-- 'sederuntlaw30.ClockScript': WHATEVER THE INPUT: true; the input reads as it did. -/
def clockScriptSpec : ChangeSpec := { name := "clockScript", fn := fun _ => fun
  | [d] => { results := [.lit (.bool true)], args := [d] }
  | _ => none }
def clockScriptRow : OpenClaim := { program := "ytipmfcpmbkopeaa", sum := "356bc7000fbffa8e2e61e6319cc346c903af779785b65c4a2d5ffb42c34b425a", func := "sederunt/sederuntlaw30.ClockScript", spec := "clockScript", inPlace := ["slices.overlaps[sederunt/api.Timer]"], unfollowed := true, recurses := true, apart := false }
def ClockScriptSaid : Prop := clockScriptRow.holds Try.pinned (OpenSpec.ofChange clockScriptSpec)

/-- ITS FALSE NEIGHBOUR: 'it returns false'. Refute it at one input. -/
def clockScriptWrong : ChangeSpec := { name := "clockScript", fn := fun _ => fun
  | [d] => { results := [.lit (.bool false)], args := [d] }
  | _ => none }
def ClockScriptWrongFalsely : Prop := clockScriptRow.holds Try.pinned (OpenSpec.ofChange clockScriptWrong)

/-- 'sederuntlaw30.ClockOrder': WHATEVER THE INPUT: true; the input reads as it did. -/
def clockOrderSpec : ChangeSpec := { name := "clockOrder", fn := fun _ => fun
  | [d] => { results := [.lit (.bool true)], args := [d] }
  | _ => none }
def clockOrderRow : OpenClaim := { program := "ytipmfcpmbkopeaa", sum := "356bc7000fbffa8e2e61e6319cc346c903af779785b65c4a2d5ffb42c34b425a", func := "sederunt/sederuntlaw30.ClockOrder", spec := "clockOrder", inPlace := ["slices.overlaps[sederunt/api.Timer]"], unfollowed := true, recurses := true, apart := false }
def ClockOrderSaid : Prop := clockOrderRow.holds Try.pinned (OpenSpec.ofChange clockOrderSpec)

/-- ITS FALSE NEIGHBOUR: 'it returns false'. Refute it at one input. -/
def clockOrderWrong : ChangeSpec := { name := "clockOrder", fn := fun _ => fun
  | [d] => { results := [.lit (.bool false)], args := [d] }
  | _ => none }
def ClockOrderWrongFalsely : Prop := clockOrderRow.holds Try.pinned (OpenSpec.ofChange clockOrderWrong)

/-- 'sederuntlaw30.ClockSteps': WHATEVER THE INPUT: true; the input reads as it did. -/
def clockStepsSpec : ChangeSpec := { name := "clockSteps", fn := fun _ => fun
  | [d1, d2, d3] => { results := [.lit (.bool true)], args := [d1, d2, d3] }
  | _ => none }
def clockStepsRow : OpenClaim := { program := "ytipmfcpmbkopeaa", sum := "356bc7000fbffa8e2e61e6319cc346c903af779785b65c4a2d5ffb42c34b425a", func := "sederunt/sederuntlaw30.ClockSteps", spec := "clockSteps", inPlace := ["slices.overlaps[sederunt/api.Timer]"], unfollowed := true, recurses := true, apart := false }
def ClockStepsSaid : Prop := clockStepsRow.holds Try.pinned (OpenSpec.ofChange clockStepsSpec)

/-- ITS FALSE NEIGHBOUR: 'it returns false'. Refute it at one input. -/
def clockStepsWrong : ChangeSpec := { name := "clockSteps", fn := fun _ => fun
  | [d1, d2, d3] => { results := [.lit (.bool false)], args := [d1, d2, d3] }
  | _ => none }
def ClockStepsWrongFalsely : Prop := clockStepsRow.holds Try.pinned (OpenSpec.ofChange clockStepsWrong)

/-- 'sederuntlaw30.ClockNext': WHATEVER THE INPUT: true; the input reads as it did. -/
def clockNextSpec : ChangeSpec := { name := "clockNext", fn := fun _ => fun
  | [d] => { results := [.lit (.bool true)], args := [d] }
  | _ => none }
def clockNextRow : OpenClaim := { program := "ytipmfcpmbkopeaa", sum := "356bc7000fbffa8e2e61e6319cc346c903af779785b65c4a2d5ffb42c34b425a", func := "sederunt/sederuntlaw30.ClockNext", spec := "clockNext", inPlace := ["slices.overlaps[sederunt/api.Timer]"], unfollowed := true, recurses := true, apart := false }
def ClockNextSaid : Prop := clockNextRow.holds Try.pinned (OpenSpec.ofChange clockNextSpec)

/-- ITS FALSE NEIGHBOUR: 'it returns false'. Refute it at one input. -/
def clockNextWrong : ChangeSpec := { name := "clockNext", fn := fun _ => fun
  | [d] => { results := [.lit (.bool false)], args := [d] }
  | _ => none }
def ClockNextWrongFalsely : Prop := clockNextRow.holds Try.pinned (OpenSpec.ofChange clockNextWrong)

/-- 'sederuntlaw30.ClockCancel': WHATEVER THE INPUT: true; the input reads as it did. -/
def clockCancelSpec : ChangeSpec := { name := "clockCancel", fn := fun _ => fun
  | [d1, d2] => { results := [.lit (.bool true)], args := [d1, d2] }
  | _ => none }
def clockCancelRow : OpenClaim := { program := "ytipmfcpmbkopeaa", sum := "356bc7000fbffa8e2e61e6319cc346c903af779785b65c4a2d5ffb42c34b425a", func := "sederunt/sederuntlaw30.ClockCancel", spec := "clockCancel", inPlace := ["slices.overlaps[sederunt/api.Timer]"], unfollowed := true, recurses := true, apart := false }
def ClockCancelSaid : Prop := clockCancelRow.holds Try.pinned (OpenSpec.ofChange clockCancelSpec)

/-- ITS FALSE NEIGHBOUR: 'it returns false'. Refute it at one input. -/
def clockCancelWrong : ChangeSpec := { name := "clockCancel", fn := fun _ => fun
  | [d1, d2] => { results := [.lit (.bool false)], args := [d1, d2] }
  | _ => none }
def ClockCancelWrongFalsely : Prop := clockCancelRow.holds Try.pinned (OpenSpec.ofChange clockCancelWrong)

/-- 'sederuntlaw30.ClockErrors': WHATEVER THE INPUT: true; the input reads as it did. -/
def clockErrorsSpec : ChangeSpec := { name := "clockErrors", fn := fun _ => fun
  | [d1, d2, d3] => { results := [.lit (.bool true)], args := [d1, d2, d3] }
  | _ => none }
def clockErrorsRow : OpenClaim := { program := "ytipmfcpmbkopeaa", sum := "356bc7000fbffa8e2e61e6319cc346c903af779785b65c4a2d5ffb42c34b425a", func := "sederunt/sederuntlaw30.ClockErrors", spec := "clockErrors", inPlace := ["slices.overlaps[sederunt/api.Timer]"], unfollowed := true, recurses := true, apart := false }
def ClockErrorsSaid : Prop := clockErrorsRow.holds Try.pinned (OpenSpec.ofChange clockErrorsSpec)

/-- ITS FALSE NEIGHBOUR: 'it returns false'. Refute it at one input. -/
def clockErrorsWrong : ChangeSpec := { name := "clockErrors", fn := fun _ => fun
  | [d1, d2, d3] => { results := [.lit (.bool false)], args := [d1, d2, d3] }
  | _ => none }
def ClockErrorsWrongFalsely : Prop := clockErrorsRow.holds Try.pinned (OpenSpec.ofChange clockErrorsWrong)

/-- 'sederuntlaw30.ClockMemory': WHATEVER THE INPUT: true; the input reads as it did. -/
def clockMemorySpec : ChangeSpec := { name := "clockMemory", fn := fun _ => fun
  | [d1, d2] => { results := [.lit (.bool true)], args := [d1, d2] }
  | _ => none }
def clockMemoryRow : OpenClaim := { program := "ytipmfcpmbkopeaa", sum := "356bc7000fbffa8e2e61e6319cc346c903af779785b65c4a2d5ffb42c34b425a", func := "sederunt/sederuntlaw30.ClockMemory", spec := "clockMemory", inPlace := ["slices.overlaps[sederunt/api.Timer]"], unfollowed := true, recurses := true, apart := false }
def ClockMemorySaid : Prop := clockMemoryRow.holds Try.pinned (OpenSpec.ofChange clockMemorySpec)

/-- ITS FALSE NEIGHBOUR: 'it returns false'. Refute it at one input. -/
def clockMemoryWrong : ChangeSpec := { name := "clockMemory", fn := fun _ => fun
  | [d1, d2] => { results := [.lit (.bool false)], args := [d1, d2] }
  | _ => none }
def ClockMemoryWrongFalsely : Prop := clockMemoryRow.holds Try.pinned (OpenSpec.ofChange clockMemoryWrong)

/-- 'sederuntlaw30.ClockMany': WHATEVER THE INPUT: true; the input reads as it did. -/
def clockManySpec : ChangeSpec := { name := "clockMany", fn := fun _ => fun
  | [d1, d2] => { results := [.lit (.bool true)], args := [d1, d2] }
  | _ => none }
def clockManyRow : OpenClaim := { program := "ytipmfcpmbkopeaa", sum := "356bc7000fbffa8e2e61e6319cc346c903af779785b65c4a2d5ffb42c34b425a", func := "sederunt/sederuntlaw30.ClockMany", spec := "clockMany", inPlace := ["slices.overlaps[sederunt/api.Timer]"], unfollowed := true, recurses := true, apart := false }
def ClockManySaid : Prop := clockManyRow.holds Try.pinned (OpenSpec.ofChange clockManySpec)

/-- ITS FALSE NEIGHBOUR: 'it returns false'. Refute it at one input. -/
def clockManyWrong : ChangeSpec := { name := "clockMany", fn := fun _ => fun
  | [d1, d2] => { results := [.lit (.bool false)], args := [d1, d2] }
  | _ => none }
def ClockManyWrongFalsely : Prop := clockManyRow.holds Try.pinned (OpenSpec.ofChange clockManyWrong)

/- THE SECOND FORM. 'bulk': how many values and letters a reading holds, each counted each time it is reached (what is shared counts as often as it is met; a slice's spare places count too). A statement '..UptoSaid' is the law's where the arguments, and the package variables that the reading takes, are together of bulk at most 1048576: NARROWER than '..Said'. Prove '..Said' where nothing that the law and all that it calls make is longer than what came in: it says more and counts as full. Else prove '..UptoSaid'. A law counts once. -/
mutual
def uptoBulk {H : Type} : DataW H → Nat
  | .lit (.string bytes) => bytes.length + 1
  | .lit _ => 1
  | .nil => 1
  | .ptr d => uptoBulk d + 1
  | .slice elems spare => uptoBulkAll elems + uptoBulkAll spare + 1
  | .agg parts => uptoBulkAll parts + 1
  | .iface _ d => uptoBulk d + 1
  | .map entries => uptoBulkEntries entries + 1
  | .held _ => 1
def uptoBulkAll {H : Type} : List (DataW H) → Nat
  | [] => 0
  | d :: r => uptoBulk d + uptoBulkAll r
def uptoBulkEntries {H : Type} : List (Lit × DataW H) → Nat
  | [] => 0
  | x :: r => uptoBulkEntry x + uptoBulkEntries r
def uptoBulkEntry {H : Type} : Lit × DataW H → Nat
  | (.string bytes, d) => bytes.length + uptoBulk d + 1
  | (_, d) => uptoBulk d + 1
 end
def uptoSmall : (H : Type) → List (DataW H) → Bool := fun _ ds => decide (uptoBulkAll ds ≤ 1048576)
def OpenSpec.upto (s : _root_.Go.ChangeSpec) : _root_.Go.OpenSpec := { _root_.Go.OpenSpec.ofChange s with cond := some uptoSmall }

/-- 'sederuntlaw30.ClockScript', WHERE WHAT IT READS IS OF BULK AT MOST 1048576: true; the input reads as it did. -/
def clockScriptUptoRow : OpenClaim := { program := "ytipmfcpmbkopeaa", sum := "356bc7000fbffa8e2e61e6319cc346c903af779785b65c4a2d5ffb42c34b425a", func := "sederunt/sederuntlaw30.ClockScript", spec := "clockScript", inPlace := ["slices.overlaps[sederunt/api.Timer]"], unfollowed := true, recurses := true, apart := false, narrowed := true }
def ClockScriptUptoSaid : Prop := clockScriptUptoRow.holds Try.pinned (OpenSpec.upto clockScriptSpec)

/-- 'sederuntlaw30.ClockOrder', WHERE WHAT IT READS IS OF BULK AT MOST 1048576: true; the input reads as it did. -/
def clockOrderUptoRow : OpenClaim := { program := "ytipmfcpmbkopeaa", sum := "356bc7000fbffa8e2e61e6319cc346c903af779785b65c4a2d5ffb42c34b425a", func := "sederunt/sederuntlaw30.ClockOrder", spec := "clockOrder", inPlace := ["slices.overlaps[sederunt/api.Timer]"], unfollowed := true, recurses := true, apart := false, narrowed := true }
def ClockOrderUptoSaid : Prop := clockOrderUptoRow.holds Try.pinned (OpenSpec.upto clockOrderSpec)

/-- 'sederuntlaw30.ClockSteps', WHERE WHAT IT READS IS OF BULK AT MOST 1048576: true; the input reads as it did. -/
def clockStepsUptoRow : OpenClaim := { program := "ytipmfcpmbkopeaa", sum := "356bc7000fbffa8e2e61e6319cc346c903af779785b65c4a2d5ffb42c34b425a", func := "sederunt/sederuntlaw30.ClockSteps", spec := "clockSteps", inPlace := ["slices.overlaps[sederunt/api.Timer]"], unfollowed := true, recurses := true, apart := false, narrowed := true }
def ClockStepsUptoSaid : Prop := clockStepsUptoRow.holds Try.pinned (OpenSpec.upto clockStepsSpec)

/-- 'sederuntlaw30.ClockNext', WHERE WHAT IT READS IS OF BULK AT MOST 1048576: true; the input reads as it did. -/
def clockNextUptoRow : OpenClaim := { program := "ytipmfcpmbkopeaa", sum := "356bc7000fbffa8e2e61e6319cc346c903af779785b65c4a2d5ffb42c34b425a", func := "sederunt/sederuntlaw30.ClockNext", spec := "clockNext", inPlace := ["slices.overlaps[sederunt/api.Timer]"], unfollowed := true, recurses := true, apart := false, narrowed := true }
def ClockNextUptoSaid : Prop := clockNextUptoRow.holds Try.pinned (OpenSpec.upto clockNextSpec)

/-- 'sederuntlaw30.ClockCancel', WHERE WHAT IT READS IS OF BULK AT MOST 1048576: true; the input reads as it did. -/
def clockCancelUptoRow : OpenClaim := { program := "ytipmfcpmbkopeaa", sum := "356bc7000fbffa8e2e61e6319cc346c903af779785b65c4a2d5ffb42c34b425a", func := "sederunt/sederuntlaw30.ClockCancel", spec := "clockCancel", inPlace := ["slices.overlaps[sederunt/api.Timer]"], unfollowed := true, recurses := true, apart := false, narrowed := true }
def ClockCancelUptoSaid : Prop := clockCancelUptoRow.holds Try.pinned (OpenSpec.upto clockCancelSpec)

/-- 'sederuntlaw30.ClockErrors', WHERE WHAT IT READS IS OF BULK AT MOST 1048576: true; the input reads as it did. -/
def clockErrorsUptoRow : OpenClaim := { program := "ytipmfcpmbkopeaa", sum := "356bc7000fbffa8e2e61e6319cc346c903af779785b65c4a2d5ffb42c34b425a", func := "sederunt/sederuntlaw30.ClockErrors", spec := "clockErrors", inPlace := ["slices.overlaps[sederunt/api.Timer]"], unfollowed := true, recurses := true, apart := false, narrowed := true }
def ClockErrorsUptoSaid : Prop := clockErrorsUptoRow.holds Try.pinned (OpenSpec.upto clockErrorsSpec)

/-- 'sederuntlaw30.ClockMemory', WHERE WHAT IT READS IS OF BULK AT MOST 1048576: true; the input reads as it did. -/
def clockMemoryUptoRow : OpenClaim := { program := "ytipmfcpmbkopeaa", sum := "356bc7000fbffa8e2e61e6319cc346c903af779785b65c4a2d5ffb42c34b425a", func := "sederunt/sederuntlaw30.ClockMemory", spec := "clockMemory", inPlace := ["slices.overlaps[sederunt/api.Timer]"], unfollowed := true, recurses := true, apart := false, narrowed := true }
def ClockMemoryUptoSaid : Prop := clockMemoryUptoRow.holds Try.pinned (OpenSpec.upto clockMemorySpec)

/-- 'sederuntlaw30.ClockMany', WHERE WHAT IT READS IS OF BULK AT MOST 1048576: true; the input reads as it did. -/
def clockManyUptoRow : OpenClaim := { program := "ytipmfcpmbkopeaa", sum := "356bc7000fbffa8e2e61e6319cc346c903af779785b65c4a2d5ffb42c34b425a", func := "sederunt/sederuntlaw30.ClockMany", spec := "clockMany", inPlace := ["slices.overlaps[sederunt/api.Timer]"], unfollowed := true, recurses := true, apart := false, narrowed := true }
def ClockManyUptoSaid : Prop := clockManyUptoRow.holds Try.pinned (OpenSpec.upto clockManySpec)

end Rows
end Go.Proofs.Ytipmfcpmbkopeaa
