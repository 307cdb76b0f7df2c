/-
  ClockMany returns true for every input, and changes nothing. No condition.
-/
import Derived.Test.YtipmfcpmbkopeaaRows
import Derived.Test.YtipmfcpmbkopeaaClockArgs
import Derived.Test.YtipmfcpmbkopeaaLawClockC
set_option linter.unusedVariables false
set_option linter.unusedSectionVars false
set_option linter.unusedSimpArgs false
namespace Go.Proofs.Ytipmfcpmbkopeaa
namespace LClockMany
open Go.ChangeShapes Go.WideShapes Go.ChangeAt Go.RowKit Go.Sy

theorem own : ownKnob Try.prog.godebug = none := by kernel_rfl

set_option maxRecDepth 100000 in
theorem lifted (os : Os) (started : os.Started) (H : Type) (enc : TypeId × Value → H) :
    ReturnsInHanded {} Try.checked os 10 .any (Rows.clockManySpec.pre6 enc Try.prog Try.f10 [] false) (Rows.clockManySpec.post enc Try.prog Try.f10 false true false false) := by
  refine law_lift (C := Try.checked) (tb := 4) own started (by kernel_rfl) Try.func10
    (ChangeSpec.witness6 (enc := enc) (C := Try.checked) false ⟨#[], #[.int .u8 0, .int .i64 0], []⟩ 8 (by kernel_rfl) (by kernel_rfl) (by kernel_rfl) (by kernel_rfl)) kids full (by kernel_rfl) rfl (by kernel_rfl) Try.underlying4 (fun ds hl => ?_) (fun W base args ds p hval hA hw => ?_)
  · rw [Try.params10] at hl
    match ds, hl with
    | [_, _], _ => rfl
  · rw [Try.params10] at hA hval hw
    obtain ⟨v0, vs0, d0, ds0, p0, q0, hargs, rfl, rfl, h0, r0⟩ := trodAll_cons hA
    obtain ⟨v1, vs1, d1, ds1, p1, q1, rfl, rfl, rfl, h1, r1⟩ := trodAll_cons r0
    obtain ⟨rfl, rfl, rfl⟩ := trodAll_nil r1
    obtain rfl : args = #[v0, v1] := by cases args; simp_all
    obtain ⟨a0, rfl, rfl, rfl, w0⟩ := open_int Try.underlying5 (hval 0 5 v0 rfl rfl) h0
    have b0 := byte_ok w0
    obtain ⟨a1, rfl, rfl, rfl, w1⟩ := open_int Try.underlying3 (hval 1 3 v1 rfl rfl) h1
    have b1 := i64_ok w1
    refine (many_law (b := a1) b0.1 b0.2).law W rfl (fun j h => ?_)
    match j, h with
    | 0, _ => exact .val _
    | 1, _ => exact .val _

theorem over : Rows.clockManyRow.holds Try.pinned (OpenSpec.ofChange Rows.clockManySpec) :=
  OpenClaim.holds_of_wide 10 Try.f10 rfl rfl rfl rfl rfl rfl rfl ⟨rfl, rfl, rfl, rfl, rfl⟩ rfl rfl rfl rfl rfl (by kernel_rfl) Try.func10 (by kernel_rfl)
    (of_decide_eq_true (by kernel_rfl)) (by unfold Func.isWrapper; first | (rw [if_pos (by decide +kernel)]; kernel_rfl) | (rw [if_neg (by decide +kernel)]; exact ⟨rfl, rfl⟩))
    (fun os started H enc _ => lifted os started H enc)
end LClockMany

theorem clockMany_holds : Rows.ClockManySaid := LClockMany.over
#print axioms clockMany_holds
end Go.Proofs.Ytipmfcpmbkopeaa
