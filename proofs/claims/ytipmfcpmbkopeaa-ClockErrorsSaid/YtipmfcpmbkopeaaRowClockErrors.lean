/-
  ClockErrors returns true for every input, and changes nothing. No condition.
-/
import Derived.Test.YtipmfcpmbkopeaaRows
import Derived.Test.YtipmfcpmbkopeaaClockArgs
import Derived.Test.YtipmfcpmbkopeaaLawClockB
set_option linter.unusedVariables false
set_option linter.unusedSectionVars false
set_option linter.unusedSimpArgs false
namespace Go.Proofs.Ytipmfcpmbkopeaa
namespace LClockErrors
open Go.ChangeShapes Go.WideShapes Go.ChangeAt Go.RowKit Go.Sy

theorem own : ownKnob Try.prog.godebug = none := by kernel_rfl

set_option maxRecDepth 100000 in
theorem lifted (os : Os) (started : os.Started) (H : Type) (enc : TypeId × Value → H) :
    ReturnsInHanded {} Try.checked os 8 .any (Rows.clockErrorsSpec.pre6 enc Try.prog Try.f8 [] false) (Rows.clockErrorsSpec.post enc Try.prog Try.f8 false true false false) := by
  refine law_lift (C := Try.checked) (tb := 4) own started (by kernel_rfl) Try.func8
    (ChangeSpec.witness6 (enc := enc) (C := Try.checked) false ⟨#[], #[.slice none 0 0, .int .i64 0, .int .i64 0], []⟩ 8 (by kernel_rfl) (by kernel_rfl) (by kernel_rfl) (by kernel_rfl)) kids full (by kernel_rfl) rfl (by kernel_rfl) Try.underlying4 (fun ds hl => ?_) (fun W base args ds p hval hA hw => ?_)
  · rw [Try.params8] at hl
    match ds, hl with
    | [_, _, _], _ => rfl
  · rw [Try.params8] at hA hval hw
    obtain ⟨v0, vs0, d0, ds0, p0, q0, hargs, rfl, rfl, h0, r0⟩ := trodAll_cons hA
    obtain ⟨v1, vs1, d1, ds1, p1, q1, rfl, rfl, rfl, h1, r1⟩ := trodAll_cons r0
    obtain ⟨v2, vs2, d2, ds2, p2, q2, rfl, rfl, rfl, h2, r2⟩ := trodAll_cons r1
    obtain ⟨rfl, rfl, rfl⟩ := trodAll_nil r2
    obtain rfl : args = #[v0, v1, v2] := by cases args; simp_all
    obtain ⟨x0, f0, e0⟩ := arg_rep kids full (m := 8) (t := 22) (of_decide_eq_true (by kernel_rfl)) (by kernel_rfl) (by kernel_rfl) (hval 0 22 v0 rfl rfl) h0 (fun k hk => hw k (mem_weightsEach (i := 0) rfl rfl hk))
    obtain ⟨z0, l0, g0, ho0, hl0⟩ := fits_ops f0
    obtain rfl := (List.cons.inj g0).1
    obtain ⟨a1, rfl, rfl, rfl, w1⟩ := open_int Try.underlying2 (hval 1 2 v1 rfl rfl) h1
    have b1 := i64_ok w1
    obtain ⟨a2, rfl, rfl, rfl, w2⟩ := open_int Try.underlying3 (hval 2 3 v2 rfl rfl) h2
    have b2 := i64_ok w2
    refine (errors_law (z := z0) (a := a1) (b := a2) hl0 ho0).law W rfl (fun j h => ?_)
    match j, h with
    | 0, _ => exact e0
    | 1, _ => exact .val _
    | 2, _ => exact .val _

theorem over : Rows.clockErrorsRow.holds Try.pinned (OpenSpec.ofChange Rows.clockErrorsSpec) :=
  OpenClaim.holds_of_wide 8 Try.f8 rfl rfl rfl rfl rfl rfl rfl ⟨rfl, rfl, rfl, rfl, rfl⟩ rfl rfl rfl rfl rfl (by kernel_rfl) Try.func8 (by kernel_rfl)
    (of_decide_eq_true (by kernel_rfl)) (by unfold Func.isWrapper; first | (rw [if_pos (by decide +kernel)]; kernel_rfl) | (rw [if_neg (by decide +kernel)]; exact ⟨rfl, rfl⟩))
    (fun os started H enc _ => lifted os started H enc)
end LClockErrors

theorem clockErrors_holds : Rows.ClockErrorsSaid := LClockErrors.over
#print axioms clockErrors_holds
end Go.Proofs.Ytipmfcpmbkopeaa
