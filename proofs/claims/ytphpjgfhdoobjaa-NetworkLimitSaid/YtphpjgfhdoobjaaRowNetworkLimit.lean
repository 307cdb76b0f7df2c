/-
  NetworkLimit returns true for every input, and changes nothing. No condition.
-/
import Derived.Test.YtphpjgfhdoobjaaRows
import Derived.Test.YtphpjgfhdoobjaaNetArgs
import Derived.Test.YtphpjgfhdoobjaaNet22
set_option linter.unusedVariables false
set_option linter.unusedSectionVars false
set_option linter.unusedSimpArgs false
namespace Go.Proofs.Ytphpjgfhdoobjaa
namespace LNetworkLimit
open Go.ChangeShapes Go.WideShapes Go.ChangeAt Go.RowKit Go.Sy

theorem own : ownKnob Try.prog.godebug = none := by kernel_rfl

set_option maxRecDepth 100000 in
theorem lifted (os : Os) (started : os.Started) (H : Type) (enc : TypeId × Value → H) :
    ReturnsInHanded {} Try.checked os 6 .any (Rows.networkLimitSpec.pre6 enc Try.prog Try.f6 [] false) (Rows.networkLimitSpec.post enc Try.prog Try.f6 false true false false) := by
  refine law_lift (C := Try.checked) (tb := 4) own started (by kernel_rfl) Try.func6
    (ChangeSpec.witness6 (enc := enc) (C := Try.checked) false ⟨#[], #[.int .u16 0, .int .u8 0], []⟩ 8 (by kernel_rfl) (by kernel_rfl) (by kernel_rfl) (by kernel_rfl)) kids full (by kernel_rfl) rfl (by kernel_rfl) Try.underlying4 (fun ds hl => ?_) (fun W base args ds p hval hA hw => ?_)
  · rw [Try.params6] at hl
    match ds, hl with
    | [_, _], _ => rfl
  · rw [Try.params6] at hA hval hw
    obtain ⟨v0, vs0, d0, ds0, p0, q0, hargs, rfl, rfl, h0, r0⟩ := trodAll_cons hA
    obtain ⟨v1, vs1, d1, ds1, p1, q1, rfl, rfl, rfl, h1, r1⟩ := trodAll_cons r0
    obtain ⟨rfl, rfl, rfl⟩ := trodAll_nil r1
    obtain rfl : args = #[v0, v1] := by cases args; simp_all
    obtain ⟨a0, rfl, rfl, rfl, w0⟩ := open_int Try.underlying55 (hval 0 55 v0 rfl rfl) h0
    have b0 := u16_ok w0
    obtain ⟨a1, rfl, rfl, rfl, w1⟩ := open_int Try.underlying5 (hval 1 5 v1 rfl rfl) h1
    have b1 := byte_ok w1
    refine (limit_law b0 b1).law W rfl (fun j h => ?_)
    match j, h with
    | 0, _ => exact .val _
    | 1, _ => exact .val _

theorem over : Rows.networkLimitRow.holds Try.pinned (OpenSpec.ofChange Rows.networkLimitSpec) :=
  OpenClaim.holds_of_wide 6 Try.f6 rfl rfl rfl rfl rfl rfl rfl ⟨rfl, rfl, rfl, rfl, rfl⟩ rfl rfl rfl rfl rfl (by kernel_rfl) Try.func6 (by kernel_rfl)
    (of_decide_eq_true (by kernel_rfl)) (by unfold Func.isWrapper; first | (rw [if_pos (by decide +kernel)]; kernel_rfl) | (rw [if_neg (by decide +kernel)]; exact ⟨rfl, rfl⟩))
    (fun os started H enc _ => lifted os started H enc)
end LNetworkLimit

theorem networkLimit_holds : Rows.NetworkLimitSaid := LNetworkLimit.over
#print axioms networkLimit_holds
end Go.Proofs.Ytphpjgfhdoobjaa
