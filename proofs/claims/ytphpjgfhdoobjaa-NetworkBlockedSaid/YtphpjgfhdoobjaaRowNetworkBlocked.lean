/-
  NetworkBlocked returns true for every input, and changes nothing. No condition.
-/
import Derived.Test.YtphpjgfhdoobjaaRows
import Derived.Test.YtphpjgfhdoobjaaNetArgs
import Derived.Test.YtphpjgfhdoobjaaNet26
set_option linter.unusedVariables false
set_option linter.unusedSectionVars false
set_option linter.unusedSimpArgs false
namespace Go.Proofs.Ytphpjgfhdoobjaa
namespace LNetworkBlocked
open Go.ChangeShapes Go.WideShapes Go.ChangeAt Go.RowKit Go.Sy

theorem own : ownKnob Try.prog.godebug = none := by kernel_rfl

set_option maxRecDepth 100000 in
theorem lifted (os : Os) (started : os.Started) (H : Type) (enc : TypeId × Value → H) :
    ReturnsInHanded {} Try.checked os 5 .any (Rows.networkBlockedSpec.pre6 enc Try.prog Try.f5 [] false) (Rows.networkBlockedSpec.post enc Try.prog Try.f5 false true false false) := by
  refine law_lift (C := Try.checked) (tb := 4) own started (by kernel_rfl) Try.func5
    (ChangeSpec.witness6 (enc := enc) (C := Try.checked) false ⟨#[], #[.int .u8 0, .int .u16 0, .int .u16 0], []⟩ 8 (by kernel_rfl) (by kernel_rfl) (by kernel_rfl) (by kernel_rfl)) kids full (by kernel_rfl) rfl (by kernel_rfl) Try.underlying4 (fun ds hl => ?_) (fun W base args ds p hval hA hw => ?_)
  · rw [Try.params5] at hl
    match ds, hl with
    | [_, _, _], _ => rfl
  · rw [Try.params5] at hA hval hw
    obtain ⟨v0, vs0, d0, ds0, p0, q0, hargs, rfl, rfl, h0, r0⟩ := trodAll_cons hA
    obtain ⟨v1, vs1, d1, ds1, p1, q1, rfl, rfl, rfl, h1, r1⟩ := trodAll_cons r0
    obtain ⟨v2, vs2, d2, ds2, p2, q2, rfl, rfl, rfl, h2, r2⟩ := trodAll_cons r1
    obtain ⟨rfl, rfl, rfl⟩ := trodAll_nil r2
    obtain rfl : args = #[v0, v1, v2] := by cases args; simp_all
    obtain ⟨a0, rfl, rfl, rfl, w0⟩ := open_int Try.underlying5 (hval 0 5 v0 rfl rfl) h0
    have b0 := byte_ok w0
    obtain ⟨a1, rfl, rfl, rfl, w1⟩ := open_int Try.underlying56 (hval 1 56 v1 rfl rfl) h1
    have b1 := u16_ok w1
    obtain ⟨a2, rfl, rfl, rfl, w2⟩ := open_int Try.underlying56 (hval 2 56 v2 rfl rfl) h2
    have b2 := u16_ok w2
    refine (blocked_law b0 b1 b2).law W rfl (fun j h => ?_)
    match j, h with
    | 0, _ => exact .val _
    | 1, _ => exact .val _
    | 2, _ => exact .val _

theorem over : Rows.networkBlockedRow.holds Try.pinned (OpenSpec.ofChange Rows.networkBlockedSpec) :=
  OpenClaim.holds_of_wide 5 Try.f5 rfl rfl rfl rfl rfl rfl rfl ⟨rfl, rfl, rfl, rfl, rfl⟩ rfl rfl rfl rfl rfl (by kernel_rfl) Try.func5 (by kernel_rfl)
    (of_decide_eq_true (by kernel_rfl)) (by unfold Func.isWrapper; first | (rw [if_pos (by decide +kernel)]; kernel_rfl) | (rw [if_neg (by decide +kernel)]; exact ⟨rfl, rfl⟩))
    (fun os started H enc _ => lifted os started H enc)
end LNetworkBlocked

theorem networkBlocked_holds : Rows.NetworkBlockedSaid := LNetworkBlocked.over
#print axioms networkBlocked_holds
end Go.Proofs.Ytphpjgfhdoobjaa
