/-
  NetworkOrder returns true for every input, and changes nothing. No condition.
-/
import Derived.Test.YtphpjgfhdoobjaaRows
import Derived.Test.YtphpjgfhdoobjaaNetArgs
import Derived.Test.YtphpjgfhdoobjaaNet24
set_option linter.unusedVariables false
set_option linter.unusedSectionVars false
set_option linter.unusedSimpArgs false
namespace Go.Proofs.Ytphpjgfhdoobjaa
namespace LNetworkOrder
open Go.ChangeShapes Go.WideShapes Go.ChangeAt Go.RowKit Go.Sy

theorem own : ownKnob Try.prog.godebug = none := by kernel_rfl

set_option maxRecDepth 100000 in
theorem lifted (os : Os) (started : os.Started) (H : Type) (enc : TypeId × Value → H) :
    ReturnsInHanded {} Try.checked os 3 .any (Rows.networkOrderSpec.pre6 enc Try.prog Try.f3 [] false) (Rows.networkOrderSpec.post enc Try.prog Try.f3 false true false false) := by
  refine law_lift (C := Try.checked) (tb := 4) own started (by kernel_rfl) Try.func3
    (ChangeSpec.witness6 (enc := enc) (C := Try.checked) false ⟨#[], #[.slice none 0 0], []⟩ 8 (by kernel_rfl) (by kernel_rfl) (by kernel_rfl) (by kernel_rfl)) kids full (by kernel_rfl) rfl (by kernel_rfl) Try.underlying4 (fun ds hl => ?_) (fun W base args ds p hval hA hw => ?_)
  · rw [Try.params3] at hl
    match ds, hl with
    | [_], _ => rfl
  · rw [Try.params3] at hA hval hw
    obtain ⟨v0, vs0, d0, ds0, p0, q0, hargs, rfl, rfl, h0, r0⟩ := trodAll_cons hA
    obtain ⟨rfl, rfl, rfl⟩ := trodAll_nil r0
    obtain rfl : args = #[v0] := by cases args; simp_all
    obtain ⟨x0, f0, e0⟩ := arg_rep kids full (m := 8) (t := 22) (of_decide_eq_true (by kernel_rfl)) (by kernel_rfl) (by kernel_rfl) (hval 0 22 v0 rfl rfl) h0 (fun k hk => hw k (mem_weightsEach (i := 0) rfl rfl hk))
    obtain ⟨z0, l0, g0, ho0, hl0⟩ := fits_bytes f0
    obtain rfl := (List.cons.inj g0).1
    refine (order_law (z := z0) hl0 ho0).law W rfl (fun j h => ?_)
    match j, h with
    | 0, _ => exact e0

theorem over : Rows.networkOrderRow.holds Try.pinned (OpenSpec.ofChange Rows.networkOrderSpec) :=
  OpenClaim.holds_of_wide 3 Try.f3 rfl rfl rfl rfl rfl rfl rfl ⟨rfl, rfl, rfl, rfl, rfl⟩ rfl rfl rfl rfl rfl (by kernel_rfl) Try.func3 (by kernel_rfl)
    (of_decide_eq_true (by kernel_rfl)) (by unfold Func.isWrapper; first | (rw [if_pos (by decide +kernel)]; kernel_rfl) | (rw [if_neg (by decide +kernel)]; exact ⟨rfl, rfl⟩))
    (fun os started H enc _ => lifted os started H enc)
end LNetworkOrder

theorem networkOrder_holds : Rows.NetworkOrderSaid := LNetworkOrder.over
#print axioms networkOrder_holds
end Go.Proofs.Ytphpjgfhdoobjaa
