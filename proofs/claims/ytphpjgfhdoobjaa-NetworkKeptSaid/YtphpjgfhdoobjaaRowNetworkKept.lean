/-
  NetworkKept returns true for every input, and changes nothing. No condition.
-/
import Derived.Test.YtphpjgfhdoobjaaRows
import Derived.Test.YtphpjgfhdoobjaaNetArgs
import Derived.Test.YtphpjgfhdoobjaaNet21
set_option linter.unusedVariables false
set_option linter.unusedSectionVars false
set_option linter.unusedSimpArgs false
namespace Go.Proofs.Ytphpjgfhdoobjaa
namespace LNetworkKept
open Go.ChangeShapes Go.WideShapes Go.ChangeAt Go.RowKit Go.Sy

theorem own : ownKnob Try.prog.godebug = none := by kernel_rfl

set_option maxRecDepth 100000 in
theorem lifted (os : Os) (started : os.Started) (H : Type) (enc : TypeId × Value → H) :
    ReturnsInHanded {} Try.checked os 9 .any (Rows.networkKeptSpec.pre6 enc Try.prog Try.f9 [] false) (Rows.networkKeptSpec.post enc Try.prog Try.f9 false true false false) := by
  refine law_lift (C := Try.checked) (tb := 4) own started (by kernel_rfl) Try.func9
    (ChangeSpec.witness6 (enc := enc) (C := Try.checked) false ⟨#[], #[.int .u8 0, .slice none 0 0], []⟩ 8 (by kernel_rfl) (by kernel_rfl) (by kernel_rfl) (by kernel_rfl)) kids full (by kernel_rfl) rfl (by kernel_rfl) Try.underlying4 (fun ds hl => ?_) (fun W base args ds p hval hA hw => ?_)
  · rw [Try.params9] at hl
    match ds, hl with
    | [_, _], _ => rfl
  · rw [Try.params9] at hA hval hw
    obtain ⟨v0, vs0, d0, ds0, p0, q0, hargs, rfl, rfl, h0, r0⟩ := trodAll_cons hA
    obtain ⟨v1, vs1, d1, ds1, p1, q1, rfl, rfl, rfl, h1, r1⟩ := trodAll_cons r0
    obtain ⟨rfl, rfl, rfl⟩ := trodAll_nil r1
    obtain rfl : args = #[v0, v1] := by cases args; simp_all
    obtain ⟨a0, rfl, rfl, rfl, w0⟩ := open_int Try.underlying5 (hval 0 5 v0 rfl rfl) h0
    have b0 := byte_ok w0
    obtain ⟨x1, f1, e1⟩ := arg_rep kids full (m := 8) (t := 65) (of_decide_eq_true (by kernel_rfl)) (by kernel_rfl) (by kernel_rfl) (hval 1 65 v1 rfl rfl) h1 (fun k hk => hw k (mem_weightsEach (i := 1) rfl rfl hk))
    obtain ⟨z1, l1, g1, ho1, hl1⟩ := fits_ops f1
    obtain rfl := (List.cons.inj g1).1
    refine (kept_law (z := z1) b0 hl1 ho1).law W rfl (fun j h => ?_)
    match j, h with
    | 0, _ => exact .val _
    | 1, _ => exact e1

theorem over : Rows.networkKeptRow.holds Try.pinned (OpenSpec.ofChange Rows.networkKeptSpec) :=
  OpenClaim.holds_of_wide 9 Try.f9 rfl rfl rfl rfl rfl rfl rfl ⟨rfl, rfl, rfl, rfl, rfl⟩ rfl rfl rfl rfl rfl (by kernel_rfl) Try.func9 (by kernel_rfl)
    (of_decide_eq_true (by kernel_rfl)) (by unfold Func.isWrapper; first | (rw [if_pos (by decide +kernel)]; kernel_rfl) | (rw [if_neg (by decide +kernel)]; exact ⟨rfl, rfl⟩))
    (fun os started H enc _ => lifted os started H enc)
end LNetworkKept

theorem networkKept_holds : Rows.NetworkKeptSaid := LNetworkKept.over
#print axioms networkKept_holds
end Go.Proofs.Ytphpjgfhdoobjaa
