/-
  DiskCrash returns true for every input, and changes nothing. No condition.
-/
import Derived.Test.YtdghbmidfebkaaaRows
import Derived.Test.YtdghbmidfebkaaaDiskArgs
import Derived.Test.YtdghbmidfebkaaaLawCrash
set_option linter.unusedVariables false
set_option linter.unusedSimpArgs false
namespace Go.Proofs.Ytdghbmidfebkaaa
namespace LDiskCrash
open Go.ChangeShapes Go.WideShapes Go.ChangeAt Go.RowKit Go.Sy

theorem own : ownKnob Try.prog.godebug = none := by kernel_rfl

set_option maxRecDepth 100000 in
theorem lifted (os : Os) (started : os.Started) (H : Type) (enc : TypeId × Value → H) :
    ReturnsInHanded {} Try.checked os 4 .any (Rows.diskCrashSpec.pre6 enc Try.prog Try.f4 [] false) (Rows.diskCrashSpec.post enc Try.prog Try.f4 false true false false) := by
  refine law_lift (C := Try.checked) (tb := 4) own started (by kernel_rfl) Try.func4
    (ChangeSpec.witness6 (enc := enc) (C := Try.checked) false ⟨#[], #[.int .u8 0, .slice none 0 0, .slice none 0 0], []⟩ 8 (by kernel_rfl) (by kernel_rfl) (by kernel_rfl) (by kernel_rfl)) kids full (by kernel_rfl) rfl (by kernel_rfl) Try.underlying4 (fun ds hl => ?_) (fun W base args ds p hval hA hw => ?_)
  · rw [Try.params4] at hl
    match ds, hl with
    | [_, _, _], _ => rfl
  · rw [Try.params4] at hA hval hw
    obtain ⟨v0, vs0, d0, ds0, p0, q0, hargs, rfl, rfl, h0, r0⟩ := trodAll_cons hA
    obtain ⟨v1, vs1, d1, ds1, p1, q1, rfl, rfl, rfl, h1, r1⟩ := trodAll_cons r0
    obtain ⟨v2, vs2, d2, ds2, p2, q2, rfl, rfl, rfl, h2, r2⟩ := trodAll_cons r1
    obtain ⟨rfl, rfl, rfl⟩ := trodAll_nil r2
    obtain rfl : args = #[v0, v1, v2] := by cases args; simp_all
    obtain ⟨a0, rfl, rfl, rfl, w0⟩ := open_int Try.underlying5 (hval 0 5 v0 rfl rfl) h0
    have b0 := byte_ok w0
    obtain ⟨x1, f1, e1⟩ := arg_rep kids full (m := 8) (t := 35) (of_decide_eq_true (by kernel_rfl)) (by kernel_rfl) (by kernel_rfl) (hval 1 35 v1 rfl rfl) h1 (fun k hk => hw k (mem_weightsEach (i := 1) rfl rfl hk))
    obtain ⟨z1, l1, g1, ho1, hl1⟩ := fits_ops f1
    obtain rfl := (List.cons.inj g1).1
    obtain ⟨x2, f2, e2⟩ := arg_rep kids full (m := 8) (t := 36) (of_decide_eq_true (by kernel_rfl)) (by kernel_rfl) (by kernel_rfl) (hval 2 36 v2 rfl rfl) h2 (fun k hk => hw k (mem_weightsEach (i := 2) rfl rfl hk))
    obtain ⟨z2, l2, g2, hz2, hb2, hc2⟩ := fits_bits f2
    obtain rfl := (List.cons.inj g2).1
    obtain ⟨n, hn⟩ : ∃ n : Nat, 1 + a0 % 8 = (n : Int) := ⟨(1 + a0 % 8).toNat, by omega⟩
    refine (crash_law (z := z1) (z2 := z2) (by omega) (by omega) hn ho1 hl1 hz2 hb2 hc2).law W rfl (fun j h => ?_)
    match j, h with
    | 0, _ => exact .val _
    | 1, _ => exact e1
    | 2, _ => exact e2

theorem over : Rows.diskCrashRow.holds Try.pinned (OpenSpec.ofChange Rows.diskCrashSpec) :=
  OpenClaim.holds_of_wide 4 Try.f4 rfl rfl rfl rfl rfl rfl rfl ⟨rfl, rfl, rfl, rfl, rfl⟩ rfl rfl rfl rfl rfl (by kernel_rfl) Try.func4 (by kernel_rfl)
    (of_decide_eq_true (by kernel_rfl)) (by unfold Func.isWrapper; first | (rw [if_pos (by decide +kernel)]; kernel_rfl) | (rw [if_neg (by decide +kernel)]; exact ⟨rfl, rfl⟩))
    (fun os started H enc _ => lifted os started H enc)
end LDiskCrash

theorem diskCrash_holds : Rows.DiskCrashSaid := LDiskCrash.over
#print axioms diskCrash_holds
end Go.Proofs.Ytdghbmidfebkaaa
