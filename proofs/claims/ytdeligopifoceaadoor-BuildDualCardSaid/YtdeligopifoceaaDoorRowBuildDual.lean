/-
  BuildDual returns true for every input, and changes nothing; the tied card of it. No condition.
-/
import Derived.Test.YtdeligopifoceaaDoorCards
import Derived.Test.YtdeligopifoceaaDoorBuildArgs
import Derived.Test.YtdeligopifoceaaDoorLawBH
import Derived.SevenTiedAt
set_option linter.unusedVariables false
set_option linter.unusedSectionVars false
set_option linter.unusedSimpArgs false
namespace Go.Proofs.YtdeligopifoceaaDoor
namespace LBuildDual
open Go.ChangeShapes Go.WideShapes Go.ChangeAt Go.RowKit Go.Sy

set_option maxRecDepth 100000 in
theorem lifted (os : Os) (started : os.Started) (H : Type) (enc : TypeId × Value → H) :
    ReturnsInHanded {} Tryd.checked os 8 .any (fun w args => (Rows.buildDualSpec.pre enc Tryd.prog Tryd.f8 [] false w args ∧ laidMetH Tryd.prog laidL w) ∧ sizedMet enc Tryd.prog Tryd.f8 (OpenSpec.ofChange Rows.buildDualSpec) false w args) (Rows.buildDualSpec.post enc Tryd.prog Tryd.f8 false true false false) := by
  refine law_liftL (C := Tryd.checked) (tb := 4) (X := fun w _ => laidMetH Tryd.prog laidL w) own started (by kernel_rfl) Tryd.func8
    (ChangeSpec.witness_shaped (enc := enc) (C := Tryd.checked) (os := os) (X := fun w _ => laidMetH Tryd.prog laidL w) false (World.doorLaid Tryd.prog 400 os) #[.int .u8 0, .int .u8 0, .int .u16 0] 8 rfl (World.shaped_of_RefB (by kernel_rfl) (by kernel_rfl)) (by kernel_rfl) (by kernel_rfl) (by kernel_rfl) (door_met os _)) kids full (by kernel_rfl) rfl (by kernel_rfl) Tryd.underlying4 (fun ds hl => ?_) (fun W base args ds p hval hA hw => ?_)
  · rw [Tryd.params8] at hl
    match ds, hl with
    | [_, _, _], _ => rfl
  · rw [Tryd.params8] at hA hval hw
    obtain ⟨v0, vs0, d0, ds0, p0, q0, hargs, rfl, rfl, h0, r0⟩ := trodAll_cons hA
    obtain ⟨v1, vs1, d1, ds1, p1, q1, rfl, rfl, rfl, h1, r1⟩ := trodAll_cons r0
    obtain ⟨v2, vs2, d2, ds2, p2, q2, rfl, rfl, rfl, h2, r2⟩ := trodAll_cons r1
    obtain ⟨rfl, rfl, rfl⟩ := trodAll_nil r2
    obtain rfl : args = #[v0, v1, v2] := by cases args; simp_all
    obtain ⟨a0, rfl, rfl, rfl, w0⟩ := open_int Tryd.underlying5 (hval 0 5 v0 rfl rfl) h0
    have b0 := byte_ok w0
    obtain ⟨a1, rfl, rfl, rfl, w1⟩ := open_int Tryd.underlying5 (hval 1 5 v1 rfl rfl) h1
    have b1 := byte_ok w1
    obtain ⟨a2, rfl, rfl, rfl, w2⟩ := open_int Tryd.underlying34 (hval 2 34 v2 rfl rfl) h2
    have b2 := u16_ok w2
    obtain ⟨s2, rfl⟩ := Int.eq_ofNat_of_zero_le b2.1
    refine (dual_law (a := a0) (b := a1) (s := s2) (by omega) b0 b1).law W rfl (fun j h => ?_)
    match j, h with
    | 0, _ => exact .val _
    | 1, _ => exact .val _
    | 2, _ => exact .val _

theorem over : Rows.buildDualRow.holds Tryd.pinned (OpenSpec.ofChange Rows.buildDualSpec) :=
  OpenClaim.holds_of_wide 8 Tryd.f8 rfl rfl rfl rfl rfl rfl rfl ⟨rfl, rfl, rfl, rfl, rfl⟩ rfl rfl rfl rfl rfl (by kernel_rfl) Tryd.func8 (by kernel_rfl)
    (of_decide_eq_true (by kernel_rfl)) (by unfold Func.isWrapper; first | (rw [if_pos (by decide +kernel)]; kernel_rfl) | (rw [if_neg (by decide +kernel)]; exact ⟨rfl, rfl⟩))
    (fun os started H enc _ => lifted os started H enc)
end LBuildDual

theorem buildDual_holds : Rows.BuildDualCardSaid :=
  Claim7.holds_tied_plain_at .later [] [.data, .data, .data] true (true, "747109d29ee8930f0bedb217368bd18504995a7db134795a3b25723c9cab0eba") false
    LBuildDual.over (fun _ h => by cases h) (by kernel_rfl) (fun _ h => by cases h) buildDual_row_tie rfl ⟨rfl, rfl⟩ (by kernel_rfl) rfl
    (fun f fn hf hfn => by
      obtain rfl : f = 8 := Option.some.inj ((show Tryd.prog.funcNamed "sederunt/sederuntlaw12.BuildDual" = some 8 by kernel_rfl).symm.trans hf) |>.symm
      obtain rfl : fn = Tryd.f8 := (Option.some.inj (Tryd.func8.symm.trans hfn)).symm
      exact ⟨by kernel_rfl, fun j t ht => by
        rw [Tryd.params8] at ht
        have hm : t ∈ [5, 5, 34] := by simpa using Array.mem_of_getElem? ht
        have hall : ([5, 5, 34].all fun u => !Tryd.prog.wantsStandIn u) = true := by kernel_rfl
        exact (show Tryd.prog.wantsStandIn t = false by simpa using List.all_eq_true.1 hall t hm)⟩)
    (by kernel_rfl)
#print axioms buildDual_holds
end Go.Proofs.YtdeligopifoceaaDoor
