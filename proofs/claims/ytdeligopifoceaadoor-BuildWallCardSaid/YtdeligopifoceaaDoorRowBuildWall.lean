/-
  BuildWall returns true for every input, and changes nothing; the tied card of it. No condition.
-/
import Derived.Test.YtdeligopifoceaaDoorCards
import Derived.Test.YtdeligopifoceaaDoorBuildArgs
import Derived.Test.YtdeligopifoceaaDoorLawBD
import Derived.SevenTiedAt
set_option linter.unusedVariables false
set_option linter.unusedSectionVars false
set_option linter.unusedSimpArgs false
namespace Go.Proofs.YtdeligopifoceaaDoor
namespace LBuildWall
open Go.ChangeShapes Go.WideShapes Go.ChangeAt Go.RowKit Go.Sy

set_option maxRecDepth 100000 in
theorem lifted (os : Os) (started : os.Started) (H : Type) (enc : TypeId × Value → H) :
    ReturnsInHanded {} Tryd.checked os 5 .any (fun w args => (Rows.buildWallSpec.pre enc Tryd.prog Tryd.f5 [] false w args ∧ laidMetH Tryd.prog laidL w) ∧ sizedMet enc Tryd.prog Tryd.f5 (OpenSpec.ofChange Rows.buildWallSpec) false w args) (Rows.buildWallSpec.post enc Tryd.prog Tryd.f5 false true false false) := by
  refine law_liftL (C := Tryd.checked) (tb := 4) (X := fun w _ => laidMetH Tryd.prog laidL w) own started (by kernel_rfl) Tryd.func5
    (ChangeSpec.witness_shaped (enc := enc) (C := Tryd.checked) (os := os) (X := fun w _ => laidMetH Tryd.prog laidL w) false (World.doorLaid Tryd.prog 400 os) #[.slice none 0 0, .int .u16 0] 8 rfl (World.shaped_of_RefB (by kernel_rfl) (by kernel_rfl)) (by kernel_rfl) (by kernel_rfl) (by kernel_rfl) (door_met os _)) kids full (by kernel_rfl) rfl (by kernel_rfl) Tryd.underlying4 (fun ds hl => ?_) (fun W base args ds p hval hA hw => ?_)
  · rw [Tryd.params5] at hl
    match ds, hl with
    | [_, _], _ => rfl
  · rw [Tryd.params5] at hA hval hw
    obtain ⟨v0, vs0, d0, ds0, p0, q0, hargs, rfl, rfl, h0, r0⟩ := trodAll_cons hA
    obtain ⟨v1, vs1, d1, ds1, p1, q1, rfl, rfl, rfl, h1, r1⟩ := trodAll_cons r0
    obtain ⟨rfl, rfl, rfl⟩ := trodAll_nil r1
    obtain rfl : args = #[v0, v1] := by cases args; simp_all
    obtain ⟨x0, f0, e0⟩ := arg_rep kids full (m := 8) (t := 22) (of_decide_eq_true (by kernel_rfl)) (by kernel_rfl) (by kernel_rfl) (hval 0 22 v0 rfl rfl) h0 (fun k hk => hw k (mem_weightsEach (i := 0) rfl rfl hk))
    obtain ⟨z0, l0, g0, hl0, hz0⟩ := fits_ints f0
    obtain rfl := (List.cons.inj g0).1
    obtain ⟨a1, rfl, rfl, rfl, w1⟩ := open_int Tryd.underlying34 (hval 1 34 v1 rfl rfl) h1
    have b1 := u16_ok w1
    obtain ⟨s1, rfl⟩ := Int.eq_ofNat_of_zero_le b1.1
    refine (wall_law (z := z0) (s := s1) (by omega) rfl (Nat.lt_of_lt_of_le hl0 (by decide)) hz0).law W rfl (fun j h => ?_)
    match j, h with
    | 0, _ => exact e0
    | 1, _ => exact .val _

theorem over : Rows.buildWallRow.holds Tryd.pinned (OpenSpec.ofChange Rows.buildWallSpec) :=
  OpenClaim.holds_of_wide 5 Tryd.f5 rfl rfl rfl rfl rfl rfl rfl ⟨rfl, rfl, rfl, rfl, rfl⟩ rfl rfl rfl rfl rfl (by kernel_rfl) Tryd.func5 (by kernel_rfl)
    (of_decide_eq_true (by kernel_rfl)) (by unfold Func.isWrapper; first | (rw [if_pos (by decide +kernel)]; kernel_rfl) | (rw [if_neg (by decide +kernel)]; exact ⟨rfl, rfl⟩))
    (fun os started H enc _ => lifted os started H enc)
end LBuildWall

theorem buildWall_holds : Rows.BuildWallCardSaid :=
  Claim7.holds_tied_plain_at .later [] [.data, .data, .data] true (true, "747109d29ee8930f0bedb217368bd18504995a7db134795a3b25723c9cab0eba") false
    LBuildWall.over (fun _ h => by cases h) (by kernel_rfl) (fun _ h => by cases h) buildWall_row_tie rfl ⟨rfl, rfl⟩ (by kernel_rfl) rfl
    (fun f fn hf hfn => by
      obtain rfl : f = 5 := Option.some.inj ((show Tryd.prog.funcNamed "sederunt/sederuntlaw12.BuildWall" = some 5 by kernel_rfl).symm.trans hf) |>.symm
      obtain rfl : fn = Tryd.f5 := (Option.some.inj (Tryd.func5.symm.trans hfn)).symm
      exact ⟨by kernel_rfl, fun j t ht => by
        rw [Tryd.params5] at ht
        have hm : t ∈ [22, 34] := by simpa using Array.mem_of_getElem? ht
        have hall : ([22, 34].all fun u => !Tryd.prog.wantsStandIn u) = true := by kernel_rfl
        exact (show Tryd.prog.wantsStandIn t = false by simpa using List.all_eq_true.1 hall t hm)⟩)
    (by kernel_rfl)
#print axioms buildWall_holds
end Go.Proofs.YtdeligopifoceaaDoor
