/-
  BuildMeet returns true for every input, and changes nothing; the tied card of it. No condition.
-/
import Derived.Test.YtdeligopifoceaaDoorCards
import Derived.Test.YtdeligopifoceaaDoorBuildArgs
import Derived.Test.YtdeligopifoceaaDoorLawBG
import Derived.SevenTiedAt
set_option linter.unusedVariables false
set_option linter.unusedSectionVars false
set_option linter.unusedSimpArgs false
namespace Go.Proofs.YtdeligopifoceaaDoor
namespace LBuildMeet
open Go.ChangeShapes Go.WideShapes Go.ChangeAt Go.RowKit Go.Sy

set_option maxRecDepth 100000 in
theorem lifted (os : Os) (started : os.Started) (H : Type) (enc : TypeId × Value → H) :
    ReturnsInHanded {} Tryd.checked os 10 .any (fun w args => (Rows.buildMeetSpec.pre enc Tryd.prog Tryd.f10 [] false w args ∧ laidMetH Tryd.prog laidL w) ∧ sizedMet enc Tryd.prog Tryd.f10 (OpenSpec.ofChange Rows.buildMeetSpec) false w args) (Rows.buildMeetSpec.post enc Tryd.prog Tryd.f10 false true false false) := by
  refine law_liftL (C := Tryd.checked) (tb := 4) (X := fun w _ => laidMetH Tryd.prog laidL w) own started (by kernel_rfl) Tryd.func10
    (ChangeSpec.witness_shaped (enc := enc) (C := Tryd.checked) (os := os) (X := fun w _ => laidMetH Tryd.prog laidL w) false (World.doorLaid Tryd.prog 400 os) #[.agg #[.int .u8 0, .int .u8 0, .slice none 0 0, .int .u16 0, .int .u16 0]] 8 rfl (World.shaped_of_RefB (by kernel_rfl) (by kernel_rfl)) (by kernel_rfl) (by kernel_rfl) (by kernel_rfl) (door_met os _)) kids full (by kernel_rfl) rfl (by kernel_rfl) Tryd.underlying4 (fun ds hl => ?_) (fun W base args ds p hval hA hw => ?_)
  · rw [Tryd.params10] at hl
    match ds, hl with
    | [_], _ => rfl
  · rw [Tryd.params10] at hA hval hw
    obtain ⟨v0, vs0, d0, ds0, p0, q0, hargs, rfl, rfl, h0, r0⟩ := trodAll_cons hA
    obtain ⟨rfl, rfl, rfl⟩ := trodAll_nil r0
    obtain rfl : args = #[v0] := by cases args; simp_all
    obtain ⟨x0, f0, e0⟩ := arg_repS kids full (m := 8) (t := 55) (of_decide_eq_true (by kernel_rfl)) (by kernel_rfl) Tryd.underlying55 (hval 0 55 v0 rfl rfl) h0 (fun k hk => hw k (mem_weightsEach (i := 0) rfl rfl hk))
    obtain ⟨n0, f0, z0, l0, s0, t0, rfl, bn0, bf0, hl0, hz0, bs0, bt0⟩ := fits_pair f0
    obtain ⟨s1, rfl⟩ := Int.eq_ofNat_of_zero_le bs0.1
    obtain ⟨t1, rfl⟩ := Int.eq_ofNat_of_zero_le bt0.1
    refine (meet_law (a := n0) (z := z0) (s := s1) (t := t1) (by omega) (by omega) bn0 bf0 rfl (Nat.lt_of_lt_of_le hl0 (by decide)) hz0).law W rfl (fun j h => ?_)
    match j, h with
    | 0, _ => exact e0

theorem over : Rows.buildMeetRow.holds Tryd.pinned (OpenSpec.ofChange Rows.buildMeetSpec) :=
  OpenClaim.holds_of_wide 10 Tryd.f10 rfl rfl rfl rfl rfl rfl rfl ⟨rfl, rfl, rfl, rfl, rfl⟩ rfl rfl rfl rfl rfl (by kernel_rfl) Tryd.func10 (by kernel_rfl)
    (of_decide_eq_true (by kernel_rfl)) (by unfold Func.isWrapper; first | (rw [if_pos (by decide +kernel)]; kernel_rfl) | (rw [if_neg (by decide +kernel)]; exact ⟨rfl, rfl⟩))
    (fun os started H enc _ => lifted os started H enc)
end LBuildMeet

theorem buildMeet_holds : Rows.BuildMeetCardSaid :=
  Claim7.holds_tied_plain_at .later [] [.data, .data, .data] true (true, "747109d29ee8930f0bedb217368bd18504995a7db134795a3b25723c9cab0eba") false
    LBuildMeet.over (fun _ h => by cases h) (by kernel_rfl) (fun _ h => by cases h) buildMeet_row_tie rfl ⟨rfl, rfl⟩ (by kernel_rfl) rfl
    (fun f fn hf hfn => by
      obtain rfl : f = 10 := Option.some.inj ((show Tryd.prog.funcNamed "sederunt/sederuntlaw12.BuildMeet" = some 10 by kernel_rfl).symm.trans hf) |>.symm
      obtain rfl : fn = Tryd.f10 := (Option.some.inj (Tryd.func10.symm.trans hfn)).symm
      exact ⟨by kernel_rfl, fun j t ht => by
        rw [Tryd.params10] at ht
        have hm : t ∈ [55] := by simpa using Array.mem_of_getElem? ht
        have hall : ([55].all fun u => !Tryd.prog.wantsStandIn u) = true := by kernel_rfl
        exact (show Tryd.prog.wantsStandIn t = false by simpa using List.all_eq_true.1 hall t hm)⟩)
    (by kernel_rfl)
#print axioms buildMeet_holds
end Go.Proofs.YtdeligopifoceaaDoor
