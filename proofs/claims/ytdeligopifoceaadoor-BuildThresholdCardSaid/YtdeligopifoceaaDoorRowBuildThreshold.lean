/-
  BuildThreshold returns true for every input, and changes nothing; the tied card of it. No condition.
-/
import Derived.Test.YtdeligopifoceaaDoorCards
import Derived.Test.YtdeligopifoceaaDoorBuildArgs
import Derived.Test.YtdeligopifoceaaDoorLawBA
import Derived.SevenTiedAt
set_option linter.unusedVariables false
set_option linter.unusedSectionVars false
set_option linter.unusedSimpArgs false
namespace Go.Proofs.YtdeligopifoceaaDoor
namespace LBuildThreshold
open Go.ChangeShapes Go.WideShapes Go.ChangeAt Go.RowKit Go.Sy

set_option maxRecDepth 100000 in
theorem lifted (os : Os) (started : os.Started) (H : Type) (enc : TypeId × Value → H) :
    ReturnsInHanded {} Tryd.checked os 3 .any (fun w args => (Rows.buildThresholdSpec.pre enc Tryd.prog Tryd.f3 [] false w args ∧ laidMetH Tryd.prog laidL w) ∧ sizedMet enc Tryd.prog Tryd.f3 (OpenSpec.ofChange Rows.buildThresholdSpec) false w args) (Rows.buildThresholdSpec.post enc Tryd.prog Tryd.f3 false true false false) := by
  refine law_liftL (C := Tryd.checked) (tb := 4) (X := fun w _ => laidMetH Tryd.prog laidL w) own started (by kernel_rfl) Tryd.func3
    (ChangeSpec.witness_shaped (enc := enc) (C := Tryd.checked) (os := os) (X := fun w _ => laidMetH Tryd.prog laidL w) false (World.doorLaid Tryd.prog 400 os) #[.int .i64 0, .slice none 0 0] 8 rfl (World.shaped_of_RefB (by kernel_rfl) (by kernel_rfl)) (by kernel_rfl) (by kernel_rfl) (by kernel_rfl) (door_met os _)) kids full (by kernel_rfl) rfl (by kernel_rfl) Tryd.underlying4 (fun ds hl => ?_) (fun W base args ds p hval hA hw => ?_)
  · rw [Tryd.params3] at hl
    match ds, hl with
    | [_, _], _ => rfl
  · rw [Tryd.params3] at hA hval hw
    obtain ⟨v0, vs0, d0, ds0, p0, q0, hargs, rfl, rfl, h0, r0⟩ := trodAll_cons hA
    obtain ⟨v1, vs1, d1, ds1, p1, q1, rfl, rfl, rfl, h1, r1⟩ := trodAll_cons r0
    obtain ⟨rfl, rfl, rfl⟩ := trodAll_nil r1
    obtain rfl : args = #[v0, v1] := by cases args; simp_all
    obtain ⟨a0, rfl, rfl, rfl, w0⟩ := open_int Tryd.underlying3 (hval 0 3 v0 rfl rfl) h0
    have b0 := i64_ok w0
    obtain ⟨x1, f1, e1⟩ := arg_rep kids full (m := 8) (t := 22) (of_decide_eq_true (by kernel_rfl)) (by kernel_rfl) (by kernel_rfl) (hval 1 22 v1 rfl rfl) h1 (fun k hk => hw k (mem_weightsEach (i := 1) rfl rfl hk))
    obtain ⟨z1, l1, g1, hl1, hz1⟩ := fits_ints f1
    obtain rfl := (List.cons.inj g1).1
    refine (thr_law (q := a0) (z := z1) rfl (Nat.lt_of_lt_of_le hl1 (by decide)) hz1).law W rfl (fun j h => ?_)
    match j, h with
    | 0, _ => exact .val _
    | 1, _ => exact e1

theorem over : Rows.buildThresholdRow.holds Tryd.pinned (OpenSpec.ofChange Rows.buildThresholdSpec) :=
  OpenClaim.holds_of_wide 3 Tryd.f3 rfl rfl rfl rfl rfl rfl rfl ⟨rfl, rfl, rfl, rfl, rfl⟩ rfl rfl rfl rfl rfl (by kernel_rfl) Tryd.func3 (by kernel_rfl)
    (of_decide_eq_true (by kernel_rfl)) (by unfold Func.isWrapper; first | (rw [if_pos (by decide +kernel)]; kernel_rfl) | (rw [if_neg (by decide +kernel)]; exact ⟨rfl, rfl⟩))
    (fun os started H enc _ => lifted os started H enc)
end LBuildThreshold

theorem buildThreshold_holds : Rows.BuildThresholdCardSaid :=
  Claim7.holds_tied_plain_at .later [] [.data, .data, .data] true (true, "747109d29ee8930f0bedb217368bd18504995a7db134795a3b25723c9cab0eba") false
    LBuildThreshold.over (fun _ h => by cases h) (by kernel_rfl) (fun _ h => by cases h) buildThreshold_row_tie rfl ⟨rfl, rfl⟩ (by kernel_rfl) rfl
    (fun f fn hf hfn => by
      obtain rfl : f = 3 := Option.some.inj ((show Tryd.prog.funcNamed "sederunt/sederuntlaw12.BuildThreshold" = some 3 by kernel_rfl).symm.trans hf) |>.symm
      obtain rfl : fn = Tryd.f3 := (Option.some.inj (Tryd.func3.symm.trans hfn)).symm
      exact ⟨by kernel_rfl, fun j t ht => by
        rw [Tryd.params3] at ht
        have hm : t ∈ [3, 22] := by simpa using Array.mem_of_getElem? ht
        have hall : ([3, 22].all fun u => !Tryd.prog.wantsStandIn u) = true := by kernel_rfl
        exact (show Tryd.prog.wantsStandIn t = false by simpa using List.all_eq_true.1 hall t hm)⟩)
    (by kernel_rfl)
#print axioms buildThreshold_holds
end Go.Proofs.YtdeligopifoceaaDoor
