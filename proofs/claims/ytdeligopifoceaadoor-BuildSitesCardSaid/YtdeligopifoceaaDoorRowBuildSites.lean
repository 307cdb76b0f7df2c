/-
  BuildSites returns true for every input, and changes nothing; the tied card of it. No condition.
-/
import Derived.Test.YtdeligopifoceaaDoorCards
import Derived.Test.YtdeligopifoceaaDoorBuildArgs
import Derived.Test.YtdeligopifoceaaDoorLawBE
import Derived.SevenTiedAt
set_option linter.unusedVariables false
set_option linter.unusedSectionVars false
set_option linter.unusedSimpArgs false
namespace Go.Proofs.YtdeligopifoceaaDoor
namespace LBuildSites
open Go.ChangeShapes Go.WideShapes Go.ChangeAt Go.RowKit Go.Sy

set_option maxRecDepth 100000 in
theorem lifted (os : Os) (started : os.Started) (H : Type) (enc : TypeId × Value → H) :
    ReturnsInHanded {} Tryd.checked os 12 .any (fun w args => (Rows.buildSitesSpec.pre enc Tryd.prog Tryd.f12 [] false w args ∧ laidMetH Tryd.prog laidL w) ∧ sizedMet enc Tryd.prog Tryd.f12 (OpenSpec.ofChange Rows.buildSitesSpec) false w args) (Rows.buildSitesSpec.post enc Tryd.prog Tryd.f12 false true false false) := by
  refine law_liftL (C := Tryd.checked) (tb := 4) (X := fun w _ => laidMetH Tryd.prog laidL w) own started (by kernel_rfl) Tryd.func12
    (ChangeSpec.witness_shaped (enc := enc) (C := Tryd.checked) (os := os) (X := fun w _ => laidMetH Tryd.prog laidL w) false (World.doorLaid Tryd.prog 400 os) #[.int .i64 0, .int .i64 0, .slice none 0 0] 8 rfl (World.shaped_of_RefB (by kernel_rfl) (by kernel_rfl)) (by kernel_rfl) (by kernel_rfl) (by kernel_rfl) (door_met os _)) kids full (by kernel_rfl) rfl (by kernel_rfl) Tryd.underlying4 (fun ds hl => ?_) (fun W base args ds p hval hA hw => ?_)
  · rw [Tryd.params12] at hl
    match ds, hl with
    | [_, _, _], _ => rfl
  · rw [Tryd.params12] at hA hval hw
    obtain ⟨v0, vs0, d0, ds0, p0, q0, hargs, rfl, rfl, h0, r0⟩ := trodAll_cons hA
    obtain ⟨v1, vs1, d1, ds1, p1, q1, rfl, rfl, rfl, h1, r1⟩ := trodAll_cons r0
    obtain ⟨v2, vs2, d2, ds2, p2, q2, rfl, rfl, rfl, h2, r2⟩ := trodAll_cons r1
    obtain ⟨rfl, rfl, rfl⟩ := trodAll_nil r2
    obtain rfl : args = #[v0, v1, v2] := by cases args; simp_all
    obtain ⟨a0, rfl, rfl, rfl, w0⟩ := open_int Tryd.underlying3 (hval 0 3 v0 rfl rfl) h0
    have b0 := i64_ok w0
    obtain ⟨a1, rfl, rfl, rfl, w1⟩ := open_int Tryd.underlying3 (hval 1 3 v1 rfl rfl) h1
    have b1 := i64_ok w1
    obtain ⟨x2, f2, e2⟩ := arg_rep kids full (m := 8) (t := 59) (of_decide_eq_true (by kernel_rfl)) (by kernel_rfl) (by kernel_rfl) (hval 2 59 v2 rfl rfl) h2 (fun k hk => hw k (mem_weightsEach (i := 2) rfl rfl hk))
    obtain ⟨z2, l2, g2, hl2, hs2⟩ := fits_intss f2
    obtain rfl := (List.cons.inj g2).1
    refine (sites_law (a := a0) (q := a1) (z := z2) rfl (Nat.lt_of_lt_of_le hl2 (by decide)) hs2).law W rfl (fun j h => ?_)
    match j, h with
    | 0, _ => exact .val _
    | 1, _ => exact .val _
    | 2, _ => exact e2

theorem over : Rows.buildSitesRow.holds Tryd.pinned (OpenSpec.ofChange Rows.buildSitesSpec) :=
  OpenClaim.holds_of_wide 12 Tryd.f12 rfl rfl rfl rfl rfl rfl rfl ⟨rfl, rfl, rfl, rfl, rfl⟩ rfl rfl rfl rfl rfl (by kernel_rfl) Tryd.func12 (by kernel_rfl)
    (of_decide_eq_true (by kernel_rfl)) (by unfold Func.isWrapper; first | (rw [if_pos (by decide +kernel)]; kernel_rfl) | (rw [if_neg (by decide +kernel)]; exact ⟨rfl, rfl⟩))
    (fun os started H enc _ => lifted os started H enc)
end LBuildSites

theorem buildSites_holds : Rows.BuildSitesCardSaid :=
  Claim7.holds_tied_plain_at .later [] [.data, .data, .data] true (true, "747109d29ee8930f0bedb217368bd18504995a7db134795a3b25723c9cab0eba") false
    LBuildSites.over (fun _ h => by cases h) (by kernel_rfl) (fun _ h => by cases h) buildSites_row_tie rfl ⟨rfl, rfl⟩ (by kernel_rfl) rfl
    (fun f fn hf hfn => by
      obtain rfl : f = 12 := Option.some.inj ((show Tryd.prog.funcNamed "sederunt/sederuntlaw12.BuildSites" = some 12 by kernel_rfl).symm.trans hf) |>.symm
      obtain rfl : fn = Tryd.f12 := (Option.some.inj (Tryd.func12.symm.trans hfn)).symm
      exact ⟨by kernel_rfl, fun j t ht => by
        rw [Tryd.params12] at ht
        have hm : t ∈ [3, 3, 59] := by simpa using Array.mem_of_getElem? ht
        have hall : ([3, 3, 59].all fun u => !Tryd.prog.wantsStandIn u) = true := by kernel_rfl
        exact (show Tryd.prog.wantsStandIn t = false by simpa using List.all_eq_true.1 hall t hm)⟩)
    (by kernel_rfl)
#print axioms buildSites_holds
end Go.Proofs.YtdeligopifoceaaDoor
