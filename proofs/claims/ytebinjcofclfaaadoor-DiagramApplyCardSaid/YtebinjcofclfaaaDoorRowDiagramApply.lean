/-
  DiagramApply returns true for every input, and changes nothing; the tied card of it. No condition.
-/
import Derived.Test.YtebinjcofclfaaaDoorCards
import Derived.Test.YtebinjcofclfaaaDoorDiagArgs
import Derived.Test.YtebinjcofclfaaaDoorLawDH
import Derived.SevenTiedAt
set_option linter.unusedVariables false
set_option linter.unusedSectionVars false
set_option linter.unusedSimpArgs false
namespace Go.Proofs.YtebinjcofclfaaaDoor
namespace LDiagramApply
open Go.ChangeShapes Go.WideShapes Go.ChangeAt Go.RowKit Go.Sy

set_option maxRecDepth 100000 in
theorem lifted (os : Os) (started : os.Started) (H : Type) (enc : TypeId × Value → H) :
    ReturnsInHanded {} Tryd.checked os 8 .any (fun w args => (Rows.diagramApplySpec.pre enc Tryd.prog Tryd.f8 [] false w args ∧ laidMetH Tryd.prog laidL w) ∧ sizedMet enc Tryd.prog Tryd.f8 (OpenSpec.ofChange Rows.diagramApplySpec) false w args) (Rows.diagramApplySpec.post enc Tryd.prog Tryd.f8 false true false false) := by
  refine law_liftX (C := Tryd.checked) (tb := 4) (X := fun w _ => laidMetH Tryd.prog laidL w) own started (by kernel_rfl) Tryd.func8
    (ChangeSpec.witness_shaped (enc := enc) (C := Tryd.checked) (os := os) (X := fun w _ => laidMetH Tryd.prog laidL w) false (World.doorLaid Tryd.prog 400 os) #[.int .i64 0, .agg #[.int .u8 0, .slice none 0 0, .bool false], .agg #[.int .u8 0, .slice none 0 0, .bool false]] 8 rfl (World.shaped_of_RefB (by kernel_rfl) (by kernel_rfl)) (by kernel_rfl) (by kernel_rfl) (by kernel_rfl) (door_met os _)) kids full (by kernel_rfl) rfl (by kernel_rfl) Tryd.underlying4 (fun ds hl => ?_) (fun W base args ds p hX hval hA hw => ?_)
  · rw [Tryd.params8] at hl
    match ds, hl with
    | [_, _, _], _ => rfl
  · rw [Tryd.params8] at hA hval hw
    obtain ⟨v0, vs0, d0, ds0, p0, q0, hargs, rfl, rfl, h0, r0⟩ := trodAll_cons hA
    obtain ⟨v1, vs1, d1, ds1, p1, q1, rfl, rfl, rfl, h1, r1⟩ := trodAll_cons r0
    obtain ⟨v2, vs2, d2, ds2, p2, q2, rfl, rfl, rfl, h2, r2⟩ := trodAll_cons r1
    obtain ⟨rfl, rfl, rfl⟩ := trodAll_nil r2
    obtain rfl : args = #[v0, v1, v2] := by cases args; simp_all
    obtain ⟨a0, rfl, rfl, rfl, w0⟩ := open_int Tryd.underlying3 (hval 0 3 v0 rfl rfl) h0
    have b0 := i64_ok w0
    obtain ⟨x1, f1, e1⟩ := arg_repS kids full (m := 8) (t := 24) (of_decide_eq_true (by kernel_rfl)) (by kernel_rfl) Tryd.underlying24 (hval 1 24 v1 rfl rfl) h1 (fun k hk => hw k (mem_weightsEach (i := 1) rfl rfl hk))
    obtain ⟨n1, z1, l1, p1, rfl, hd1⟩ := fits_draft f1
    obtain ⟨x2, f2, e2⟩ := arg_repS kids full (m := 8) (t := 24) (of_decide_eq_true (by kernel_rfl)) (by kernel_rfl) Tryd.underlying24 (hval 2 24 v2 rfl rfl) h2 (fun k hk => hw k (mem_weightsEach (i := 2) rfl rfl hk))
    obtain ⟨n2, z2, l2, p2, rfl, hd2⟩ := fits_draft f2
    refine (lawApply (o := a0) (z := z1) (up := p1) (z' := z2) (up' := p2) hd1 hd2).law W rfl (fun j h => ?_) (laid_of hX)
    match j, h with
    | 0, _ => exact .val _
    | 1, _ => exact e1
    | 2, _ => exact e2

theorem over : Rows.diagramApplyRow.holds Tryd.pinned (OpenSpec.ofChange Rows.diagramApplySpec) :=
  OpenClaim.holds_of_wide 8 Tryd.f8 rfl rfl rfl rfl rfl rfl rfl ⟨rfl, rfl, rfl, rfl, rfl⟩ rfl rfl rfl rfl rfl (by kernel_rfl) Tryd.func8 (by kernel_rfl)
    (of_decide_eq_true (by kernel_rfl)) (by unfold Func.isWrapper; first | (rw [if_pos (by decide +kernel)]; kernel_rfl) | (rw [if_neg (by decide +kernel)]; exact ⟨rfl, rfl⟩))
    (fun os started H enc _ => lifted os started H enc)
end LDiagramApply

theorem diagramApply_holds : Rows.DiagramApplyCardSaid :=
  Claim7.holds_tied_plain_at .later [] [.data] true (true, "20c557b193d76df3262baedf8dd7fffd90adfecbd6dbf559f88ec6759bbf1a48") false
    LDiagramApply.over (fun _ h => by cases h) (by kernel_rfl) (fun _ h => by cases h) diagramApply_row_tie rfl ⟨rfl, rfl⟩ (by kernel_rfl) rfl
    (fun f fn hf hfn => by
      obtain rfl : f = 8 := Option.some.inj ((show Tryd.prog.funcNamed "sederunt/sederuntlaw11.DiagramApply" = some 8 by kernel_rfl).symm.trans hf) |>.symm
      obtain rfl : fn = Tryd.f8 := (Option.some.inj (Tryd.func8.symm.trans hfn)).symm
      exact ⟨by kernel_rfl, fun j t ht => by
        rw [Tryd.params8] at ht
        have hm : t ∈ [3, 24, 24] := by simpa using Array.mem_of_getElem? ht
        have hall : ([3, 24, 24].all fun u => !Tryd.prog.wantsStandIn u) = true := by kernel_rfl
        exact (show Tryd.prog.wantsStandIn t = false by simpa using List.all_eq_true.1 hall t hm)⟩)
    (by kernel_rfl)
#print axioms diagramApply_holds
end Go.Proofs.YtebinjcofclfaaaDoor
