/-
  DiagramDeMorgan returns true for every input, and changes nothing; the tied card of it. No condition.
-/
import Derived.Test.YtebinjcofclfaaaDoorCards
import Derived.Test.YtebinjcofclfaaaDoorDiagArgs
import Derived.Test.YtebinjcofclfaaaDoorLawDF
import Derived.SevenTiedAt
set_option linter.unusedVariables false
set_option linter.unusedSectionVars false
set_option linter.unusedSimpArgs false
namespace Go.Proofs.YtebinjcofclfaaaDoor
namespace LDiagramDeMorgan
open Go.ChangeShapes Go.WideShapes Go.ChangeAt Go.RowKit Go.Sy

set_option maxRecDepth 100000 in
theorem lifted (os : Os) (started : os.Started) (H : Type) (enc : TypeId × Value → H) :
    ReturnsInHanded {} Tryd.checked os 9 .any (fun w args => (Rows.diagramDeMorganSpec.pre enc Tryd.prog Tryd.f9 [] false w args ∧ laidMetH Tryd.prog laidL w) ∧ sizedMet enc Tryd.prog Tryd.f9 (OpenSpec.ofChange Rows.diagramDeMorganSpec) false w args) (Rows.diagramDeMorganSpec.post enc Tryd.prog Tryd.f9 false true false false) := by
  refine law_liftX (C := Tryd.checked) (tb := 4) (X := fun w _ => laidMetH Tryd.prog laidL w) own started (by kernel_rfl) Tryd.func9
    (ChangeSpec.witness_shaped (enc := enc) (C := Tryd.checked) (os := os) (X := fun w _ => laidMetH Tryd.prog laidL w) false (World.doorLaid Tryd.prog 400 os) #[.agg #[.int .u8 0, .slice none 0 0, .bool false], .agg #[.int .u8 0, .slice none 0 0, .bool false]] 8 rfl (World.shaped_of_RefB (by kernel_rfl) (by kernel_rfl)) (by kernel_rfl) (by kernel_rfl) (by kernel_rfl) (door_met os _)) kids full (by kernel_rfl) rfl (by kernel_rfl) Tryd.underlying4 (fun ds hl => ?_) (fun W base args ds p hX hval hA hw => ?_)
  · rw [Tryd.params9] at hl
    match ds, hl with
    | [_, _], _ => rfl
  · rw [Tryd.params9] at hA hval hw
    obtain ⟨v0, vs0, d0, ds0, p0, q0, hargs, rfl, rfl, h0, r0⟩ := trodAll_cons hA
    obtain ⟨v1, vs1, d1, ds1, p1, q1, rfl, rfl, rfl, h1, r1⟩ := trodAll_cons r0
    obtain ⟨rfl, rfl, rfl⟩ := trodAll_nil r1
    obtain rfl : args = #[v0, v1] := by cases args; simp_all
    obtain ⟨x0, f0, e0⟩ := arg_repS kids full (m := 8) (t := 24) (of_decide_eq_true (by kernel_rfl)) (by kernel_rfl) Tryd.underlying24 (hval 0 24 v0 rfl rfl) h0 (fun k hk => hw k (mem_weightsEach (i := 0) rfl rfl hk))
    obtain ⟨n0, z0, l0, p0, rfl, hd0⟩ := fits_draft f0
    obtain ⟨x1, f1, e1⟩ := arg_repS kids full (m := 8) (t := 24) (of_decide_eq_true (by kernel_rfl)) (by kernel_rfl) Tryd.underlying24 (hval 1 24 v1 rfl rfl) h1 (fun k hk => hw k (mem_weightsEach (i := 1) rfl rfl hk))
    obtain ⟨n1, z1, l1, p1, rfl, hd1⟩ := fits_draft f1
    refine (lawDem (z := z0) (up := p0) (z' := z1) (up' := p1) hd0 hd1).law W rfl (fun j h => ?_) (laid_of hX)
    match j, h with
    | 0, _ => exact e0
    | 1, _ => exact e1

theorem over : Rows.diagramDeMorganRow.holds Tryd.pinned (OpenSpec.ofChange Rows.diagramDeMorganSpec) :=
  OpenClaim.holds_of_wide 9 Tryd.f9 rfl rfl rfl rfl rfl rfl rfl ⟨rfl, rfl, rfl, rfl, rfl⟩ rfl rfl rfl rfl rfl (by kernel_rfl) Tryd.func9 (by kernel_rfl)
    (of_decide_eq_true (by kernel_rfl)) (by unfold Func.isWrapper; first | (rw [if_pos (by decide +kernel)]; kernel_rfl) | (rw [if_neg (by decide +kernel)]; exact ⟨rfl, rfl⟩))
    (fun os started H enc _ => lifted os started H enc)
end LDiagramDeMorgan

theorem diagramDeMorgan_holds : Rows.DiagramDeMorganCardSaid :=
  Claim7.holds_tied_plain_at .later [] [.data] true (true, "20c557b193d76df3262baedf8dd7fffd90adfecbd6dbf559f88ec6759bbf1a48") false
    LDiagramDeMorgan.over (fun _ h => by cases h) (by kernel_rfl) (fun _ h => by cases h) diagramDeMorgan_row_tie rfl ⟨rfl, rfl⟩ (by kernel_rfl) rfl
    (fun f fn hf hfn => by
      obtain rfl : f = 9 := Option.some.inj ((show Tryd.prog.funcNamed "sederunt/sederuntlaw11.DiagramDeMorgan" = some 9 by kernel_rfl).symm.trans hf) |>.symm
      obtain rfl : fn = Tryd.f9 := (Option.some.inj (Tryd.func9.symm.trans hfn)).symm
      exact ⟨by kernel_rfl, fun j t ht => by
        rw [Tryd.params9] at ht
        have hm : t ∈ [24, 24] := by simpa using Array.mem_of_getElem? ht
        have hall : ([24, 24].all fun u => !Tryd.prog.wantsStandIn u) = true := by kernel_rfl
        exact (show Tryd.prog.wantsStandIn t = false by simpa using List.all_eq_true.1 hall t hm)⟩)
    (by kernel_rfl)
#print axioms diagramDeMorgan_holds
end Go.Proofs.YtebinjcofclfaaaDoor
