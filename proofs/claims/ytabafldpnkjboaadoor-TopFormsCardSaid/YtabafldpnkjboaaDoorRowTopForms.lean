/-
  TopForms returns true for every input, and changes nothing; the tied card of it. No condition.
-/
import Derived.Test.YtabafldpnkjboaaDoorCards
import Derived.Test.YtabafldpnkjboaaDoorFormsArgs
import Derived.Test.YtabafldpnkjboaaDoorTm12
import Derived.SevenTiedAt
set_option linter.unusedVariables false
set_option linter.unusedSectionVars false
set_option linter.unusedSimpArgs false
namespace Go.Proofs.YtabafldpnkjboaaDoor
namespace LTopForms
open Go.ChangeShapes Go.WideShapes Go.ChangeAt Go.RowKit Go.Sy

set_option maxRecDepth 100000 in
theorem lifted (os : Os) (started : os.Started) (H : Type) (enc : TypeId × Value → H) :
    ReturnsInHanded {} Tryd.checked os 3 .any (fun w args => (Rows.topFormsSpec.pre enc Tryd.prog Tryd.f3 [] false w args ∧ laidMetH Tryd.prog laidL w) ∧ sizedMet enc Tryd.prog Tryd.f3 (OpenSpec.ofChange Rows.topFormsSpec) false w args) (Rows.topFormsSpec.post enc Tryd.prog Tryd.f3 false true false false) := by
  refine law_liftX (C := Tryd.checked) (tb := 4) (X := fun w _ => laidMetH Tryd.prog laidL w) own started (by kernel_rfl) Tryd.func3
    (ChangeSpec.witness_shaped (enc := enc) (C := Tryd.checked) (os := os) (X := fun w _ => laidMetH Tryd.prog laidL w) false (World.doorLaid Tryd.prog 400 os) #[.agg #[.int .u8 0, .slice none 0 0]] 8 rfl (World.shaped_of_RefB (by kernel_rfl) (by kernel_rfl)) (by kernel_rfl) (by kernel_rfl) (by kernel_rfl) (door_met os _)) kids full (by kernel_rfl) rfl (by kernel_rfl) Tryd.underlying4 (fun ds hl => ?_) (fun W base args ds p hX hval hA hw => ?_)
  · rw [Tryd.params3] at hl
    match ds, hl with
    | [_], _ => rfl
  · rw [Tryd.params3] at hA hval hw
    obtain ⟨v0, vs0, d0, ds0, p0, q0, hargs, rfl, rfl, h0, r0⟩ := trodAll_cons hA
    obtain ⟨rfl, rfl, rfl⟩ := trodAll_nil r0
    obtain rfl : args = #[v0] := by cases args; simp_all
    obtain ⟨x0, f0, e0⟩ := arg_repS kids full (m := 8) (t := 24) (of_decide_eq_true (by kernel_rfl)) (by kernel_rfl) Tryd.underlying24 (hval 0 24 v0 rfl rfl) h0 (fun k hk => hw k (mem_weightsEach (i := 0) rfl rfl hk))
    obtain ⟨n0, z0, l0, rfl, hd0⟩ := fits_draft8 f0
    refine (lawForms (z := z0) hd0).law W rfl (fun j h => ?_) (laid_of hX)
    match j, h with
    | 0, _ => exact e0

theorem over : Rows.topFormsRow.holds Tryd.pinned (OpenSpec.ofChange Rows.topFormsSpec) :=
  OpenClaim.holds_of_wide 3 Tryd.f3 rfl rfl rfl rfl rfl rfl rfl ⟨rfl, rfl, rfl, rfl, rfl⟩ rfl rfl rfl rfl rfl (by kernel_rfl) Tryd.func3 (by kernel_rfl)
    (of_decide_eq_true (by kernel_rfl)) (by unfold Func.isWrapper; first | (rw [if_pos (by decide +kernel)]; kernel_rfl) | (rw [if_neg (by decide +kernel)]; exact ⟨rfl, rfl⟩))
    (fun os started H enc _ => lifted os started H enc)
end LTopForms

theorem topForms_holds : Rows.TopFormsCardSaid :=
  Claim7.holds_tied_plain_at .later [] [.data] true (true, "1268fbd1873aa8ef96c105ff97efa33c23a8abf50c6152a1b584871a37c268f8") false
    LTopForms.over (fun _ h => by cases h) (by kernel_rfl) (fun _ h => by cases h) topForms_row_tie rfl ⟨rfl, rfl⟩ (by kernel_rfl) rfl
    (fun f fn hf hfn => by
      obtain rfl : f = 3 := Option.some.inj ((show Tryd.prog.funcNamed "sederunt/sederunttop.TopForms" = some 3 by kernel_rfl).symm.trans hf) |>.symm
      obtain rfl : fn = Tryd.f3 := (Option.some.inj (Tryd.func3.symm.trans hfn)).symm
      exact ⟨by kernel_rfl, fun j t ht => by
        rw [Tryd.params3] at ht
        have hm : t ∈ [24] := by simpa using Array.mem_of_getElem? ht
        have hall : ([24].all fun u => !Tryd.prog.wantsStandIn u) = true := by kernel_rfl
        exact (show Tryd.prog.wantsStandIn t = false by simpa using List.all_eq_true.1 hall t hm)⟩)
    (by kernel_rfl)
#print axioms topForms_holds
end Go.Proofs.YtabafldpnkjboaaDoor
