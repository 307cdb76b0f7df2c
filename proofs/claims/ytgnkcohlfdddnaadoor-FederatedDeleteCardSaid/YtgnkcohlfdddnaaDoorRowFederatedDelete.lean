/-
  FederatedDelete returns true for every input, and changes nothing; the tied card of it. No condition.
-/
import Derived.Test.YtgnkcohlfdddnaaDoorCards
import Derived.Test.YtgnkcohlfdddnaaDoorFedArgs
import Derived.Test.YtgnkcohlfdddnaaDoorLawFD
import Derived.SevenTiedAt
set_option linter.unusedVariables false
set_option linter.unusedSectionVars false
set_option linter.unusedSimpArgs false
namespace Go.Proofs.YtgnkcohlfdddnaaDoor
namespace LFederatedDelete
open Go.ChangeShapes Go.WideShapes Go.ChangeAt Go.RowKit Go.Sy

set_option maxRecDepth 100000 in
theorem lifted (os : Os) (started : os.Started) (H : Type) (enc : TypeId × Value → H) :
    ReturnsInHanded {} Tryd.checked os 7 .any (fun w args => (Rows.federatedDeleteSpec.pre enc Tryd.prog Tryd.f7 [] false w args ∧ laidMetH Tryd.prog laidL w) ∧ sizedMet enc Tryd.prog Tryd.f7 (OpenSpec.ofChange Rows.federatedDeleteSpec) false w args) (Rows.federatedDeleteSpec.post enc Tryd.prog Tryd.f7 false true false false) := by
  refine law_liftX (C := Tryd.checked) (tb := 4) (X := fun w _ => laidMetH Tryd.prog laidL w) own started (by kernel_rfl) Tryd.func7
    (ChangeSpec.witness_shaped (enc := enc) (C := Tryd.checked) (os := os) (X := fun w _ => laidMetH Tryd.prog laidL w) false (World.doorLaid Tryd.prog 400 os) #[.slice none 0 0, .int .u16 0, .int .u16 0] 8 rfl (World.shaped_of_RefB (by kernel_rfl) (by kernel_rfl)) (by kernel_rfl) (by kernel_rfl) (by kernel_rfl) (door_met os _)) kids full (by kernel_rfl) rfl (by kernel_rfl) Tryd.underlying4 (fun ds hl => ?_) (fun W base args ds p hX hval hA hw => ?_)
  · rw [Tryd.params7] at hl
    match ds, hl with
    | [_, _, _], _ => rfl
  · rw [Tryd.params7] at hA hval hw
    obtain ⟨v0, vs0, d0, ds0, p0, q0, hargs, rfl, rfl, h0, r0⟩ := trodAll_cons hA
    obtain ⟨v1, vs1, d1, ds1, p1, q1, rfl, rfl, rfl, h1, r1⟩ := trodAll_cons r0
    obtain ⟨v2, vs2, d2, ds2, p2, q2, rfl, rfl, rfl, h2, r2⟩ := trodAll_cons r1
    obtain ⟨rfl, rfl, rfl⟩ := trodAll_nil r2
    obtain rfl : args = #[v0, v1, v2] := by cases args; simp_all
    obtain ⟨x0, f0, e0⟩ := arg_rep kids full (m := 8) (t := 22) (of_decide_eq_true (by kernel_rfl)) (by kernel_rfl) (by kernel_rfl) (hval 0 22 v0 rfl rfl) h0 (fun k hk => hw k (mem_weightsEach (i := 0) rfl rfl hk))
    obtain ⟨z0, l0, g0, hl0⟩ := fits_slis f0
    obtain rfl := (List.cons.inj g0).1
    obtain ⟨a1, rfl, rfl, rfl, w1⟩ := open_int Tryd.underlying33 (hval 1 33 v1 rfl rfl) h1
    have b1 := u16_ok w1
    obtain ⟨a2, rfl, rfl, rfl, w2⟩ := open_int Tryd.underlying33 (hval 2 33 v2 rfl rfl) h2
    have b2 := u16_ok w2
    obtain ⟨s1, rfl⟩ := set_U b1
    obtain ⟨s2, rfl⟩ := set_U b2
    refine (law7 (z := z0) (s := s1) (q := s2) hl0).law W rfl (fun j h => ?_) (laid_of hX)
    match j, h with
    | 0, _ => exact e0
    | 1, _ => exact .val _
    | 2, _ => exact .val _

theorem over : Rows.federatedDeleteRow.holds Tryd.pinned (OpenSpec.ofChange Rows.federatedDeleteSpec) :=
  OpenClaim.holds_of_wide 7 Tryd.f7 rfl rfl rfl rfl rfl rfl rfl ⟨rfl, rfl, rfl, rfl, rfl⟩ rfl rfl rfl rfl rfl (by kernel_rfl) Tryd.func7 (by kernel_rfl)
    (of_decide_eq_true (by kernel_rfl)) (by unfold Func.isWrapper; first | (rw [if_pos (by decide +kernel)]; kernel_rfl) | (rw [if_neg (by decide +kernel)]; exact ⟨rfl, rfl⟩))
    (fun os started H enc _ => lifted os started H enc)
end LFederatedDelete

theorem federatedDelete_holds : Rows.FederatedDeleteCardSaid :=
  Claim7.holds_tied_plain_at .later [] [.data] true (true, "72c45158361ff96b5167eb7c94b88df92374a2296a1e1da183cd11739b884aaf") false
    LFederatedDelete.over (fun _ h => by cases h) (by kernel_rfl) (fun _ h => by cases h) federatedDelete_row_tie rfl ⟨rfl, rfl⟩ (by kernel_rfl) rfl
    (fun f fn hf hfn => by
      obtain rfl : f = 7 := Option.some.inj ((show Tryd.prog.funcNamed "sederunt/sederuntlaw22.FederatedDelete" = some 7 by kernel_rfl).symm.trans hf) |>.symm
      obtain rfl : fn = Tryd.f7 := (Option.some.inj (Tryd.func7.symm.trans hfn)).symm
      exact ⟨by kernel_rfl, fun j t ht => by
        rw [Tryd.params7] at ht
        have hm : t ∈ [22, 33, 33] := by simpa using Array.mem_of_getElem? ht
        have hall : ([22, 33, 33].all fun u => !Tryd.prog.wantsStandIn u) = true := by kernel_rfl
        exact (show Tryd.prog.wantsStandIn t = false by simpa using List.all_eq_true.1 hall t hm)⟩)
    (by kernel_rfl)
#print axioms federatedDelete_holds
end Go.Proofs.YtgnkcohlfdddnaaDoor
