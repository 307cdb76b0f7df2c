/- What the arguments of chapter 11's laws are. No condition. -/
import Derived.Test.YtebinjcofclfaaaDoorArgA
import Derived.Test.YtebinjcofclfaaaDoorDi21
set_option linter.unusedVariables false
set_option linter.unusedSectionVars false
set_option linter.unusedSimpArgs false
namespace Go.Proofs.YtebinjcofclfaaaDoor
open Go Go.Sy Go.Bp Go.Dg
theorem fits_u8s {m : Nat} {av : List AV} (h : fitsT Tryd.prog m 22 av) : ∃ (z : Bool) (l : List Nat), av = [.isl z (cI .u8 (NI l)) l.length] ∧ (∀ x ∈ l, x < 256) ∧ l.length < 2^47 := by
  obtain ⟨z, l, e, ho, hl, _⟩ := fits_list1 (g := fun (x : Nat) => [AV.val (.int .u8 (x : Int))]) (Q := fun x => x < 256) (bn := 1) Tryd.underlying22 h (by kernel_rfl) (by decide) (fun n x hx => by
    obtain ⟨k, rfl, hk⟩ := fits_int Tryd.underlying5 hx
    have hk := byte_ok hk
    obtain ⟨n0, rfl⟩ := Int.eq_ofNat_of_zero_le hk.1
    exact ⟨n0, rfl, by omega⟩)
  rw [show l.flatMap (fun (x : Nat) => [AV.val (.int .u8 (x : Int))]) = cI .u8 (NI l) from (flatMap_one _ l).trans (by unfold cI NI; rw [List.map_map]; rfl)] at e
  exact ⟨z, l, e, ho, hl⟩
theorem fits_draft {m : Nat} {av : List AV} (h : fitsT Tryd.prog m 24 av) : ∃ (N : Nat) (z : Bool) (B : List Nat) (up : Bool), av = drC N z B B.length up ∧ DrOk N B B.length := by
  obtain ⟨_, xs, rfl, hl, hx⟩ := fits_struct Tryd.underlying24 h
  match xs, hl with
  | [a0, a1, a2], _ =>
    obtain ⟨b0, rfl, h0⟩ := fits_int Tryd.underlying5 (hx 0 _ a0 rfl rfl)
    obtain ⟨z, l, rfl, ho, hl⟩ := fits_u8s (hx 1 _ a1 rfl rfl)
    obtain ⟨b2, rfl⟩ := fits_bool Tryd.underlying4 (hx 2 _ a2 rfl rfl)
    have h0 := byte_ok h0
    obtain ⟨n0, rfl⟩ := Int.eq_ofNat_of_zero_le h0.1
    refine ⟨n0, z, l, b2, rfl, ⟨by omega, rfl, hl, fun i => ?_⟩⟩
    by_cases hi : i < l.length
    · rw [List.getD_eq_getElem?_getD, List.getElem?_eq_getElem hi]; exact ho _ (List.getElem_mem hi)
    · rw [List.getD_eq_getElem?_getD, List.getElem?_eq_none (by omega)]; decide
end Go.Proofs.YtebinjcofclfaaaDoor
