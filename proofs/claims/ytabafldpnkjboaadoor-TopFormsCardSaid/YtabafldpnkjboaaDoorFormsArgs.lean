/- What the argument of TopForms is. No condition. -/
import Derived.Test.YtabafldpnkjboaaDoorArgA
import Derived.Test.YtabafldpnkjboaaDoorTm12
set_option linter.unusedVariables false
set_option linter.unusedSectionVars false
set_option linter.unusedSimpArgs false
namespace Go.Proofs.YtabafldpnkjboaaDoor
open Go Go.Sy Go.Bp Go.Dg
theorem fits_u16s {m : Nat} {av : List AV} (h : fitsT Tryd.prog m 22 av) : ∃ (z : Bool) (l : List Nat), av = [.isl z (cX l) l.length] ∧ (∀ x ∈ l, x < 65536) ∧ l.length < 2^47 := by
  obtain ⟨z, l, e, ho, hl, hz⟩ := fits_list1 (g := fun (x : Nat) => [AV.val (.int .u16 (U x))]) (Q := fun x => x < 65536) (bn := 2) Tryd.underlying22 h (by kernel_rfl) (by decide) (fun n x hx => by
    obtain ⟨k, rfl, hk⟩ := fits_int Tryd.underlying48 hx
    have hk := u16_ok hk
    obtain ⟨n0, rfl⟩ := Int.eq_ofNat_of_zero_le hk.1
    exact ⟨n0, by rw [U_of (by omega)], by omega⟩)
  rw [show l.flatMap (fun (x : Nat) => [AV.val (.int .u16 (U x))]) = cX l from flatMap_one _ l] at e
  exact ⟨z, l, e, ho, hl⟩
theorem fits_draft8 {m : Nat} {av : List AV} (h : fitsT Tryd.prog m 24 av) : ∃ (N : Nat) (z : Bool) (B : List Nat), av = d8 N z B B.length ∧ D8Ok N B B.length := by
  obtain ⟨_, xs, rfl, hl, hx⟩ := fits_struct Tryd.underlying24 h
  match xs, hl with
  | [a0, a1], _ =>
    obtain ⟨b0, rfl, h0⟩ := fits_int Tryd.underlying5 (hx 0 _ a0 rfl rfl)
    obtain ⟨z, l, rfl, ho, hl⟩ := fits_u16s (hx 1 _ a1 rfl rfl)
    have h0 := byte_ok h0
    obtain ⟨n0, rfl⟩ := Int.eq_ofNat_of_zero_le h0.1
    exact ⟨n0, z, l, rfl, ⟨by omega, rfl, hl⟩⟩
end Go.Proofs.YtabafldpnkjboaaDoor
