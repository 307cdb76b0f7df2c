/- What the arguments of chapter 22's laws are. No condition. -/
import Derived.Test.YtgnkcohlfdddnaaDoorArgA
import Derived.Test.YtgnkcohlfdddnaaDoorLawFA
set_option linter.unusedVariables false
set_option linter.unusedSectionVars false
set_option linter.unusedSimpArgs false
namespace Go.Proofs.YtgnkcohlfdddnaaDoor
open Go Go.Sy Go.Bp
structure NdA (n : Nd) : Prop where
  w : n.w.length < 2^47
  k : n.k.length < 2^47
  wz : n.wz = true → n.w = []
structure ExA (x : Ex) : Prop where
  sh : Short x
  fl : Flag x
theorem fits_sli {m : Nat} {av : List AV} (h : fitsT Tryd.prog m 61 av) : ∃ x : Sli, av = Cells.cells x ∧ x.a < 256 ∧ x.m < 256 := by
  obtain ⟨_, xs, rfl, hl, hx⟩ := fits_struct Tryd.underlying61 h
  match xs, hl with
  | [a0, a1, a2], _ =>
    obtain ⟨b0, rfl, h0⟩ := fits_int Tryd.underlying5 (hx 0 _ a0 rfl rfl)
    obtain ⟨b1, rfl, h1⟩ := fits_int Tryd.underlying5 (hx 1 _ a1 rfl rfl)
    obtain ⟨b2, rfl⟩ := fits_bool Tryd.underlying4 (hx 2 _ a2 rfl rfl)
    have h0 := byte_ok h0
    have h1 := byte_ok h1
    obtain ⟨n0, rfl⟩ := Int.eq_ofNat_of_zero_le h0.1
    obtain ⟨n1, rfl⟩ := Int.eq_ofNat_of_zero_le h1.1
    exact ⟨⟨n0, n1, b2⟩, rfl, by show n0 < 256; omega, by show n1 < 256; omega⟩
theorem fits_slis {m : Nat} {av : List AV} (h : fitsT Tryd.prog m 22 av) : ∃ (z : Bool) (l : List Sli), av = [.isl z (cR l) l.length] ∧ Slis l l.length := by
  obtain ⟨z, l, e, ho, hl, _⟩ := fits_list1 (g := fun (x : Sli) => Cells.cells x) (Q := fun x => x.a < 256 ∧ x.m < 256) (bn := 3) Tryd.underlying22 h (by kernel_rfl) (by decide) (fun n x hx => fits_sli hx)
  exact ⟨z, l, e, ⟨rfl, hl, fun i hi => ho _ (getD_mem (d := default) hi)⟩⟩
theorem set_U {a : Int} (h : 0 ≤ a ∧ a ≤ 65535) : ∃ s : Nat, a = U s := ⟨a.toNat, by unfold U; omega⟩
end Go.Proofs.YtgnkcohlfdddnaaDoor
