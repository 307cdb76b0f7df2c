/- Any diagram, as an argument. No condition. -/
import Derived.Test.YtebinjcofclfaaaDoorDiagArgs
set_option linter.unusedVariables false
set_option linter.unusedSectionVars false
set_option linter.unusedSimpArgs false
namespace Go.Proofs.YtebinjcofclfaaaDoor
open Go Go.Sy Go.Bp Go.Dg
theorem fits_fork {m : Nat} {av : List AV} (h : fitsT Tryd.prog m 76 av) : ∃ x : Fk, av = Cells.cells x ∧ True := by
  obtain ⟨_, xs, rfl, hl, hx⟩ := fits_struct Tryd.underlying76 h
  match xs, hl with
  | [a0, a1, a2], _ =>
    obtain ⟨b0, rfl, _⟩ := fits_int Tryd.underlying3 (hx 0 _ a0 rfl rfl)
    obtain ⟨b1, rfl, _⟩ := fits_int Tryd.underlying3 (hx 1 _ a1 rfl rfl)
    obtain ⟨b2, rfl, _⟩ := fits_int Tryd.underlying3 (hx 2 _ a2 rfl rfl)
    exact ⟨⟨b0, b1, b2⟩, rfl, trivial⟩
theorem fits_forks {m : Nat} {av : List AV} (h : fitsT Tryd.prog m 26 av) : ∃ (z : Bool) (l : List Fk), av = [.isl z (cR l) l.length] ∧ l.length < 2^44 := by
  obtain ⟨n, rfl | ⟨xs, rfl, h1, h2⟩⟩ := fits_slice Tryd.underlying26 h
  · exact ⟨true, [], rfl, by decide⟩
  · obtain ⟨l, k1, k2⟩ := list_of (R := fun x a => x = Cells.cells a ∧ True) xs (fun x hx' => fits_fork (h1 x hx').2)
    refine ⟨false, l, ?_, ?_⟩
    · rw [flat_of (g := Cells.cells) xs l k1 (fun i x a hx ha => (k2 i x a hx ha).1), k1]; rfl
    · have e : Tryd.prog.bytesOf 76 = 24 := by kernel_rfl
      rw [e] at h2
      rw [k1]; unfold reachBytes at h2; omega
theorem fits_diagram {m : Nat} {av : List AV} (h : fitsT Tryd.prog m 28 av) : ∃ (n : Int) (z : Bool) (l : List Fk) (r : Int), av = [.val (.int .i64 n), .isl z (cR l) l.length, .val (.int .i64 r)] ∧ l.length < 2^44 ∧ r < 2 ^ 63 := by
  obtain ⟨_, xs, rfl, hl, hx⟩ := fits_struct Tryd.underlying28 h
  match xs, hl with
  | [a0, a1, a2], _ =>
    obtain ⟨b0, rfl, _⟩ := fits_int Tryd.underlying3 (hx 0 _ a0 rfl rfl)
    obtain ⟨z, l, rfl, hl⟩ := fits_forks (hx 1 _ a1 rfl rfl)
    obtain ⟨b2, rfl, h2⟩ := fits_int Tryd.underlying3 (hx 2 _ a2 rfl rfl)
    have h2 := i64_ok h2
    exact ⟨b0, z, l, b2, rfl, hl, by omega⟩
end Go.Proofs.YtebinjcofclfaaaDoor
