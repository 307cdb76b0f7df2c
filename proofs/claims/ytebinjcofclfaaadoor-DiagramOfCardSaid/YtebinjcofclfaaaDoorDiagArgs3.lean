/- Expressions, as arguments of chapter 11's law of Of. No condition. -/
import Derived.Test.YtebinjcofclfaaaDoorDiagArgs
import Derived.Test.YtebinjcofclfaaaDoorLawDJ
set_option linter.unusedVariables false
set_option linter.unusedSectionVars false
set_option linter.unusedSimpArgs false
namespace Go.Proofs.YtebinjcofclfaaaDoor
open Go Go.Sy Go.Bp Go.Dg
theorem fits_ints {m : Nat} {av : List AV} (h : fitsT Tryd.prog m 66 av) : ∃ (z : Bool) (l : List Int), av = [.isl z (cI .i64 l) l.length] ∧ l.length < 2^45 ∧ (z = true → l = []) := by
  obtain ⟨z, l, e, _, hl, hz⟩ := fits_list (g := fun i => [.val (.int .i64 i)]) (Q := fun y => True) (bn := 8) Tryd.underlying66 h (by kernel_rfl) (by decide) (fun n x hx => by
    obtain ⟨k, rfl, hk⟩ := fits_int Tryd.underlying3 hx
    exact ⟨k, rfl, trivial⟩)
  rw [show l.flatMap (fun i => [AV.val (.int .i64 i)]) = cI .i64 l from flatMap_one _ l] at e
  exact ⟨z, l, e, hl, hz⟩
structure NdA (n : Nd) : Prop where
  w : n.w.length < 2^47
  k : n.k.length < 2^47
  wz : n.wz = true → n.w = []
theorem fits_node {m : Nat} {av : List AV} (h : fitsT Tryd.prog m 68 av) : ∃ n : Nd, av = Cells.cells n ∧ NdA n := by
  obtain ⟨_, xs, rfl, hl, hx⟩ := fits_struct Tryd.underlying68 h
  match xs, hl with
  | [a0, a1, a2, a3, a4], _ =>
    obtain ⟨b0, rfl, _⟩ := fits_int Tryd.underlying3 (hx 0 _ a0 rfl rfl)
    obtain ⟨b1, rfl, _⟩ := fits_int Tryd.underlying3 (hx 1 _ a1 rfl rfl)
    obtain ⟨b2, rfl, _⟩ := fits_int Tryd.underlying3 (hx 2 _ a2 rfl rfl)
    obtain ⟨wz, w, rfl, hw, hwz⟩ := fits_ints (hx 3 _ a3 rfl rfl)
    obtain ⟨kz, k, rfl, hk, _⟩ := fits_ints (hx 4 _ a4 rfl rfl)
    exact ⟨⟨b0, b1, b2, wz, w, kz, k⟩, rfl, ⟨by show w.length < 2^47; omega, by show k.length < 2^47; omega, hwz⟩⟩
structure ExA (x : Ex) : Prop where
  sh : Short x
theorem fits_nodes {m : Nat} {av : List AV} (h : fitsT Tryd.prog m 62 av) : ∃ (z : Bool) (l : List Nd), av = [.isl z (cR l) l.length] ∧ (∀ n ∈ l, NdA n) ∧ l.length < 2^42 ∧ (z = true → l = []) := by
  obtain ⟨n, rfl | ⟨xs, rfl, h1, h2⟩⟩ := fits_slice Tryd.underlying62 h
  · exact ⟨true, [], rfl, by simp, by decide, fun _ => rfl⟩
  · obtain ⟨l, k1, k2⟩ := list_of (R := fun x a => x = Cells.cells a ∧ NdA a) xs (fun x hx' => fits_node (h1 x hx').2)
    refine ⟨false, l, ?_, all_of xs l k1 (fun i x a hx ha => (k2 i x a hx ha).2), ?_, fun h => by cases h⟩
    · rw [flat_of (g := Cells.cells) xs l k1 (fun i x a hx ha => (k2 i x a hx ha).1), k1]; rfl
    · have e : Tryd.prog.bytesOf 68 = 72 := by kernel_rfl
      rw [e] at h2
      rw [k1]; unfold reachBytes at h2; omega
theorem fits_expr {m : Nat} {av : List AV} (h : fitsT Tryd.prog m 64 av) : ∃ x : Ex, av = Cells.cells x ∧ ExA x := by
  obtain ⟨_, xs, rfl, hl, hx⟩ := fits_struct Tryd.underlying64 h
  match xs, hl with
  | [a0, a1], _ =>
    obtain ⟨z, l, rfl, ho, hl, hz⟩ := fits_nodes (hx 0 _ a0 rfl rfl)
    obtain ⟨b1, rfl, _⟩ := fits_int Tryd.underlying3 (hx 1 _ a1 rfl rfl)
    refine ⟨⟨z, l, b1⟩, rfl, ⟨⟨hl, fun j hj => ?_⟩⟩⟩
    have := ho _ (getD_mem (d := default) hj); exact ⟨this.w, this.k⟩
end Go.Proofs.YtebinjcofclfaaaDoor
