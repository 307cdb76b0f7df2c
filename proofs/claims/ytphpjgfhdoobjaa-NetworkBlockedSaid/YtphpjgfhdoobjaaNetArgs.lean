/- The network: what the arguments of the laws hold. No condition. -/
import Derived.Test.YtphpjgfhdoobjaaArgs
import Derived.Test.YtphpjgfhdoobjaaNet12
set_option linter.unusedVariables false
set_option linter.unusedSectionVars false
set_option linter.unusedSimpArgs false
namespace Go.Proofs.Ytphpjgfhdoobjaa
open Go Go.Sy
theorem fits_on {m : Nat} {av : List AV} (h : fitsT Try.prog m 69 av) : ∃ o : OpN, av = oC o ∧ okO o := by
  obtain ⟨n, xs, rfl, hl, hx⟩ := fits_struct Try.underlying69 h
  match xs, hl with
  | [a, b, c, d, e, f], _ =>
    obtain ⟨k, rfl, hk⟩ := fits_int Try.underlying5 (hx 0 _ a rfl rfl)
    obtain ⟨i, rfl, hi⟩ := fits_int Try.underlying66 (hx 1 _ b rfl rfl)
    obtain ⟨s, rfl, hs⟩ := fits_int Try.underlying66 (hx 2 _ c rfl rfl)
    obtain ⟨r, rfl, hr⟩ := fits_int Try.underlying67 (hx 3 _ d rfl rfl)
    obtain ⟨u, rfl, hu⟩ := fits_int Try.underlying56 (hx 4 _ e rfl rfl)
    obtain ⟨v, rfl, hv⟩ := fits_int Try.underlying56 (hx 5 _ f rfl rfl)
    exact ⟨⟨k, i, s, r, u, v⟩, rfl, byte_ok hk, i8_ok hi, i8_ok hs, i16_ok hr, u16_ok hu, u16_ok hv⟩
theorem fits_ops {m : Nat} {av : List AV} (h : fitsT Try.prog m 65 av) : ∃ (z : Bool) (l : List OpN), av = [.isl z (l.flatMap oC) l.length] ∧ (∀ o ∈ l, okO o) ∧ l.length < 2^45 := by
  obtain ⟨z, l, e, ho, hl, _⟩ := fits_list (g := oC) (bn := 10) Try.underlying65 h (by kernel_rfl) (by decide) (fun n x hx => fits_on hx)
  exact ⟨z, l, e, ho, hl⟩
theorem fits_bytes {m : Nat} {av : List AV} (h : fitsT Try.prog m 22 av) : ∃ (z : Bool) (l : List Int), av = [.isl z (cI .u8 l) l.length] ∧ (∀ y ∈ l, 0 ≤ y ∧ y ≤ 255) ∧ l.length < 2^47 := by
  obtain ⟨z, l, e, ho, hl, _⟩ := fits_list1 (g := fun i => [.val (.int .u8 i)]) (Q := fun y => 0 ≤ y ∧ y ≤ 255) (bn := 1) Try.underlying22 h (by kernel_rfl) (by decide) (fun n x hx => by
    obtain ⟨k, rfl, hk⟩ := fits_int Try.underlying5 hx
    exact ⟨k, rfl, byte_ok hk⟩)
  rw [show l.flatMap (fun i => [AV.val (.int .u8 i)]) = cI .u8 l from flatMap_one _ l] at e
  exact ⟨z, l, e, ho, hl⟩
theorem fits_sl {m : Nat} {t e : TypeId} {av : List AV} (hu : Try.prog.underlying t = some (.slice e)) (h : fitsT Try.prog m t av) : ∃ s : Sl, av = [.isl s.z s.cs s.n] := by
  obtain ⟨n, rfl | ⟨xs, rfl, _⟩⟩ := fits_slice hu h
  · exact ⟨⟨true, [], 0⟩, rfl⟩
  · exact ⟨⟨false, xs.flatten, xs.length⟩, rfl⟩
theorem fits_msg {m : Nat} {av : List AV} (h : fitsT Try.prog m 39 av) : ∃ o : Msg, av = mC o ∧ True := by
  obtain ⟨n, xs, rfl, hl, hx⟩ := fits_struct Try.underlying39 h
  match xs, hl with
  | [a0, a1, a2, a3, a4, a5, a6, a7, a8, a9, a10, a11], _ =>
    obtain ⟨b0, rfl, _⟩ := fits_int Try.underlying3 (hx 0 _ a0 rfl rfl)
    obtain ⟨b1, rfl, _⟩ := fits_int Try.underlying3 (hx 1 _ a1 rfl rfl)
    obtain ⟨b2, rfl, _⟩ := fits_int Try.underlying3 (hx 2 _ a2 rfl rfl)
    obtain ⟨b3, rfl, _⟩ := fits_int Try.underlying3 (hx 3 _ a3 rfl rfl)
    obtain ⟨b4, rfl, _⟩ := fits_int Try.underlying3 (hx 4 _ a4 rfl rfl)
    obtain ⟨b5, rfl, _⟩ := fits_str Try.underlying9 (hx 5 _ a5 rfl rfl)
    obtain ⟨b6, rfl, _⟩ := fits_int Try.underlying2 (hx 6 _ a6 rfl rfl)
    obtain ⟨b8, rfl⟩ := fits_sl Try.underlying31 (hx 8 _ a8 rfl rfl)
    obtain ⟨b9, rfl⟩ := fits_sl Try.underlying32 (hx 9 _ a9 rfl rfl)
    obtain ⟨b11, rfl⟩ := fits_sl Try.underlying33 (hx 11 _ a11 rfl rfl)
    obtain ⟨_, ys, rfl, hl7, hx7⟩ := fits_struct Try.underlying30 (hx 7 _ a7 rfl rfl)
    obtain ⟨_, zs, rfl, hl10, hx10⟩ := fits_struct Try.underlying37 (hx 10 _ a10 rfl rfl)
    match ys, hl7, zs, hl10 with
    | [c0, c1, c2, c3, c4, c5], _, [d0, d1, d2, d3, d4], _ =>
      obtain ⟨e0, rfl, _⟩ := fits_int Try.underlying3 (hx7 0 _ c0 rfl rfl)
      obtain ⟨e1, rfl, _⟩ := fits_int Try.underlying3 (hx7 1 _ c1 rfl rfl)
      obtain ⟨e2, rfl, _⟩ := fits_int Try.underlying3 (hx7 2 _ c2 rfl rfl)
      obtain ⟨e3, rfl, _⟩ := fits_int Try.underlying3 (hx7 3 _ c3 rfl rfl)
      obtain ⟨e4, rfl, _⟩ := fits_str Try.underlying9 (hx7 4 _ c4 rfl rfl)
      obtain ⟨e5, rfl, _⟩ := fits_str Try.underlying9 (hx7 5 _ c5 rfl rfl)
      obtain ⟨f0, rfl, _⟩ := fits_int Try.underlying3 (hx10 0 _ d0 rfl rfl)
      obtain ⟨f1, rfl, _⟩ := fits_str Try.underlying9 (hx10 1 _ d1 rfl rfl)
      obtain ⟨f2, rfl⟩ := fits_sl Try.underlying33 (hx10 2 _ d2 rfl rfl)
      obtain ⟨f3, rfl⟩ := fits_sl Try.underlying34 (hx10 3 _ d3 rfl rfl)
      obtain ⟨f4, rfl⟩ := fits_sl Try.underlying35 (hx10 4 _ d4 rfl rfl)
      exact ⟨⟨b0, b1, b2, b3, b4, b5, b6, e0, e1, e2, e3, e4, e5, b8, b9, f0, f1, f2, f3, f4, b11⟩, rfl, trivial⟩
theorem fits_msgs {m : Nat} {av : List AV} (h : fitsT Try.prog m 61 av) : ∃ (z : Bool) (l : List Msg), av = [.isl z (l.flatMap mC) l.length] ∧ (∀ o ∈ l, True) ∧ l.length < 2^45 := by
  obtain ⟨z, l, e, ho, hl, _⟩ := fits_list (g := mC) (Q := fun _ => True) (bn := 296) Try.underlying61 h (by kernel_rfl) (by decide) (fun n x hx => fits_msg hx)
  exact ⟨z, l, e, ho, hl⟩
end Go.Proofs.Ytphpjgfhdoobjaa
