/- The clock: what the arguments of the laws hold. No condition. -/
import Derived.Test.YtipmfcpmbkopeaaArgs
import Derived.Test.YtipmfcpmbkopeaaClock5
set_option linter.unusedVariables false
set_option linter.unusedSectionVars false
set_option linter.unusedSimpArgs false
namespace Go.Proofs.Ytipmfcpmbkopeaa
open Go Go.Sy
theorem fits_op {m : Nat} {av : List AV} (h : fitsT Try.prog m 60 av) : ∃ o : OpC, av = opCells o ∧ okC o := by
  obtain ⟨n, xs, rfl, hl, hx⟩ := fits_struct Try.underlying60 h
  match xs, hl with
  | [a, b, c, d], _ =>
    obtain ⟨k, rfl, hk⟩ := fits_int Try.underlying5 (hx 0 _ a rfl rfl)
    obtain ⟨i, rfl, hi⟩ := fits_int Try.underlying2 (hx 1 _ b rfl rfl)
    obtain ⟨s, rfl, hs⟩ := fits_int Try.underlying3 (hx 2 _ c rfl rfl)
    obtain ⟨r, rfl⟩ := fits_bool Try.underlying4 (hx 3 _ d rfl rfl)
    exact ⟨⟨k, i, s, r⟩, rfl, (byte_ok hk).1, (byte_ok hk).2, (i64_ok hi).1, (i64_ok hi).2, (i64_ok hs).1, (i64_ok hs).2⟩
theorem fits_ops {m : Nat} {av : List AV} (h : fitsT Try.prog m 22 av) : ∃ (z : Bool) (l : List OpC), av = [.isl z (cR l) l.length] ∧ (∀ o ∈ l, okC o) ∧ l.length < 2^45 := by
  obtain ⟨z, l, e, ho, hl, _⟩ := fits_list (g := opCells) (bn := 32) Try.underlying22 h (by kernel_rfl) (by decide) (fun n x hx => fits_op hx)
  exact ⟨z, l, e, ho, hl⟩
end Go.Proofs.Ytipmfcpmbkopeaa
