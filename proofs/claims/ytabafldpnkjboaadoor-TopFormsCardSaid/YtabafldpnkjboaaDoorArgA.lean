/- ArgA: Args FDoor, merged. No condition. -/
import Derived.Test.YtabafldpnkjboaaDoorTy
import Derived.Test.YtabafldpnkjboaaDoorProg
import Derived.Test.YtabafldpnkjboaaDoorSymB
import Derived.Test.YtabafldpnkjboaaDoorRows
import Derived.Test.YtabafldpnkjboaaDoorTie
import Derived.Test.YtabafldpnkjboaaDoorSymD
import Derived.ProofKit
import Derived.LaidMore
import Derived.OpenShut
import Derived.Stop.Joined
import Derived.Lib.LaidTab
/- Args. -/
set_option linter.unusedVariables false
set_option linter.unusedSectionVars false
set_option linter.unusedSimpArgs false
namespace Go.Proofs.YtabafldpnkjboaaDoor
open Go Go.Sy

theorem kids : Kids Tryd.prog (· < Tryd.prog.types.size) := kids_rows (by kernel_rfl) (by kernel_rfl)
theorem full : ∀ t e, t < Tryd.prog.types.size → Tryd.prog.underlying t = some (.slice e) → 0 < Tryd.prog.cellsOf e := slices_full_of _ (by kernel_rfl)

theorem list_of {α : Type} {R : List AV → α → Prop} : ∀ (xs : List (List AV)), (∀ x ∈ xs, ∃ a, R x a) → ∃ l : List α, l.length = xs.length ∧ ∀ (i : Nat) (x : List AV) (a : α), xs[i]? = some x → l[i]? = some a → R x a
  | xs, h => by
    obtain ⟨ys, h1, h2⟩ := choose_list xs (fun i x hx => h x (List.mem_of_getElem? hx))
    exact ⟨ys, h1, h2⟩
theorem flat_of {α : Type} {g : α → List AV} : ∀ (xs : List (List AV)) (l : List α), l.length = xs.length → (∀ (i : Nat) (x : List AV) (a : α), xs[i]? = some x → l[i]? = some a → x = g a) → xs.flatten = l.flatMap g
  | [], [], _, _ => rfl
  | x :: xs, a :: l, hl, h => by
    rw [List.flatten_cons, List.flatMap_cons, h 0 x a rfl rfl, flat_of xs l (by simpa using hl) (fun i y b hy hb => h (i + 1) y b (by simpa using hy) (by simpa using hb))]
  | [], _ :: _, hl, _ => by simp at hl
  | _ :: _, [], hl, _ => by simp at hl
theorem all_of {α : Type} {R : α → Prop} (xs : List (List AV)) (l : List α) (hl : l.length = xs.length) (h : ∀ (i : Nat) (x : List AV) (a : α), xs[i]? = some x → l[i]? = some a → R a) : ∀ a ∈ l, R a := by
  intro a ha
  obtain ⟨i, hi⟩ := List.mem_iff_getElem?.1 ha
  obtain ⟨x, hx⟩ : ∃ x, xs[i]? = some x := ⟨_, List.getElem?_eq_getElem (by rw [← hl]; exact (List.getElem?_eq_some_iff.1 hi).1)⟩
  exact h i x a hx hi

theorem byte_ok {m : Int} (h : (Lit.int .u8 m).wf = true) : 0 ≤ m ∧ m ≤ 255 := by
  simp only [Lit.wf, Bool.and_eq_true, decide_eq_true_eq, IntKind.min, IntKind.max] at h
  simpa [IntKind.bits, IntKind.signed] using h

theorem u16_ok {m : Int} (h : (Lit.int .u16 m).wf = true) : 0 ≤ m ∧ m ≤ 65535 := by
  simp only [Lit.wf, Bool.and_eq_true, decide_eq_true_eq, IntKind.min, IntKind.max] at h
  simpa [IntKind.bits, IntKind.signed] using h
theorem fits_int {m : Nat} {t : TypeId} {k : IntKind} {av : List AV} (hu : Tryd.prog.underlying t = some (.int k)) (h : fitsT Tryd.prog m t av) : ∃ i, av = [.val (.int k i)] ∧ (Lit.int k i).wf = true := by
  cases m with
  | zero => cases h
  | succ m => unfold fitsT at h; rw [hu] at h; exact h
theorem fits_slice {m : Nat} {t e : TypeId} {av : List AV} (hu : Tryd.prog.underlying t = some (.slice e)) (h : fitsT Tryd.prog m t av) :
    ∃ n, av = [.isl true [] 0] ∨ ∃ xs : List (List AV), av = [.isl false xs.flatten xs.length] ∧ (∀ x ∈ xs, x.length = Tryd.prog.cellsOf e ∧ fitsT Tryd.prog n e x) ∧ xs.length * Tryd.prog.bytesOf e ≤ reachBytes := by
  cases m with
  | zero => cases h
  | succ m => unfold fitsT at h; rw [hu] at h; exact ⟨m, h⟩
theorem fits_struct {m : Nat} {t : TypeId} {fs : Array Field} {av : List AV} (hu : Tryd.prog.underlying t = some (.struct fs)) (h : fitsT Tryd.prog m t av) :
    ∃ n, ∃ xs : List (List AV), av = xs.flatten ∧ xs.length = fs.size ∧ ∀ (i : Nat) (f : Field) (x : List AV), fs[i]? = some f → xs[i]? = some x → fitsT Tryd.prog n f.type x := by
  cases m with
  | zero => cases h
  | succ m => unfold fitsT at h; rw [hu] at h; exact ⟨m, h⟩

theorem flatMap_one {α β : Type} (g : α → β) (l : List α) : l.flatMap (fun i => [g i]) = l.map g := by
  induction l with
  | nil => rfl
  | cons a l ih => rw [List.flatMap_cons, ih]; rfl
theorem fits_list1 {α : Type} {g : α → List AV} {Q : α → Prop} {m bn : Nat} {t e : TypeId} {av : List AV} (hu : Tryd.prog.underlying t = some (.slice e)) (h : fitsT Tryd.prog m t av) (hb : Tryd.prog.bytesOf e = bn) (h8 : 1 ≤ bn)
    (hx : ∀ n x, fitsT Tryd.prog n e x → ∃ a, x = g a ∧ Q a) : ∃ (z : Bool) (l : List α), av = [.isl z (l.flatMap g) l.length] ∧ (∀ a ∈ l, Q a) ∧ l.length < 2^47 ∧ (z = true → l = []) := by
  obtain ⟨n, rfl | ⟨xs, rfl, h1, h2⟩⟩ := fits_slice hu h
  · exact ⟨true, [], rfl, by simp, Nat.two_pow_pos 47, fun _ => rfl⟩
  · obtain ⟨l, k1, k2⟩ := list_of (R := fun x a => x = g a ∧ Q a) xs (fun x hx' => hx n x (h1 x hx').2)
    refine ⟨false, l, ?_, all_of xs l k1 (fun i x a hx ha => (k2 i x a hx ha).2), ?_, fun h => by cases h⟩
    · rw [flat_of (g := g) xs l k1 (fun i x a hx ha => (k2 i x a hx ha).1), k1]
    · have h3 : xs.length * 1 ≤ reachBytes := Nat.le_trans (Nat.mul_le_mul_left _ (hb ▸ h8)) h2
      rw [k1]; unfold reachBytes at h3; omega
end Go.Proofs.YtabafldpnkjboaaDoor
/- FDoor. -/
set_option linter.unusedVariables false
set_option linter.unusedSectionVars false
set_option linter.unusedSimpArgs false
set_option maxRecDepth 100000
namespace Go.Proofs.YtabafldpnkjboaaDoor
open Go Go.ChangeShapes Go.WideShapes Go.ChangeAt Go.RowKit Go.Sy
theorem own : ownKnob Tryd.prog.godebug = none := by kernel_rfl
def laidL {H : Type} : List (String × DataW H) := [("math/bits.deBruijn32tab", Rows.laid_math_bits_deBruijn32tab)]
theorem door_met (os : Os) (args : Array Value) : laidMetH Tryd.prog laidL ((World.doorLaid Tryd.prog 400 os).forCall (fun _ _ => 0) ⟨#[], args, []⟩).memory :=
  laidMetH_of_parts3 (fuel := 8) (laidMet_of_run' 8 (by kernel_rfl) (by kernel_rfl)) (by kernel_rfl) (by kernel_rfl)
theorem glob32 : Tryd.prog.globalNamed "math/bits.deBruijn32tab" = some 0 := by kernel_rfl
theorem laid_of {W : World} (h : laidMetH Tryd.prog laidL W.memory) : Laid (fun b => b < W.heap.size) W := by
  have h1 : laidMet Tryd.prog (("math/bits.deBruijn32tab", Lib.tabData .u8 tab32) :: []) W.memory := h
  have ht : Lib.TabIs Tryd.prog W.memory "math/bits.deBruijn32tab" .u8 tab32 := Lib.tabIs_of_head (t := 115) (e := 5) (n := 32) glob32 (by kernel_rfl) (by kernel_rfl) (by kernel_rfl) (by kernel_rfl) (by kernel_rfl) h1
  have hc : ∀ i (h : i < tab32.length), W.cell? ⟨0, i, none⟩ = some (.int .u8 tab32[i]) := fun i hi => by
    have := ht.cell glob32 i hi
    have e : tab32.getD i 0 = tab32[i] := by simp [List.getD_eq_getElem?_getD, hi]
    rw [e] at this; exact this
  intro g zs hg
  unfold gtab at hg
  split at hg
  · rename_i hg0
    cases hg
    rw [hg0]
    have hb : 0 < W.heap.size := by
      have := hc 0 (by decide)
      unfold World.cell? at this
      rcases Nat.lt_or_ge 0 W.heap.size with h0 | h0
      · exact h0
      · rw [Array.getElem?_eq_none h0] at this; cases this
    exact ⟨hb, hb, hc⟩
  · cases hg
end Go.Proofs.YtabafldpnkjboaaDoor
