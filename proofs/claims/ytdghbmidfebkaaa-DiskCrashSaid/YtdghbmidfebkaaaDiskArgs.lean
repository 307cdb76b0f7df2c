/- The disk: what the arguments of the laws hold. No condition. -/
import Derived.Test.YtdghbmidfebkaaaDisk10
import Derived.Test.YtdghbmidfebkaaaSym17
set_option linter.unusedVariables false
set_option linter.unusedSimpArgs false
namespace Go.Proofs.Ytdghbmidfebkaaa
open Go Go.Sy

theorem kids : Kids Try.prog (· < Try.prog.types.size) := kids_rows (by kernel_rfl) (by kernel_rfl)
theorem full : ∀ t e, t < Try.prog.types.size → Try.prog.underlying t = some (.slice e) → 0 < Try.prog.cellsOf e := slices_full_of _ (by kernel_rfl)

theorem list_of {α : Type} {R : List AV → α → Prop} : ∀ (xs : List (List AV)), (∀ x ∈ xs, ∃ a, R x a) → ∃ l : List α, l.length = xs.length ∧ ∀ (i : Nat) (x : List AV) (a : α), xs[i]? = some x → l[i]? = some a → R x a
  | xs, h => by
    obtain ⟨ys, h1, h2⟩ := choose_list xs (fun i x hx => h x (List.mem_of_getElem? hx))
    exact ⟨ys, h1, h2⟩
theorem flat_of {α : Type} {g : α → List AV} : ∀ (xs : List (List AV)) (l : List α), l.length = xs.length → (∀ (i : Nat) (x : List AV) (a : α), xs[i]? = some x → l[i]? = some a → x = g a) → xs.flatten = l.flatMap g
  | [], [], _, _ => rfl
  | x :: xs, a :: l, hl, h => by
    rw [List.flatten_cons, List.flatMap_cons, h 0 x a rfl rfl, flat_of xs l (by simpa using hl) (fun i y b hy hb => h (i + 1) y b (by simpa using hy) (by simpa using hb))]
  | [], _ :: _, hl, _ => by simp at hl
  | _ :: _, [], hl, _ => by simp at hl
theorem all_of {α : Type} {R : α → Prop} (xs : List (List AV)) (l : List α) (hl : l.length = xs.length) (h : ∀ (i : Nat) (x : List AV) (a : α), xs[i]? = some x → l[i]? = some a → R a) : ∀ a ∈ l, R a := by
  intro a ha
  obtain ⟨i, hi⟩ := List.mem_iff_getElem?.1 ha
  obtain ⟨x, hx⟩ : ∃ x, xs[i]? = some x := ⟨_, List.getElem?_eq_getElem (by rw [← hl]; exact (List.getElem?_eq_some_iff.1 hi).1)⟩
  exact h i x a hx hi

theorem byte_ok {m : Int} (h : (Lit.int .u8 m).wf = true) : 0 ≤ m ∧ m ≤ 255 := by
  simp only [Lit.wf, Bool.and_eq_true, decide_eq_true_eq, IntKind.min, IntKind.max] at h
  simpa [IntKind.bits, IntKind.signed] using h

theorem fits_int {m : Nat} {t : TypeId} {k : IntKind} {av : List AV} (hu : Try.prog.underlying t = some (.int k)) (h : fitsT Try.prog m t av) : ∃ i, av = [.val (.int k i)] ∧ (Lit.int k i).wf = true := by
  cases m with
  | zero => cases h
  | succ m => unfold fitsT at h; rw [hu] at h; exact h
theorem fits_str {m : Nat} {t : TypeId} {av : List AV} (hu : Try.prog.underlying t = some .string) (h : fitsT Try.prog m t av) : ∃ s : ByteArray, av = [.val (.string s)] ∧ s.size ≤ reachBytes := by
  cases m with
  | zero => cases h
  | succ m => unfold fitsT at h; rw [hu] at h; exact h
theorem fits_slice {m : Nat} {t e : TypeId} {av : List AV} (hu : Try.prog.underlying t = some (.slice e)) (h : fitsT Try.prog m t av) :
    ∃ n, av = [.isl true [] 0] ∨ ∃ xs : List (List AV), av = [.isl false xs.flatten xs.length] ∧ (∀ x ∈ xs, x.length = Try.prog.cellsOf e ∧ fitsT Try.prog n e x) ∧ xs.length * Try.prog.bytesOf e ≤ reachBytes := by
  cases m with
  | zero => cases h
  | succ m => unfold fitsT at h; rw [hu] at h; exact ⟨m, h⟩
theorem fits_struct {m : Nat} {t : TypeId} {fs : Array Field} {av : List AV} (hu : Try.prog.underlying t = some (.struct fs)) (h : fitsT Try.prog m t av) :
    ∃ n, ∃ xs : List (List AV), av = xs.flatten ∧ xs.length = fs.size ∧ ∀ (i : Nat) (f : Field) (x : List AV), fs[i]? = some f → xs[i]? = some x → fitsT Try.prog n f.type x := by
  cases m with
  | zero => cases h
  | succ m => unfold fitsT at h; rw [hu] at h; exact ⟨m, h⟩

theorem flatMap_one {α β : Type} (g : α → β) (l : List α) : l.flatMap (fun i => [g i]) = l.map g := by
  induction l with
  | nil => rfl
  | cons a l ih => rw [List.flatMap_cons, ih]; rfl
theorem fits_bits {m : Nat} {av : List AV} (h : fitsT Try.prog m 36 av) : ∃ (z : Bool) (bits : List Int), av = [.isl z (cI .u8 bits) bits.length] ∧ (z = true → bits = []) ∧ (∀ b ∈ bits, 0 ≤ b ∧ b ≤ 255) ∧ bits.length < 2^47 := by
  obtain ⟨n, rfl | ⟨xs, rfl, h1, h2⟩⟩ := fits_slice Try.underlying36 h
  · exact ⟨true, [], rfl, fun _ => rfl, by simp, by decide⟩
  · obtain ⟨l, k1, k2⟩ := list_of (R := fun x (i : Int) => x = [.val (.int .u8 i)] ∧ (Lit.int .u8 i).wf = true) xs (fun x hx => fits_int Try.underlying5 (h1 x hx).2)
    refine ⟨false, l, ?_, (fun h => by cases h), all_of xs l k1 (fun i x a hx ha => byte_ok (k2 i x a hx ha).2), ?_⟩
    · rw [flat_of (g := fun i => [.val (.int .u8 i)]) xs l k1 (fun i x a hx ha => (k2 i x a hx ha).1), k1]
      rw [show l.flatMap (fun i => [AV.val (.int .u8 i)]) = cI .u8 l from flatMap_one _ l]
    · have e : Try.prog.bytesOf 5 = 1 := by kernel_rfl
      rw [e] at h2
      rw [k1]; unfold reachBytes at h2; omega

theorem fits_op {m : Nat} {av : List AV} (h : fitsT Try.prog m 62 av) : ∃ o : OpV, av = opCells o ∧ okOp o := by
  obtain ⟨n, xs, rfl, hl, hx⟩ := fits_struct Try.underlying62 h
  match xs, hl with
  | [a, b, c, d], _ =>
    obtain ⟨k, rfl, hk⟩ := fits_int Try.underlying5 (hx 0 _ a rfl rfl)
    obtain ⟨i, rfl, _⟩ := fits_int Try.underlying3 (hx 1 _ b rfl rfl)
    obtain ⟨s, rfl, _⟩ := fits_str Try.underlying9 (hx 2 _ c rfl rfl)
    obtain ⟨z, bits, rfl, h1, h2, h3⟩ := fits_bits (hx 3 _ d rfl rfl)
    exact ⟨⟨k, i, s, z, bits⟩, rfl, (byte_ok hk).1, (byte_ok hk).2, h1, h2, h3⟩

theorem fits_ops {m : Nat} {av : List AV} (h : fitsT Try.prog m 35 av) : ∃ (z : Bool) (l : List OpV), av = [.isl z (cOps l) l.length] ∧ (∀ o ∈ l, okOp o) ∧ l.length < 2^50 := by
  obtain ⟨n, rfl | ⟨xs, rfl, h1, h2⟩⟩ := fits_slice Try.underlying35 h
  · exact ⟨true, [], rfl, by simp, by decide⟩
  · obtain ⟨l, k1, k2⟩ := list_of (R := fun x (o : OpV) => x = opCells o ∧ okOp o) xs (fun x hx => fits_op (h1 x hx).2)
    refine ⟨false, l, ?_, all_of xs l k1 (fun i x a hx ha => (k2 i x a hx ha).2), ?_⟩
    · rw [flat_of (g := opCells) xs l k1 (fun i x a hx ha => (k2 i x a hx ha).1), k1]; rfl
    · have e : Try.prog.bytesOf 62 = 56 := by kernel_rfl
      rw [e] at h2
      rw [k1]; unfold reachBytes at h2; omega
end Go.Proofs.Ytdghbmidfebkaaa
