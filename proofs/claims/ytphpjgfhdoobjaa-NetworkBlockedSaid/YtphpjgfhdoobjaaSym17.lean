/-
  The symbolic walk: what a row's reading of plain data says of the arguments as abstract values; a row's step for a law. No condition.
-/
import Derived.Test.YtphpjgfhdoobjaaSym16
import Derived.ChangeArms
import Derived.ChangeBears
import Derived.ReadAgain
import Derived.Handed
set_option linter.unusedVariables false
set_option linter.unusedSectionVars false
set_option linter.unusedSimpArgs false
namespace Go.Sy
open Go.ChangeShapes Go.WideShapes Go.ChangeAt Go.RowKit

/-- Data without pointers, maps, functions and interfaces. -/
def plainT (P : Program) : Nat → TypeId → Bool
  | 0, _ => false
  | n + 1, t => match P.underlying t with
    | some .bool => true
    | some (.int _) => true
    | some .string => true
    | some (.slice e) => plainT P n e
    | some (.struct fs) => fs.toList.all fun f => plainT P n f.type
    | _ => false

/-- The cells of a value of a plain type. -/
def fitsT (P : Program) : Nat → TypeId → List AV → Prop
  | 0, _, _ => False
  | n + 1, t, as => match P.underlying t with
    | some .bool => ∃ b, as = [.val (.bool b)]
    | some (.int k) => ∃ m, as = [.val (.int k m)] ∧ (Lit.int k m).wf = true
    | some .string => ∃ s : ByteArray, as = [.val (.string s)] ∧ s.size ≤ reachBytes
    | some (.slice e) => as = [.isl true [] 0] ∨ ∃ xs : List (List AV), as = [.isl false xs.flatten xs.length] ∧ (∀ x ∈ xs, x.length = P.cellsOf e ∧ fitsT P n e x) ∧ xs.length * P.bytesOf e ≤ reachBytes
    | some (.struct fs) => ∃ xs : List (List AV), as = xs.flatten ∧ xs.length = fs.size ∧ ∀ (i : Nat) (f : Field) (x : List AV), fs[i]? = some f → xs[i]? = some x → fitsT P n f.type x
    | _ => False

def Good (w : World) (cs : List Value) (as : List AV) : Prop := as.length = cs.length ∧ ∀ (j : Nat) (x : AV), as[j]? = some x → (cs.getD j undef).oneCell' = true ∧ Rep w (fun b => b < w.heap.size) (fun _ => none) (cs.getD j undef) x

theorem Good.one {w : World} {v : Value} {x : AV} (h1 : v.oneCell' = true) (h2 : Rep w (fun b => b < w.heap.size) (fun _ => none) v x) : Good w [v] [x] := by
  refine ⟨rfl, fun j y hj => ?_⟩
  cases j with
  | zero => simp at hj; subst hj; exact ⟨h1, h2⟩
  | succ j => simp at hj
theorem Good.nil {w : World} : Good w [] [] := ⟨rfl, fun j x h => by simp at h⟩
theorem Good.append {w : World} {cs ds : List Value} {as bs : List AV} (h : Good w cs as) (k : Good w ds bs) : Good w (cs ++ ds) (as ++ bs) := by
  refine ⟨by rw [List.length_append, List.length_append, h.1, k.1], fun j x hx => ?_⟩
  by_cases hj : j < as.length
  · rw [List.getElem?_append_left hj] at hx
    have := h.2 j x hx
    rw [List.getD_eq_getElem?_getD, List.getElem?_append_left (by rw [← h.1]; exact hj), ← List.getD_eq_getElem?_getD]
    exact this
  · rw [List.getElem?_append_right (by omega)] at hx
    have := k.2 _ x hx
    rw [List.getD_eq_getElem?_getD, List.getElem?_append_right (by rw [← h.1]; omega), ← List.getD_eq_getElem?_getD, ← h.1]
    exact this

theorem flat_len {α : Type} {ce : Nat} {xs : List (List α)} (h : ∀ x ∈ xs, x.length = ce) : xs.flatten.length = xs.length * ce := by
  induction xs with
  | nil => simp
  | cons x xs ih => rw [List.flatten_cons, List.length_append, ih (fun y hy => h y (List.mem_cons_of_mem _ hy)), h x (List.mem_cons_self ..), List.length_cons, Nat.add_mul]; omega
theorem flat_get {α : Type} {ce : Nat} {xs : List (List α)} (h : ∀ x ∈ xs, x.length = ce) {i r : Nat} {x : List α} (hi : xs[i]? = some x) (hr : r < ce) : xs.flatten[i * ce + r]? = x[r]? := by
  induction xs generalizing i with
  | nil => simp at hi
  | cons y xs ih =>
    have hy := h y (List.mem_cons_self ..)
    cases i with
    | zero => simp at hi; subst hi; rw [List.flatten_cons, List.getElem?_append_left (by omega)]; simp
    | succ i =>
      rw [List.flatten_cons, List.getElem?_append_right (by rw [hy, Nat.add_mul]; omega), hy, show (i + 1) * ce + r - ce = i * ce + r by rw [Nat.add_mul]; omega]
      exact ih (fun z hz => h z (List.mem_cons_of_mem _ hz)) (by simpa using hi)

theorem choose_list {α β : Type} {R : α → β → Prop} : ∀ (l : List α), (∀ (i : Nat) (x : α), l[i]? = some x → ∃ y, R x y) → ∃ ys : List β, ys.length = l.length ∧ ∀ (i : Nat) (x : α) (y : β), l[i]? = some x → ys[i]? = some y → R x y
  | [], _ => ⟨[], rfl, fun i x y h => by simp at h⟩
  | a :: l, h => by
    obtain ⟨ys, h1, h2⟩ := choose_list l (fun i x hx => h (i + 1) x (by simpa using hx))
    obtain ⟨y, hy⟩ := h 0 a rfl
    refine ⟨y :: ys, by simp [h1], fun i x z hx hz => ?_⟩
    cases i with
    | zero => simp at hx hz; subst hx; subst hz; exact hy
    | succ i => exact h2 i x z (by simpa using hx) (by simpa using hz)

theorem mem_weightsAll {H : Type} {P : Program} {e : TypeId} {d : DataW H} {k : Nat} : ∀ {l : List (DataW H)}, d ∈ l → k ∈ d.weights P e → k ∈ DataW.weightsAll P e l
  | x :: l, hd, hk => by
    rw [DataW.weightsAll]
    rcases List.mem_cons.1 hd with rfl | hd
    · exact List.mem_append_left _ hk
    · exact List.mem_append_right _ (mem_weightsAll hd hk)
theorem mem_weightsEach {H : Type} {P : Program} {k : Nat} : ∀ {ts : List TypeId} {l : List (DataW H)} {i : Nat} {t : TypeId} {d : DataW H}, ts[i]? = some t → l[i]? = some d → k ∈ d.weights P t → k ∈ DataW.weightsEach P ts l
  | t :: ts, d :: l, 0, t', d', ht, hd, hk => by simp at ht hd; subst ht; subst hd; rw [DataW.weightsEach]; exact List.mem_append_left _ hk
  | t :: ts, d :: l, i + 1, t', d', ht, hd, hk => by rw [DataW.weightsEach]; exact List.mem_append_right _ (mem_weightsEach (by simpa using ht) (by simpa using hd) hk)
  | [], _, _, _, _, ht, _, _ => by simp at ht
  | _ :: _, [], _, _, _, _, hd, _ => by simp at hd

section
variable {H : Type} {enc : TypeId × Value → H} {P : Program} {W : World} {held : Bool}

theorem good_struct (g : Nat → Nat) : ∀ (fs : List Field) (k0 : Nat) (cs : List Value) (R : Field → List AV → Prop),
    (∀ (i : Nat) f, fs[i]? = some f → f.offset = k0 + ((fs.take i).map fun f => P.cellsOf f.type).sum) →
    (∀ (i : Nat) f, fs[i]? = some f → ∃ as, R f as ∧ Good W ((cs.drop f.offset).take (P.cellsOf f.type)) as) →
    ∃ xs : List (List AV), xs.length = fs.length ∧ (∀ (i : Nat) f x, fs[i]? = some f → xs[i]? = some x → R f x) ∧ Good W ((cs.drop k0).take ((fs.map fun f => P.cellsOf f.type).sum)) xs.flatten
  | [], k0, cs, R, _, _ => ⟨[], rfl, fun i f x h => by simp at h, by simpa using Good.nil⟩
  | f :: fs, k0, cs, R, h1, h2 => by
    obtain ⟨as, hR, hG⟩ := h2 0 f rfl
    have e0 := h1 0 f rfl
    simp at e0
    obtain ⟨xs, k1, k2, k3⟩ := good_struct g fs (k0 + P.cellsOf f.type) cs R (fun i f' hf => by
      have := h1 (i + 1) f' (by simpa using hf)
      rw [List.take_succ_cons, List.map_cons, List.sum_cons] at this; omega) (fun i f' hf => h2 (i + 1) f' (by simpa using hf))
    refine ⟨as :: xs, by simp [k1], fun i f' x hf hx => ?_, ?_⟩
    · cases i with
      | zero => simp at hf hx; subst hf; subst hx; exact hR
      | succ i => exact k2 i f' x (by simpa using hf) (by simpa using hx)
    · rw [e0] at hG
      have := hG.append k3
      rw [List.flatten_cons, List.map_cons, List.sum_cons, List.take_add, List.drop_drop]
      exact this

theorem good_trod (K : Kids P (· < P.types.size)) (hz : ∀ t e, t < P.types.size → P.underlying t = some (.slice e) → 0 < P.cellsOf e) : ∀ (m : Nat) (t : TypeId) (cs : List Value) (x : DataW H × List MemPlace) (fuel : Nat), t < P.types.size → plainT P m t = true →
    DataW.trod enc P W 0 (fun _ => true) held fuel t cs = some x → (∀ k ∈ x.1.weights P t, k ≤ reachBytes) → ∃ as, fitsT P m t as ∧ Good W cs as := by
  intro m
  induction m with
  | zero => intro t cs x fuel _ h; simp [plainT] at h
  | succ m ih =>
    intro t cs x fuel ht hp h hw
    unfold plainT at hp
    split at hp
    · rename_i hu
      obtain ⟨b, rfl, _⟩ := DataW.trod_bool hu h
      exact ⟨[.val (.bool b)], by unfold fitsT; rw [hu]; exact ⟨b, rfl⟩, Good.one rfl (.val _)⟩
    · rename_i k hu
      obtain ⟨n, rfl, _, hwf⟩ := DataW.trod_int hu h
      exact ⟨[.val (.int k n)], by unfold fitsT; rw [hu]; exact ⟨n, rfl, hwf⟩, Good.one rfl (.val _)⟩
    · rename_i hu
      obtain ⟨s, rfl, rfl, _⟩ := DataW.trod_string hu h
      have := hw s.data.toList.length (by rw [DataW.weights]; exact List.mem_singleton.2 rfl)
      refine ⟨[.val (.string s)], ?_, Good.one rfl (.val _)⟩
      unfold fitsT; rw [hu]; exact ⟨s, rfl, by rw [Array.length_toList] at this; exact this⟩
    · rename_i e hu
      rcases DataW.trod_slice hu h with ⟨rfl, rfl⟩ | ⟨a, len, cap, elems, rest, n, rfl, rfl, rfl, _, hl, hc, hlen, hel, _, _⟩
      · exact ⟨[.isl true [] 0], by unfold fitsT; rw [hu]; exact .inl rfl, Good.one rfl .inil⟩
      · have he := K.slice ht hu
        have hpos := hz t e ht hu
        have hwe : ∀ y ∈ elems, ∀ k ∈ y.1.weights P e, k ≤ reachBytes := fun y hy k hk => hw k (by
          simp only [DataW.weights, hu]
          exact List.mem_cons_of_mem _ (List.mem_append_left _ (mem_weightsAll (List.mem_map.2 ⟨y, hy, rfl⟩) hk)))
        have hwl : (elems.length + rest.length) * P.bytesOf e ≤ reachBytes := hw _ (by simp only [DataW.weights, hu, List.length_map]; exact List.mem_cons_self ..)
        have each : ∀ (i : Nat) (y : Nat), (List.range len)[i]? = some y → ∃ z : List Value × List AV, W.cells? 0 (a.add (y * P.cellsOf e)) (P.cellsOf e) = some z.1 ∧ fitsT P m e z.2 ∧ Good W z.1 z.2 := by
          intro i y hy
          have hi : y < len := by have := List.mem_of_getElem? hy; simpa using this
          have h1 := hel y hi
          obtain ⟨q, hq⟩ : ∃ q, elems[y]? = some q := ⟨_, List.getElem?_eq_getElem (by omega)⟩
          rw [hq, Option.bind_eq_some_iff] at h1
          obtain ⟨cs', hcs, htr⟩ := h1
          obtain ⟨as, h2, h3⟩ := ih e cs' q n he hp htr (hwe q (List.mem_of_getElem? hq))
          exact ⟨⟨cs', as⟩, hcs, h2, h3⟩
        obtain ⟨zs, hz1, hz2⟩ := choose_list _ each
        rw [List.length_range] at hz1
        have hzi : ∀ (i : Nat) (z : List Value × List AV), zs[i]? = some z → W.cells? 0 (a.add (i * P.cellsOf e)) (P.cellsOf e) = some z.1 ∧ fitsT P m e z.2 ∧ Good W z.1 z.2 := fun i z hi => by
          have hil : i < len := by have := (List.getElem?_eq_some_iff.1 hi).1; omega
          exact hz2 i i z (by simp [hil]) hi
        have hxl : ∀ x ∈ zs.map (·.2), x.length = P.cellsOf e := by
          intro x hx
          obtain ⟨z, hz', rfl⟩ := List.mem_map.1 hx
          obtain ⟨i, hi⟩ := List.mem_iff_getElem?.1 hz'
          obtain ⟨h1, _, h3⟩ := hzi i z hi
          rw [h3.1, (World.cells?_some h1).2.1]
        refine ⟨[.isl false (zs.map (·.2)).flatten (zs.map (·.2)).length], ?_, Good.one rfl ?_⟩
        · unfold fitsT; rw [hu]
          refine .inr ⟨zs.map (·.2), rfl, fun x hx => ⟨hxl x hx, ?_⟩, ?_⟩
          · obtain ⟨z, hz', rfl⟩ := List.mem_map.1 hx
            obtain ⟨i, hi⟩ := List.mem_iff_getElem?.1 hz'
            exact (hzi i z hi).2.1
          · refine Nat.le_trans (Nat.mul_le_mul_right _ ?_) hwl
            rw [List.length_map]; omega
        · have hln : (zs.map (·.2)).length = len := by simp [hz1]
          rw [hln]
          by_cases h0 : len = 0
          · have : zs = [] := List.length_eq_zero_iff.1 (by omega)
            subst this; subst h0; exact .iemp a cap
          · have hcell : ∀ (i r : Nat), i < len → r < P.cellsOf e → ∃ z v x, zs[i]? = some z ∧ z.1[r]? = some v ∧ z.2[r]? = some x ∧ W.cell? ((a.add (i * P.cellsOf e)).add r) = some v ∧ v.oneCell' = true ∧ Rep W (fun b => b < W.heap.size) (fun _ => none) v x := by
              intro i r hi hr
              obtain ⟨z, hz'⟩ : ∃ z, zs[i]? = some z := ⟨_, List.getElem?_eq_getElem (by omega)⟩
              obtain ⟨h1, _, h3⟩ := hzi i z hz'
              obtain ⟨_, h4, h5⟩ := World.cells?_some h1
              obtain ⟨v, hv⟩ : ∃ v, z.1[r]? = some v := ⟨_, List.getElem?_eq_getElem (by omega)⟩
              obtain ⟨x, hx⟩ : ∃ x, z.2[r]? = some x := ⟨_, List.getElem?_eq_getElem (by rw [h3.1]; omega)⟩
              obtain ⟨g1, g2⟩ := h3.2 r x hx
              have e1 : z.1.getD r undef = v := by rw [List.getD_eq_getElem?_getD, hv]; rfl
              rw [e1] at g1 g2
              exact ⟨z, v, x, hz', hv, hx, by rw [h5 r hr, hv], g1, g2⟩
            obtain ⟨b, off, sp⟩ := a
            obtain ⟨z0, v0, x0, _, _, _, hc0, _⟩ := hcell 0 0 (by omega) hpos
            have hsp : sp = none := by
              cases sp with
              | none => rfl
              | some k =>
                have e0 : ((⟨b, off, some k⟩ : Addr).add (0 * P.cellsOf e)).add 0 = ⟨b, off, some k⟩ := by simp [Addr.add]
                rw [e0] at hc0
                unfold World.cell? at hc0
                simp only [Option.isSome_some, if_true] at hc0
                split at hc0 <;> simp at hc0
            subst hsp
            have hbl : b < W.heap.size := by
              rw [Addr.add_lit, Addr.add_lit] at hc0
              exact World.block_lt_of_cell? W _ hc0
            have hflen := flat_len hxl
            rw [hln] at hflen
            have hdm : ∀ j, j < (zs.map (·.2)).flatten.length → ∃ z v x, zs[j / P.cellsOf e]? = some z ∧ z.1[j % P.cellsOf e]? = some v ∧ (zs.map (·.2)).flatten[j]? = some x ∧ W.cell? ⟨b, off + j, none⟩ = some v ∧ v.oneCell' = true ∧ Rep W (fun b => b < W.heap.size) (fun _ => none) v x := by
              intro j hj
              have hi : j / P.cellsOf e < len := (Nat.div_lt_iff_lt_mul hpos).2 (by rw [← hflen]; exact hj)
              have hr : j % P.cellsOf e < P.cellsOf e := Nat.mod_lt _ hpos
              obtain ⟨z, v, x, g1, g2, g3, g4, g5, g6⟩ := hcell _ _ hi hr
              have hj' : j / P.cellsOf e * P.cellsOf e + j % P.cellsOf e = j := by rw [Nat.mul_comm]; exact Nat.div_add_mod _ _
              refine ⟨z, v, x, g1, g2, ?_, ?_, g5, g6⟩
              · rw [← g3, ← flat_get hxl (i := j / P.cellsOf e) (by simp [g1]) hr, hj']
              · rw [← g4, Addr.add_lit, Addr.add_lit]; rw [show off + j / P.cellsOf e * P.cellsOf e + j % P.cellsOf e = off + j by omega]
            have hu' : ∀ j, j < (zs.map (·.2)).flatten.length → ((W.cell? ⟨b, off + j, none⟩).getD undef).oneCell' = true ∧ W.cell? ⟨b, off + j, none⟩ = some ((W.cell? ⟨b, off + j, none⟩).getD undef) ∧
                ∀ h : j < (zs.map (·.2)).flatten.length, Rep W (fun b => b < W.heap.size) (fun _ => none) ((W.cell? ⟨b, off + j, none⟩).getD undef) (zs.map (·.2)).flatten[j] := by
              intro j hj
              obtain ⟨z, v, x, _, _, g3, g4, g5, g6⟩ := hdm j hj
              rw [g4]
              refine ⟨g5, rfl, fun h => ?_⟩
              rw [List.getElem?_eq_getElem h] at g3
              rw [Option.some.inj g3]; exact g6
            exact .isl b off len cap _ (fun j => (W.cell? ⟨b, off + j, none⟩).getD undef) (fun _ => ⟨hbl, hbl⟩) hl (fun j hj => (hu' j hj).1) (fun j hj => (hu' j hj).2.1) (fun j hj => (hu' j hj).2.2 hj)
    · rename_i fs hu
      obtain ⟨xs, n, rfl, rfl, hcl, hxl, hf⟩ := DataW.trod_struct hu h
      obtain ⟨k1, k2, k3⟩ := K.struct ht hu
      have hone : ∀ (i : Nat) f, fs.toList[i]? = some f → ∃ as, fitsT P m f.type as ∧ Good W ((cs.drop f.offset).take (P.cellsOf f.type)) as := by
        intro i f hfi
        have hfa : fs[i]? = some f := by simpa using hfi
        have h1 := hf i f hfa
        obtain ⟨q, hq⟩ : ∃ q, xs[i]? = some q := ⟨_, List.getElem?_eq_getElem (by rw [hxl]; exact (Array.getElem?_eq_some_iff.1 hfa).1)⟩
        rw [hq] at h1
        refine ih f.type _ q n (k1 f (List.mem_of_getElem? hfi)) (List.all_eq_true.1 hp f (List.mem_of_getElem? hfi)) h1 (fun k hk => hw k ?_)
        simp only [DataW.weights, hu]
        exact mem_weightsEach (i := i) (by rw [List.getElem?_map, hfi]; rfl) (by rw [List.getElem?_map, hq]; rfl) hk
      obtain ⟨ys, g1, g2, g3⟩ := good_struct (W := W) (P := P) id fs.toList 0 cs (fun f as => fitsT P m f.type as) (fun i f hfi => by rw [k3 i f hfi]; simp) hone
      refine ⟨ys.flatten, ?_, ?_⟩
      · unfold fitsT; rw [hu]
        exact ⟨ys, rfl, by simpa using g1, fun i f x hfi hx => g2 i f x (by simpa using hfi) hx⟩
      · rw [← k2, List.drop_zero, ← hcl, List.take_length] at g3
        exact g3
    · cases hp
end
end Go.Sy

namespace Go.Sy
open Go.ChangeShapes Go.WideShapes Go.ChangeAt Go.RowKit
section
variable {H : Type} {enc : TypeId × Value → H} {P : Program} {W W' : World}

/-- An argument of a plain type that is no struct. -/
theorem arg_rep (K : Kids P (· < P.types.size)) (hz : ∀ t e, t < P.types.size → P.underlying t = some (.slice e) → 0 < P.cellsOf e) {r : Reach} {b : Nat} {m : Nat} {t : TypeId} {v : Value} {d : DataW H} {ps : List MemPlace} {held : Bool} (ht : t < P.types.size) (hp : plainT P m t = true)
    (hs : (match P.underlying t with | some (.struct _) => false | _ => true) = true) (hval : Value.okWide P W r b t v) (h : DataW.Trod enc P W 0 (fun _ => true) held t v d ps) (hw : ∀ k ∈ d.weights P t, k ≤ reachBytes) :
    ∃ x, fitsT P m t [x] ∧ Rep W (fun b => b < W.heap.size) (fun _ => none) v x := by
  obtain ⟨fuel, hf⟩ := h
  obtain ⟨as, h1, h2⟩ := good_trod K hz m t _ _ fuel ht hp hf hw
  have hc : v.cells.toList = [v] := by
    cases m with
    | zero => simp [plainT] at hp
    | succ m =>
      unfold plainT at hp
      unfold Value.okWide at hval
      split at hp
      all_goals (try (rename_i hu; rw [hu] at hval hs))
      all_goals first
        | (cases hp; done)
        | (cases hs; done)
        | (simp only [Cell.okWide, Cell.ok] at hval
           rw [hu] at hval
           cases v <;> first | rfl | (simp at hval))
        | (rename_i hu; rw [hu] at hval hs; simp only [Cell.okWide, Cell.ok] at hval; rw [hu] at hval; cases v <;> first | rfl | (simp at hval))
  rw [hc] at h2
  obtain ⟨g1, g2⟩ := h2
  cases as with
  | nil => simp at g1
  | cons x as =>
    have : as = [] := List.length_eq_zero_iff.1 (by simpa using g1)
    subst this
    exact ⟨x, h1, (g2 0 x rfl).2⟩

theorem TrodAll.carry (hm : More W W') : ∀ {ts : List TypeId} {vs : List Value} {ds : List (DataW H)} {ps : List MemPlace}, (∀ p ∈ ps, p.block < W.heap.size) → DataW.TrodAll enc P W 0 (fun _ => true) true ts vs ds ps → DataW.TrodAll enc P W' 0 (fun _ => true) true ts vs ds ps
  | [], [], [], _, _, h => h
  | t :: ts, v :: vs, d :: ds, ps, hlt, ⟨p, q, ⟨n, h1⟩, h2, e⟩ => by
    refine ⟨p, q, ⟨n, DataW.trod_carry n t _ (d, p) h1 (fun x hx => ?_)⟩, TrodAll.carry hm (fun x hx => hlt x (by rw [e]; exact List.mem_append_right _ hx)) h2, e⟩
    have hb := hm.2.2.2 x.block (hlt x (by rw [e]; exact List.mem_append_left _ hx))
    cases x with
    | cell b off => exact World.cell?_of_block (w := W) (a := ⟨b, off, none⟩) hb
    | map b => exact hb
end

/-- The row of a law: every call returns true. -/
theorem law_lift {H : Type} {enc : TypeId × Value → H} {C : Checked} {os : Os} {f : FuncId} {fn : Func} {s : ChangeSpec} {tb : TypeId}
    (own : ownKnob C.prog.godebug = none) (started : os.Started) (noInit : C.prog.inits.idxOf? f = none) (hfn : C.prog.funcs[f]? = some fn)
    (witness : ∃ (w : World) (tape : Tape) (i : Input), w.os = os ∧ (w.forCall tape i).Shaped C.prog ∧ i.vars = [] ∧ Input.okWide C.prog (w.forCall tape i) .any w.heap.size f i ∧
      s.pre6 enc C.prog fn [] false (w.forCall tape i).memory i.args ∧ Assume.holds {} C.prog (lone (Frame.enter C.prog f i.args .normal) [] (w.forCall tape i)))
    (K : Kids C.prog (· < C.prog.types.size)) (hz : ∀ t e, t < C.prog.types.size → C.prog.underlying t = some (.slice e) → 0 < C.prog.cellsOf e) (hts : fn.params.toList.all (fun t => decide (t < C.prog.types.size)) = true)
    (hvars : s.vars = []) (hres : fn.resultTypes = #[tb]) (hbool : C.prog.underlying tb = some .bool)
    (hspec : ∀ ds : List (DataW H), ds.length = fn.params.toList.length → s.fn H ds = ⟨[.lit (.bool true)], ds, []⟩)
    (law : ∀ (W : World) (base : Nat) (args : Array Value) (ds : List (DataW H)) (p : List MemPlace), (∀ (j : Nat) t v, fn.params[j]? = some t → args[j]? = some v → Value.okWide C.prog W .any base t v) →
      DataW.TrodAll enc C.prog W 0 (fun _ => true) true fn.params.toList args.toList ds p → (∀ k ∈ DataW.weightsEach C.prog fn.params.toList ds, k ≤ reachBytes) →
      Calls C.prog f args W fun e W' => e = .returned (.bool true) ∧ More W W') :
    ReturnsInHanded {} C os f .any (s.pre6 enc C.prog fn [] false) (s.post enc C.prog fn false true false false) := by
  refine returnsInHanded_of_calls own started noInit witness ?_
  intro w tape i _ _ _ hok hpre _
  obtain ⟨_, _, _, fn', hfn', _, _, _, _, hval⟩ := hok
  have e : fn' = fn := Option.some.inj (hfn'.symm.trans hfn)
  subst e
  obtain ⟨⟨ds, gs, before, hw, _⟩, hsz⟩ := hpre
  have hW := DataW.Whole.of_heap (w' := w.forCall tape i) (by rfl) hw
  have hwt := hsz.weights hw
  have hW' := hW
  obtain ⟨p, q, hA, hV, rfl, _, _⟩ := hW'
  rw [hvars] at hV
  obtain ⟨rfl, rfl⟩ := trodVars_none hV
  have hlen : ds.length = fn'.params.toList.length := by
    have key : ∀ {ts : List TypeId} {vs : List Value} {ds : List (DataW H)} {ps : List MemPlace}, DataW.TrodAll enc C.prog (w.forCall tape i) 0 (fun _ => true) true ts vs ds ps → ds.length = ts.length := by
      intro ts
      induction ts with
      | nil => intro vs ds ps h; obtain ⟨_, rfl, _⟩ := trodAll_nil h; rfl
      | cons t ts ih => intro vs ds ps h; obtain ⟨v, vs1, d, ds1, a, b, _, rfl, _, _, h2⟩ := trodAll_cons h; simp [ih h2]
    exact key hA
  refine (law (w.forCall tape i) w.heap.size i.args ds p hval hA (fun k hk => ?_)).mono fun e W' => ?_
  · have := List.all_eq_true.1 hwt k
    refine of_decide_eq_true (this ?_)
    have app : ∀ (ts us : List TypeId) (l : List (DataW H)), k ∈ DataW.weightsEach C.prog ts l → k ∈ DataW.weightsEach C.prog (ts ++ us) l := by
      intro ts
      induction ts with
      | nil => intro us l h; simp [DataW.weightsEach] at h
      | cons t ts ih =>
        intro us l h
        cases l with
        | nil => simp [DataW.weightsEach] at h
        | cons d l =>
          rw [List.cons_append, DataW.weightsEach] at *
          rcases List.mem_append.1 h with h | h
          · exact List.mem_append_left _ h
          · exact List.mem_append_right _ (ih us l h)
    rw [List.append_nil]
    exact app _ _ _ hk
  · rintro ⟨rfl, hm⟩
    show s.post enc C.prog fn' false true false false (w.forCall tape i).blind i.args (.bool true) W'.blind
    refine ChangeSpec.post_blind (law_post (pa := p) (pv := []) hW (fun b sp hd => ?_) (fun sp hsp => ?_) (fun sp hsp => ?_) hm)
    · rw [List.append_nil, hspec ds hlen, hres]
      exact trodAll_cons_mk (shut_bool hbool _) trodAll_mk0
    · rw [List.append_nil, hspec ds hlen]
      rw [List.append_nil] at hsp
      refine DataW.TrodAll.respare K hz (fun t ht => of_decide_eq_true (List.all_eq_true.1 hts t ht)) (TrodAll.carry hm (fun x hx => hW.lt x (List.mem_append_left _ hx)) hA) hsp
    · rw [List.append_nil, hspec ds hlen, hvars]; exact rfl
end Go.Sy
