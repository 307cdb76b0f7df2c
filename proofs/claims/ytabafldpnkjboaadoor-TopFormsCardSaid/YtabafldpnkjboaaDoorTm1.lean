/- Families in their canonical form: sorting, the least sets, what tells a family. No condition. -/
import Derived.Test.YtabafldpnkjboaaDoorDg9
import Derived.Test.YtabafldpnkjboaaDoorDi21
set_option linter.unusedVariables false
set_option linter.unusedSectionVars false
set_option linter.unusedSimpArgs false
set_option maxHeartbeats 4000000
set_option maxRecDepth 20000
namespace Go.Proofs.YtabafldpnkjboaaDoor
open Go Go.Sy Go.Bp Go.Dg
variable {n N M T L k i j m r a b w u v s q x y d : Nat} {p f g : Nat → Bool} {ms xs o o' l : List Nat}
def posS (o : List Nat) (x : Nat) : Nat := (o.takeWhile fun y => bef y x).length
def insS (o : List Nat) (x : Nat) : List Nat :=
  if posS o x < o.length ∧ o.getD (posS o x) default % 65536 = x % 65536 then o else o.take (posS o x) ++ x :: o.drop (posS o x)
def srtL (xs : List Nat) : Nat → List Nat
  | 0 => []
  | j + 1 => insS (srtL xs j) (xs.getD j default)
theorem srtL_0 : srtL xs 0 = [] := rfl
theorem srtL_s : srtL xs (j + 1) = insS (srtL xs j) (xs.getD j default) := rfl
theorem posS_eq (h : ∀ i, i < a → bef (o.getD i default) x = true) (ha : a ≤ o.length) (he : a = o.length ∨ bef (o.getD a default) x = false) : posS o x = a := by
  unfold posS
  induction o generalizing a with
  | nil => simp at ha; subst ha; rfl
  | cons y o ih =>
    cases a with
    | zero =>
      rcases he with he | he
      · simp at he
      · have he : bef y x = false := he
        rw [List.takeWhile_cons, he]; rfl
    | succ a =>
      have h0 : bef y x = true := h 0 (by omega)
      rw [List.takeWhile_cons, h0]
      show (_ :: _).length = _
      rw [List.length_cons, ih (a := a) (fun i hi => h (i + 1) (by omega)) (by simpa using ha) (by simpa using he)]
theorem posS_le : posS o x ≤ o.length := by
  unfold posS
  exact (List.takeWhile_prefix _).length_le
theorem posS_bef (hi : i < posS o x) : bef (o.getD i default) x = true := by
  unfold posS at hi
  induction o generalizing i with
  | nil => simp at hi
  | cons y o ih =>
    rw [List.takeWhile_cons] at hi
    cases hb : bef y x with
    | false => rw [hb] at hi; simp at hi
    | true =>
      rw [hb] at hi
      cases i with
      | zero => exact hb
      | succ i => exact ih (i := i) (by simpa using hi)
theorem posS_at (h : posS o x < o.length) : bef (o.getD (posS o x) default) x = false := by
  unfold posS at *
  induction o with
  | nil => simp at h
  | cons y o ih =>
    rw [List.takeWhile_cons] at h ⊢
    cases hb : bef y x with
    | false => rw [if_neg (by simp)]; exact hb
    | true =>
      rw [hb] at h
      rw [if_pos rfl]
      show bef ((y :: o).getD ((_ : List Nat).length + 1) default) x = false
      exact ih (by simpa using h)
theorem bef_irr : bef x x = false := bef_not sub_refl
theorem bef_asym (h : bef x y = true) : bef y x = false := by
  cases h2 : bef y x with
  | false => rfl
  | true => have := bef_trans h h2; rw [bef_irr] at this; cases this
theorem bef_tri (h1 : bef x y = false) (h2 : ¬ x % 65536 = y % 65536) : bef y x = true := by
  unfold bef at *
  by_cases e : memL x 16 = memL y 16
  · rw [if_pos e] at h1; rw [if_pos e.symm]; simp only [decide_eq_true_eq, decide_eq_false_iff_not] at *; omega
  · rw [if_neg e] at h1; rw [if_neg (fun h => e h.symm)]; simp only [decide_eq_true_eq, decide_eq_false_iff_not] at *; omega
theorem insS_mem (hx : x < 65536) (ho : ∀ y ∈ o, y < 65536) : y ∈ insS o x ↔ y ∈ o ∨ y = x := by
  unfold insS
  split
  · rename_i h
    refine ⟨fun h => .inl h, fun h2 => h2.elim id fun e => ?_⟩
    have hm : o.getD (posS o x) default ∈ o := getD_mem h.1
    have := ho _ hm
    rw [Nat.mod_eq_of_lt this, Nat.mod_eq_of_lt hx] at h
    rw [e, ← h.2]; exact hm
  · rw [List.mem_append, List.mem_cons]
    have : y ∈ o ↔ y ∈ o.take (posS o x) ∨ y ∈ o.drop (posS o x) := by
      conv => lhs; rw [← List.take_append_drop (posS o x) o]
      exact List.mem_append
    rw [this]
    constructor
    · rintro (h | h | h)
      · exact .inl (.inl h)
      · exact .inr h
      · exact .inl (.inr h)
    · rintro ((h | h) | h)
      · exact .inl h
      · exact .inr (.inr h)
      · exact .inr (.inl h)
theorem insS_bef (ho : o.Pairwise fun a b => bef a b = true) : (insS o x).Pairwise fun a b => bef a b = true := by
  unfold insS
  split
  · exact ho
  · rename_i h
    have ho2 := ho
    rw [← List.take_append_drop (posS o x) o] at ho2
    obtain ⟨h1, h2, h3⟩ := List.pairwise_append.1 ho2
    have ht : ∀ y ∈ o.take (posS o x), bef y x = true := fun y hy => by
      obtain ⟨i, hi, rfl⟩ := List.getElem_of_mem hy
      rw [List.length_take] at hi
      have := posS_bef (o := o) (x := x) (i := i) (by omega)
      rw [gD (by omega)] at this
      rw [List.getElem_take]; exact this
    have hd : ∀ y ∈ o.drop (posS o x), bef x y = true := fun y hy => by
      have hl : posS o x < o.length := by
        refine Decidable.not_not.1 fun hc => ?_
        rw [List.drop_eq_nil_of_le (by omega)] at hy; cases hy
      have hb := posS_at hl
      have hne : ¬ o.getD (posS o x) default % 65536 = x % 65536 := fun e => h ⟨hl, e⟩
      have hxb := bef_tri hb hne
      rw [List.drop_eq_getElem_cons hl] at hy h2
      rw [gD hl] at hxb
      rcases List.mem_cons.1 hy with rfl | hy
      · exact hxb
      · exact bef_trans hxb ((List.pairwise_cons.1 h2).1 y hy)
    refine List.pairwise_append.2 ⟨h1, List.pairwise_cons.2 ⟨hd, h2⟩, fun y hy z hz => ?_⟩
    rcases List.mem_cons.1 hz with rfl | hz
    · exact ht y hy
    · exact h3 y hy z hz
theorem srt_bef : ∀ j, (srtL xs j).Pairwise fun a b => bef a b = true := by
  intro j
  induction j with
  | zero => exact List.Pairwise.nil
  | succ j ih => exact insS_bef ih
theorem srt_mem (hx : ∀ y ∈ xs, y < 65536) : ∀ j, j ≤ xs.length → ((∀ y, y ∈ srtL xs j ↔ y ∈ xs.take j) ∧ ∀ y ∈ srtL xs j, y < 65536) := by
  intro j
  induction j with
  | zero => intro _; simp [srtL]
  | succ j ih =>
    intro hj
    obtain ⟨h1, h2⟩ := ih (by omega)
    have hlt : xs.getD j default < 65536 := hx _ (getD_mem (by omega))
    have e : ∀ y, y ∈ srtL xs (j + 1) ↔ y ∈ xs.take (j + 1) := fun y => by
      rw [srtL_s, insS_mem hlt h2, h1 y, show xs.take (j + 1) = xs.take j ++ [xs.getD j default] from ntake_s (by omega), List.mem_append, List.mem_singleton]
    exact ⟨e, fun y hy => hx y (List.mem_of_mem_take ((e y).1 hy))⟩
theorem insS_len : o.length ≤ (insS o x).length ∧ (insS o x).length ≤ o.length + 1 := by
  unfold insS
  split
  · omega
  · rw [List.length_append, List.length_cons, List.length_take, List.length_drop]
    have := posS_le (o := o) (x := x)
    omega
theorem srt_len : ∀ j, (srtL xs j).length ≤ j := by
  intro j
  induction j with
  | zero => exact Nat.le_refl _
  | succ j ih => have := insS_len (o := srtL xs j) (x := xs.getD j default); rw [srtL_s]; omega
def lsB (o : List Nat) (i : Nat) : Nat → Bool
  | 0 => true
  | j + 1 => if ¬ i = j ∧ sdif (o.getD j default) (o.getD i default) % 65536 = 0 then false else lsB o i j
theorem lsB_0 : lsB o i 0 = true := rfl
theorem lsB_f (h : ¬ i = j) (h2 : sdif (o.getD j default) (o.getD i default) % 65536 = 0) : lsB o i (j + 1) = false := by
  unfold lsB; rw [if_pos ⟨h, h2⟩]
theorem lsB_t (h : i = j ∨ ¬ sdif (o.getD j default) (o.getD i default) % 65536 = 0) : lsB o i (j + 1) = lsB o i j := by
  conv => lhs; unfold lsB
  rw [if_neg (fun h2 => h.elim (fun e => h2.1 e) fun e => e h2.2)]
theorem lsB_iff : lsB o i j = true ↔ ∀ k, k < j → ¬ i = k → ¬ sdif (o.getD k default) (o.getD i default) % 65536 = 0 := by
  induction j with
  | zero => exact ⟨fun _ k hk => absurd hk (by omega), fun _ => rfl⟩
  | succ j ih =>
    by_cases h : i = j ∨ ¬ sdif (o.getD j default) (o.getD i default) % 65536 = 0
    · rw [lsB_t h, ih]
      refine ⟨fun h2 k hk hne => ?_, fun h2 k hk => h2 k (by omega)⟩
      rcases Nat.lt_or_eq_of_le (Nat.le_of_lt_succ hk) with h3 | h3
      · exact h2 k h3 hne
      · subst h3; exact h.elim (fun e => absurd e hne) id
    · have h1 : ¬ i = j := fun e => h (.inl e)
      have h2 : sdif (o.getD j default) (o.getD i default) % 65536 = 0 := Decidable.not_not.1 fun e => h (.inr e)
      rw [lsB_f h1 h2]
      exact ⟨fun h => (by cases h), fun h3 => absurd h2 (h3 j (by omega) h1)⟩
def loL (o : List Nat) : Nat → List Nat
  | 0 => []
  | i + 1 => if lsB o i o.length = true then loL o i ++ [o.getD i default] else loL o i
theorem loL_0 : loL o 0 = [] := rfl
theorem loL_t (h : lsB o i o.length = true) : loL o (i + 1) = loL o i ++ [o.getD i default] := by
  show (if lsB o i o.length = true then _ else _) = _
  rw [if_pos h]
theorem loL_f (h : lsB o i o.length = false) : loL o (i + 1) = loL o i := by
  show (if lsB o i o.length = true then _ else _) = _
  rw [h]; rfl
theorem loL_len : (loL o i).length ≤ i := by
  induction i with
  | zero => exact Nat.le_refl _
  | succ i ih =>
    cases h : lsB o i o.length with
    | true => rw [loL_t h, List.length_append]; simp; omega
    | false => rw [loL_f h]; omega
theorem loL_sub (hi : i ≤ o.length) : (loL o i).Sublist (o.take i) := by
  induction i with
  | zero => exact List.Sublist.refl _
  | succ i ih =>
    rw [show o.take (i + 1) = o.take i ++ [o.getD i default] from ntake_s (by omega)]
    cases h : lsB o i o.length with
    | true => rw [loL_t h]; exact (ih (by omega)).append (List.Sublist.refl _)
    | false => rw [loL_f h]; exact (ih (by omega)).trans (List.sublist_append_left _ _)
theorem loL_mem (hi : i ≤ o.length) : y ∈ loL o i ↔ ∃ k, k < i ∧ o.getD k default = y ∧ lsB o k o.length = true := by
  induction i with
  | zero => simp [loL]
  | succ i ih =>
    have ih := ih (by omega)
    cases h : lsB o i o.length with
    | true =>
      rw [loL_t h, List.mem_append, List.mem_singleton, ih]
      constructor
      · rintro (⟨k, h1, h2, h3⟩ | rfl)
        · exact ⟨k, by omega, h2, h3⟩
        · exact ⟨i, by omega, rfl, h⟩
      · rintro ⟨k, h1, h2, h3⟩
        by_cases e : k = i
        · subst e; exact .inr h2.symm
        · exact .inl ⟨k, by omega, h2, h3⟩
    | false =>
      rw [loL_f h, ih]
      constructor
      · rintro ⟨k, h1, h2, h3⟩; exact ⟨k, by omega, h2, h3⟩
      · rintro ⟨k, h1, h2, h3⟩
        by_cases e : k = i
        · subst e; rw [h] at h3; cases h3
        · exact ⟨k, by omega, h2, h3⟩
def leastL (xs : List Nat) : List Nat := loL (srtL xs xs.length) (srtL xs xs.length).length
theorem hasA_self (h : x ∈ xs) : hasA xs x = true := hasA_iff.2 ⟨x, h, sub_refl⟩
theorem hasA_up (h : hasA xs x = true) (hs : sdif x y % 65536 = 0) : hasA xs y = true := by
  obtain ⟨m, h1, h2⟩ := hasA_iff.1 h
  exact hasA_iff.2 ⟨m, h1, sub_trans h2 hs⟩
theorem least_MinOk (hn : n ≤ 6) (hx : ∀ y ∈ xs, y < 2 ^ n) : MinOk n (hasA xs) (leastL xs) := by
  have hp : 2 ^ n ≤ 2 ^ 6 := Nat.pow_le_pow_right (by omega) hn
  have hb := srt_bef (xs := xs) xs.length
  obtain ⟨hm, hl⟩ := srt_mem (xs := xs) (fun y hy => by have := hx y hy; omega) xs.length (Nat.le_refl _)
  rw [List.take_length] at hm
  have hsub : (leastL xs).Sublist (srtL xs xs.length) := by
    have := loL_sub (o := srtL xs xs.length) (Nat.le_refl _)
    rw [List.take_length] at this; exact this
  have hmem : ∀ y, y ∈ leastL xs ↔ ∃ k, k < (srtL xs xs.length).length ∧ (srtL xs xs.length).getD k default = y ∧ lsB (srtL xs xs.length) k (srtL xs xs.length).length = true := fun y => loL_mem (Nat.le_refl _)
  generalize srtL xs xs.length = o at *
  have hlt : ∀ m ∈ leastL xs, m < 2 ^ n := fun m h => hx m ((hm m).1 (hsub.subset h))
  have inj : ∀ i k, i < o.length → k < o.length → o.getD i default = o.getD k default → i = k := fun i k hi hk e => by
    rw [gD hi, gD hk] at e
    rcases Nat.lt_trichotomy i k with h | h | h
    · have := List.pairwise_iff_getElem.1 hb i k hi hk h
      rw [e, bef_irr] at this; cases this
    · exact h
    · have := List.pairwise_iff_getElem.1 hb k i hk hi h
      rw [e, bef_irr] at this; cases this
  refine ⟨hb.sublist hsub, (hb.sublist hsub).imp fun {a b} h hs => ?_, hlt, fun m hmn => ?_⟩
  · rw [bef_not hs] at h; cases h
  · rw [hmem, isM_iff]
    constructor
    · rintro ⟨k, hk, rfl, hls⟩
      have hko : o.getD k default ∈ o := getD_mem hk
      refine ⟨hasA_self ((hm _).1 hko), fun y hy hh hs => ?_⟩
      obtain ⟨e, h1, h2⟩ := hasA_iff.1 hh
      obtain ⟨q, hq, rfl⟩ := List.getElem_of_mem ((hm e).2 h1)
      have hes := sub_trans h2 hs
      rw [← gD hq] at hes h2
      by_cases e : k = q
      · subst e
        have := sub_le h2 (by omega) (by omega)
        omega
      · exact (lsB_iff.1 hls) q hq e hes
    · rintro ⟨h1, h2⟩
      obtain ⟨e, he, hs⟩ := hasA_iff.1 h1
      have heo := (hm e).2 he
      have hen := hx e he
      have hle := sub_le hs (by omega) (by omega)
      have eq : e = m := by
        refine Decidable.not_not.1 fun hc => ?_
        exact h2 e (by omega) (hasA_self he) hs
      subst eq
      obtain ⟨q, hq, rfl⟩ := List.getElem_of_mem heo
      refine ⟨q, hq, gD hq, lsB_iff.2 fun k hk hne hs2 => ?_⟩
      have hko : o.getD k default ∈ o := getD_mem hk
      have hkx := (hm _).1 hko
      have hkn := hx _ hkx
      rw [gD hq] at hs2
      have hle2 := sub_le hs2 (by omega) (by omega)
      by_cases e : o.getD k default = o[q]
      · exact hne (inj q k hq hk (by rw [gD hq, e]))
      · exact h2 _ (by omega) (hasA_self hkx) hs2
theorem sorted_ext : ∀ {o o' : List Nat}, (o.Pairwise fun a b => bef a b = true) → (o'.Pairwise fun a b => bef a b = true) → (∀ y, y ∈ o ↔ y ∈ o') → o = o' := by
  intro o
  induction o with
  | nil =>
    intro o' _ _ h
    cases o' with
    | nil => rfl
    | cons y o' => have := (h y).2 (by simp); cases this
  | cons x o ih =>
    intro o' h1 h2 h
    cases o' with
    | nil => have := (h x).1 (by simp); cases this
    | cons y o' =>
      obtain ⟨a1, a2⟩ := List.pairwise_cons.1 h1
      obtain ⟨b1, b2⟩ := List.pairwise_cons.1 h2
      have e : x = y := by
        have hx := (h x).1 (by simp)
        have hy := (h y).2 (by simp)
        rcases List.mem_cons.1 hx with hx | hx
        · exact hx
        · rcases List.mem_cons.1 hy with hy | hy
          · exact hy.symm
          · have := bef_asym (a1 y hy); rw [b1 x hx] at this; cases this
      subst e
      congr 1
      refine ih a2 b2 fun z => ?_
      have hz := h z
      rw [List.mem_cons, List.mem_cons] at hz
      constructor
      · intro hm
        rcases hz.1 (.inr hm) with e | e
        · subst e; have := a1 z hm; rw [bef_irr] at this; cases this
        · exact e
      · intro hm
        rcases hz.2 (.inr hm) with e | e
        · subst e; have := b1 z hm; rw [bef_irr] at this; cases this
        · exact e
theorem MinOk.uniq (h1 : MinOk n p ms) (h2 : MinOk n p xs) : ms = xs := by
  refine sorted_ext h1.bef h2.bef fun y => ⟨fun h => ?_, fun h => ?_⟩
  · have := h1.lt y h; exact (h2.mem y this).2 ((h1.mem y this).1 h)
  · have := h2.lt y h; exact (h1.mem y this).2 ((h2.mem y this).1 h)
theorem isM_congr (h : ∀ t, t < 2 ^ n → p t = f t) (hx : x < 2 ^ n) : isM p x = isM f x := by
  rw [Bool.eq_iff_iff, isM_iff, isM_iff, h x hx]
  refine and_congr_right fun _ => ⟨fun h2 y hy => ?_, fun h2 y hy => ?_⟩
  · rw [← h y (by omega)]; exact h2 y hy
  · rw [h y (by omega)]; exact h2 y hy
theorem MinOk.congr (h : ∀ t, t < 2 ^ n → p t = f t) (h1 : MinOk n p ms) : MinOk n f ms :=
  ⟨h1.bef, h1.ord, h1.lt, fun m hm => by rw [← isM_congr h hm]; exact h1.mem m hm⟩
theorem mono_hasA (hn : n ≤ 6) : Mono n (hasA xs) := fun t i ht hi h => by
  have hp : 2 ^ n ≤ 2 ^ 6 := Nat.pow_le_pow_right (by omega) hn
  refine hasA_up h (sub_bit.2 fun k hk => ?_)
  have h2 := set_bit hi ht
  unfold bit at *
  rw [Nat.mod_eq_of_lt (by omega)] at hk ⊢
  rw [or_bit, hk]; rfl
theorem least_has (hn : n ≤ 6) (hx : ∀ y ∈ xs, y < 2 ^ n) : ∀ t, t < 2 ^ n → hasA (leastL xs) t = hasA xs t := (min_mono hn (least_MinOk hn hx)).1 (mono_hasA hn)
theorem subs_any : ∀ S, S < 64 → ((List.range 64).all fun x => (subs S).contains x == decide (sdif x S % 65536 = 0)) = true ∧ ((subs S).all fun x => decide (x < 64)) = true := by decide +kernel
theorem subs_any_bef : ∀ S, S < 64 → (subs S).Pairwise fun a b => bef a b = true := by decide +kernel
theorem subs_mem (hS : s < 64) : x ∈ subs s ↔ (x < 64 ∧ sdif x s % 65536 = 0) := by
  obtain ⟨h1, h2⟩ := subs_any s hS
  constructor
  · intro h
    have hx : x < 64 := of_decide_eq_true (List.all_eq_true.1 h2 x h)
    have := List.all_eq_true.1 h1 x (List.mem_range.2 hx)
    have hc : (subs s).contains x = true := by simpa using h
    rw [hc] at this
    exact ⟨hx, by simpa using this⟩
  · rintro ⟨hx, hs⟩
    have := List.all_eq_true.1 h1 x (List.mem_range.2 hx)
    rw [decide_eq_true hs] at this
    simpa using this
theorem mB_filterS (hS : s < 64) : ∀ j, j ≤ (subs s).length → mB p (subs s) j = ((subs s).take j).filter (isM p) := by
  have hall := fun x => subs_mem (x := x) hS
  have hord : (subs s).Pairwise fun a b => ¬ sdif b a % 65536 = 0 := (subs_any_bef s hS).imp fun {a b} h hs => by rw [bef_not hs] at h; cases h
  generalize subs s = xs at *
  intro j
  induction j with
  | zero => intro _; rfl
  | succ j ih =>
    intro hj
    have ih := ih (by omega)
    rw [ntake_s (by omega), List.filter_append, ← ih]
    have hxm : xs.getD j 0 ∈ xs := getD_mem (d := 0) (by omega)
    have hsp : xs = xs.take j ++ (xs.getD j 0 :: xs.drop (j + 1)) := by
      conv => lhs; rw [← List.take_append_drop j xs]
      congr 1
      rw [List.drop_eq_getElem_cons (by omega), List.getD_eq_getElem?_getD, List.getElem?_eq_getElem (by omega)]; rfl
    have hp := hord
    generalize hxj : xs.getD j 0 = x at *
    obtain ⟨hx64, hxs⟩ := (hall x).1 hxm
    have e : (!hasA (mB p xs j) x && p x) = isM p x := by
      cases hpx : p x with
      | false => unfold isM; rw [hpx, Bool.and_false, Bool.false_and]
      | true =>
        rw [Bool.and_true, Bool.eq_iff_iff, Bool.not_eq_true', isM_iff]
        refine ⟨fun h => ⟨hpx, fun y hy hpy hs => ?_⟩, fun h => ?_⟩
        · obtain ⟨m, h1, h2, h3⟩ := isM_ex hpy
          have hmx := sub_trans h3 hs
          have hm : m ∈ xs := (hall m).2 ⟨by omega, sub_trans hmx hxs⟩
          rw [hsp] at hm hp
          have hmt : m ∈ xs.take j := by
            rcases List.mem_append.1 hm with hm | hm
            · exact hm
            · rcases List.mem_cons.1 hm with rfl | hm
              · omega
              · exact absurd hmx ((List.pairwise_cons.1 (List.pairwise_append.1 hp).2.1).1 m hm)
          have : hasA (mB p xs j) x = true := by
            unfold hasA
            rw [ih, List.any_eq_true]
            exact ⟨m, List.mem_filter.2 ⟨hmt, h2⟩, decide_eq_true hmx⟩
          rw [this] at h; cases h
        · rw [Bool.eq_false_iff]
          intro hc
          obtain ⟨m, h1, h2⟩ := hasA_iff.1 hc
          rw [ih] at h1
          obtain ⟨h3, h4⟩ := List.mem_filter.1 h1
          have hm64 := ((hall m).1 (List.mem_of_mem_take h3)).1
          have hle := sub_le h2 (by omega) (by omega)
          by_cases e : m = x
          · subst e
            rw [hsp] at hp
            exact (List.pairwise_append.1 hp).2.2 m h3 m (by simp) sub_refl
          · exact h.2 m (by omega) (isM_iff.1 h4).1 h2
    show (if (!hasA (mB p xs j) (xs.getD j 0) && p (xs.getD j 0)) = true then _ else _) = _
    rw [hxj, e]
    cases hm : isM p x with
    | true => simp [hm]
    | false => simp [hm]
theorem sand_sub : sdif (sand x s) x % 65536 = 0 := sub_bit.2 fun i h => by rw [bit_sand, Bool.and_eq_true] at h; exact h.1
theorem minOkS (hn : n ≤ 6) (hS : s < 2 ^ n) (hp : ∀ t, t < 2 ^ n → p (sand t s) = p t) : MinOk n p (mB p (subs s) (subs s).length) := by
  have h6 : 2 ^ n ≤ 2 ^ 6 := Nat.pow_le_pow_right (by omega) hn
  have hS6 : s < 64 := by omega
  rw [mB_filterS hS6 _ (Nat.le_refl _), List.take_length]
  have hb := subs_any_bef s hS6
  have hall := fun x => subs_mem (x := x) hS6
  refine ⟨hb.sublist (List.filter_sublist ..), (hb.sublist (List.filter_sublist ..)).imp fun {a b} h hs => (by rw [bef_not hs] at h; cases h), fun m hm => ?_, fun m hm => ⟨fun h => (List.mem_filter.1 h).2, fun h => List.mem_filter.2 ⟨?_, h⟩⟩⟩
  · obtain ⟨h1, h2⟩ := (hall m).1 (List.mem_filter.1 hm).1
    have := sub_le h2 (by omega) (by omega); omega
  · refine (hall m).2 ⟨by omega, ?_⟩
    have hle : sand m s ≤ m := Nat.and_le_left
    have e : sand m s = m := by
      refine Decidable.not_not.1 fun hc => ?_
      exact (isM_iff.1 h).2 (sand m s) (by omega) (by rw [hp m hm]; exact (isM_iff.1 h).1) sand_sub
    rw [← e]
    exact sub_bit.2 fun i h => by rw [bit_sand, Bool.and_eq_true] at h; exact h.2
end Go.Proofs.YtabafldpnkjboaaDoor
