/- The clock: the order of timers. No condition. -/
import Derived.Test.YtipmfcpmbkopeaaClock9
set_option linter.unusedVariables false
set_option linter.unusedSectionVars false
set_option linter.unusedSimpArgs false
namespace Go.Proofs.Ytipmfcpmbkopeaa
open Go Go.Sy
variable {l m : List Tm} {now a b : Int} {i j n : Nat} {z z2 : Bool}

theorem bh_lt (h : i < bh l a) : (l.getD i default).at' ≤ a := by
  unfold bh at h
  cases hf : l.findIdx? (fun t => decide (a < t.at')) with
  | none =>
    rw [hf] at h; simp at h
    have := (List.findIdx?_eq_none_iff.1 hf) l[i] (List.getElem_mem h)
    simp [List.getD_eq_getElem?_getD, h] at this ⊢; exact this
  | some k =>
    rw [hf] at h; simp at h
    obtain ⟨hk, _, h2⟩ := List.findIdx?_eq_some_iff_getElem.1 hf
    have := h2 i h
    have hil : i < l.length := by omega
    simp [List.getD_eq_getElem?_getD, hil] at this ⊢; exact this
theorem bh_at (h : bh l a < l.length) : a < (l.getD (bh l a) default).at' := by
  unfold bh at h ⊢
  cases hf : l.findIdx? (fun t => decide (a < t.at')) with
  | none => rw [hf] at h; simp at h
  | some k =>
    rw [hf] at h; simp at h
    obtain ⟨hk, h1, _⟩ := List.findIdx?_eq_some_iff_getElem.1 hf
    simp [List.getD_eq_getElem?_getD, h] at h1 ⊢; exact h1
def srt (l : List Tm) : Prop := l.Pairwise (fun s t => s.at' ≤ t.at')
theorem mem_getD {t : Tm} (h : t ∈ l) : ∃ i, i < l.length ∧ l.getD i default = t := by
  obtain ⟨i, hi, rfl⟩ := List.getElem_of_mem h
  exact ⟨i, hi, by simp [List.getD_eq_getElem?_getD, hi]⟩
theorem srt_le (h : srt l) (hij : i ≤ j) (hj : j < l.length) : (l.getD i default).at' ≤ (l.getD j default).at' := by
  rcases Nat.eq_or_lt_of_le hij with rfl | hlt
  · exact Int.le_refl _
  · have := (List.pairwise_iff_getElem.1 h) i j (by omega) hj hlt
    have hi : i < l.length := by omega
    simpa [List.getD_eq_getElem?_getD, hi, hj] using this
theorem take_le {t : Tm} (h : t ∈ l.take (bh l a)) : t.at' ≤ a := by
  obtain ⟨i, hi, rfl⟩ := mem_getD h
  have h1 : i < bh l a := by simp at hi; omega
  rw [take_getD h1]; exact bh_lt h1
theorem drop_lt {t : Tm} (hs : srt l) (h : t ∈ l.drop (bh l a)) : a < t.at' := by
  obtain ⟨i, hi, rfl⟩ := mem_getD h
  rw [drop_getD]
  have h1 : bh l a + i < l.length := by simp at hi; omega
  exact Int.lt_of_lt_of_le (bh_at (by omega)) (srt_le hs (by omega) h1)
theorem srt_sub (hs : srt l) (h : m.Sublist l) : srt m := List.Pairwise.sublist h hs
theorem srt_ins (hs : srt l) : srt (ins l a b) := by
  unfold ins srt
  rw [List.pairwise_append]
  refine ⟨srt_sub hs (List.take_sublist _ _), List.pairwise_cons.2 ⟨fun t ht => ?_, srt_sub hs (List.drop_sublist _ _)⟩, fun s hs' t ht => ?_⟩
  · have := drop_lt hs ht; show a ≤ t.at'; omega
  · have h1 := take_le hs'
    rcases List.mem_cons.1 ht with rfl | ht
    · exact h1
    · have := drop_lt hs ht; omega
/-- What holds of a queue behind k operations. -/
def okK (k : Nat) (s : Qs) : Prop := srt s.l ∧ (∀ t ∈ s.l, s.now ≤ t.at') ∧ s.l.length ≤ k
theorem stepK {s : Qs} {o : OpC} {k : Nat} (h : okK k s) : okK (k + 1) (stepQ s o) := by
  obtain ⟨h1, h2, h3⟩ := h
  unfold stepQ
  split
  · refine ⟨?_, fun t ht => ?_, ?_⟩
    · show srt (an _ _ _ _)
      unfold an; split
      · exact srt_ins h1
      · exact h1
    · rcases mem_an ht with ht | ⟨rfl, hp⟩
      · exact h2 t ht
      · exact (perr_range hp).2.2
    · show (an _ _ _ _).length ≤ _
      unfold an; split
      · rw [ins_len]; omega
      · omega
  · split
    · have hc : (cn s.l o.id).Sublist s.l := by
        unfold cn; split
        · exact List.Sublist.refl _
        · have := (List.Sublist.refl (s.l.take (cx s.l o.id).toNat)).append (List.drop_sublist 1 (s.l.drop (cx s.l o.id).toNat))
          rw [List.drop_drop, List.take_append_drop] at this
          exact this
      exact ⟨srt_sub h1 hc, fun t ht => h2 t (hc.subset ht), Nat.le_trans hc.length_le (by omega)⟩
    · split
      · refine ⟨srt_sub h1 (List.drop_sublist _ _), fun t ht => ?_, by show (s.l.drop 1).length ≤ _; simp; omega⟩
        show nn s.now s.l ≤ t.at'
        unfold nn
        cases hl : s.l with
        | nil => rw [hl] at ht; cases ht
        | cons t0 l =>
          rw [hl] at ht h1
          exact (List.pairwise_cons.1 h1).1 t ht
      · refine ⟨srt_sub h1 (List.drop_sublist _ _), fun t ht => ?_, by show (s.l.drop _).length ≤ _; simp; omega⟩
        show adt s.now (atO s.now o) ≤ t.at'
        have ht' : t ∈ s.l.drop (ad s.now s.l (atO s.now o)) := ht
        unfold adt; unfold ad at ht'
        by_cases hp : perr s.now (atO s.now o) = 0
        · rw [if_pos hp] at ht' ⊢; have := drop_lt h1 ht'; omega
        · rw [if_neg hp] at ht' ⊢; exact h2 t (List.mem_of_mem_drop ht')
theorem runK {l : List OpC} (k : Nat) : okK k (runQ l k) := by
  induction k with
  | zero =>
    rw [run_0]
    refine ⟨List.Pairwise.nil, fun t ht => ?_, Nat.le_refl _⟩
    exact absurd ht List.not_mem_nil
  | succ k ih => exact stepK ih
/-- To advance in two steps. -/
theorem bh_two (h : a ≤ b) : bh l b = bh l a + bh (l.drop (bh l a)) b := by
  have h1 := bh_le (l := l) (a := a)
  have h2 := bh_le (l := l.drop (bh l a)) (a := b)
  rw [List.length_drop] at h2
  refine bh_eq (by omega) (fun i hi => ?_) ?_
  · by_cases hia : i < bh l a
    · have := bh_lt hia; omega
    · have := bh_lt (l := l.drop (bh l a)) (a := b) (i := i - bh l a) (by omega)
      rw [drop_getD, show bh l a + (i - bh l a) = i by omega] at this
      omega
  · by_cases hlt : bh (l.drop (bh l a)) b < (l.drop (bh l a)).length
    · have := bh_at hlt
      rw [drop_getD] at this
      exact .inr this
    · rw [List.length_drop] at hlt; exact .inl (by omega)
theorem ids_two (h : a ≤ b) : ids l (bh l a) ++ ids (l.drop (bh l a)) (bh (l.drop (bh l a)) b) = ids l (bh l b) := by
  have e := bh_two (l := l) h
  unfold ids
  rw [← List.map_append, ← List.take_add, e]
theorem bh_last (hs : srt l) (h : 0 < l.length) : bh l (l.getD (l.length - 1) default).at' = l.length := by
  refine bh_eq (Nat.le_refl _) (fun i hi => ?_) (.inl rfl)
  have := srt_le hs (show i ≤ l.length - 1 by omega) (by omega)
  omega

/-- What 'made' hands back, in one sentence. -/
theorem made_cases {l : List OpC} (hl : l.length < 2^45) (ho : ∀ o ∈ l, okC o) : ∃ (now : Int) (L : List Tm) (zr : Bool), (0 ≤ now ∧ now ≤ 1099511627776) ∧ (∀ t ∈ L, okT t) ∧ srt L ∧ (∀ t ∈ L, now ≤ t.at') ∧ L.length ≤ l.length ∧ L.length ≤ 1000 ∧
    ((L = [] ∧ ∀ z, ACall Try.prog 12 [.isl z (cR l) l.length] [] 0 (.tup [.pt 0 0, rQ zr now L, .val (.bool true)]) (q0 now)) ∨ ∀ z, ACall Try.prog 12 [.isl z (cR l) l.length] [] 0 (.tup [.pt 0 0, rQ zr now L, .val (.bool true)]) (q1 now L)) := by
  obtain ⟨h1, h2, h3, h4, h5⟩ := runQ_ok (l := l) l.length
  obtain ⟨g1, g2, g3⟩ := runK (l := l) l.length
  refine ⟨_, _, (runQ l l.length).zr, ⟨h2, h3⟩, h5, g1, g2, g3, h1, ?_⟩
  cases hz : (runQ l l.length).zp with
  | true => exact .inl ⟨h4 hz, fun z => made_t hl ho hz⟩
  | false => exact .inr fun z => made_f hl ho hz

variable {L : List Tm}
theorem sameT {L : List Tm} {z z2 : Bool} (h : L.length ≤ 1000) : ACall Try.prog 15 [.isl z (cR L) L.length, .isl z2 (cR L) L.length] [] 0 (.val (.bool true)) [] := by
  have := same_ok (z := z) (z2 := z2) h h
  rwa [decide_eq_true rfl] at this
def q1n (now : Int) (l : List Tm) (n : Nat) : List AObj := [.cells [.val (.int .i64 now), .sl 1 0 n 2] 63, .cells (cR l) 36]
theorem qn {n : Nat} (h : L.length = n) : q1 now L = q1n now L n := by subst h; rfl
def qVn (z : Bool) (now : Int) (l : List Tm) (n : Nat) : AV := .ipt [.val (.int .i64 now), .isl z (cR l) n] 0
theorem qvn {n : Nat} (h : L.length = n) : qV z now L = qVn z now L n := by subst h; rfl
end Go.Proofs.Ytipmfcpmbkopeaa
