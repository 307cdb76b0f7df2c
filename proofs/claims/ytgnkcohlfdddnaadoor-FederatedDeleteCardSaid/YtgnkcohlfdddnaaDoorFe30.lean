/- Deletion: no error, both the same, and what one member's slices hold. No condition. -/
import Derived.Test.YtgnkcohlfdddnaaDoorFeM
import Derived.Test.YtgnkcohlfdddnaaDoorBpB
set_option linter.unusedVariables false
set_option linter.unusedSectionVars false
set_option linter.unusedSimpArgs false
set_option maxHeartbeats 1000000
set_option maxRecDepth 20000
namespace Go.Proofs.YtgnkcohlfdddnaaDoor
open Go Go.Sy Go.Bp
variable {n i j k m q s d c L : Nat} {l : List Ex} {x : Ex} {mk : Nd → List Int → Nd}
theorem core_mk (n : Nd) (ks : List Int) : core (mkP n ks) = core (mkR n ks) := rfl
theorem subE_sim (x : Ex) (l : List Ex) : sameX (subE mkP x l).1 (subE mkR x l).1 = true := by
  unfold subE
  split
  · exact sameX_refl _
  · split
    · exact sameX_refl _
    · split
      · exact sameX_refl _
      · have h := growX_sim (mk := mkP) (mk' := mkR) core_mk x l
        have hl := h.len
        unfold sameX
        dsimp only
        rw [hl]
        unfold Bp.Sim at h
        rw [h]; simp
theorem far_con {b : Bool} (h : 0 < L) : farX L (conE b) = false := by
  unfold farX
  rw [List.any_eq_false]
  intro t ht
  have : t.server = 0 := by cases b <;> (rcases List.mem_cons.1 ht with rfl | h; rfl; cases h)
  simp only [farN, decide_eq_true_eq, this]; omega
theorem far_at (h : farX L x = false) (hj : j < x.nodes.length) : (x.nodes.getD j default).server < L := by
  unfold farX at h
  rw [List.any_eq_false] at h
  have := h _ (getD_mem (d := default) hj)
  simp only [farN, decide_eq_true_eq] at this
  omega
theorem sub_far (hm : MkOk mk) (hv : validE x = 0) (hpos : 0 < L) (h12 : L ≤ 12) (hb : bigX x = false) (hf : farX L x = false) : farX L (subE mk x (delT d L)).1 = false := by
  have hx := validE_ok hv
  have hT := delT_ok (d := d) h12
  have h3 : ¬ 61 ≤ size 61 (ofP (delT d L)) x := by rw [ofP_delT hpos]; exact of_decide_eq_false hb
  rw [subE_4 hv (listE_of hT) h3]
  have hg := growX_ok (h := fun _ => false) (Pn := fun t => t.server < L) (l := delT d L) hm hx hT (fun y hy j hj ks _ => by
    show (mk _ ks).server < L
    rw [hm.srv]
    rcases hy with rfl | hy
    · exact far_at hf hj
    · refine far_at ?_ hj
      obtain ⟨i, hi, rfl⟩ := List.getElem_of_mem hy
      have hi2 : i < L := by rw [delT_len] at hi; exact hi
      have e := delT_at (d := d) hi2
      rw [List.getD_eq_getElem?_getD, List.getElem?_eq_getElem hi, Option.getD_some] at e
      rw [e]
      split
      · exact far_con hpos
      · unfold farX
        rw [List.any_eq_false]
        intro t ht
        have : t.server = i := by rcases List.mem_cons.1 ht with rfl | h; rfl; cases h
        simp only [farN, decide_eq_true_eq, this]; omega)
  unfold farX
  rw [List.any_eq_false]
  intro t ht
  obtain ⟨j, hj, rfl⟩ := List.getElem_of_mem ht
  have := (hg.ok j (Nat.zero_le _) hj).2
  rw [List.getD_eq_getElem?_getD, List.getElem?_eq_getElem hj, Option.getD_some] at this
  dsimp only at this
  simp only [farN, decide_eq_true_eq]
  exact Int.not_le.2 this
theorem any_f {α : Type} [Inhabited α] {p : α → Bool} {l : List α} (h : l.any p = false) (hi : i < l.length) : p (l.getD i default) = false := by
  rw [List.any_eq_false] at h
  have := h _ (getD_mem (d := default) hi)
  simpa using this
theorem FOk.far (h : FOk l n) (hi : i < n) : farX n (l.getD i default) = false := by
  have h1 := h.fv
  have hl := h.len
  unfold fvE at h1
  split at h1
  · exact absurd h1 (by decide)
  · split at h1
    · exact absurd h1 (by decide)
    · split at h1
      · rename_i h2 h3 h4; exact absurd h1 h4
      · split at h1
        · exact absurd h1 (by decide)
        · rename_i h2
          rw [hl, Bool.not_eq_true] at h2
          exact any_f h2 (by omega)
theorem FOk.del_fv (h : FOk l n) (hm : MkOk mk) : fvE (delL mk l (delT d n) d n) = 0 := by
  have hp := h.pos; have hle := h.le
  have hl := del_LOk (d := d) hm h.ok h.len (fun i hi _ => h.big i hi)
  refine fvE_0 hl.pos hl.le (listE_of fun y hy => ?_) ?_
  · obtain ⟨i, hi, rfl⟩ := List.getElem_of_mem hy
    have := (hl.ok i hi).1
    rw [List.getD_eq_getElem?_getD, List.getElem?_eq_getElem hi, Option.getD_some] at this
    exact validE_ok this
  · rw [List.any_eq_false, delL_len]
    intro y hy
    obtain ⟨i, hi, rfl⟩ := List.getElem_of_mem hy
    have hi2 : i < n := by rw [delL_len] at hi; exact hi
    have e := delL_at (mk := mk) (l := l) (T := delT d n) (d := d) hi2
    rw [List.getD_eq_getElem?_getD, List.getElem?_eq_getElem hi, Option.getD_some] at e
    rw [e]
    unfold delY
    split
    · rw [far_con hp]; simp
    · rw [sub_far hm (h.ok.ok i (by rw [h.len]; exact hi2)).1 hp (by omega) (h.big i hi2) (h.far hi2)]; simp
theorem del_same (hi : i < n) : sameX ((delL mkP l (delT d n) d n).getD i default) ((delL mkR l (delT d n) d n).getD i default) = true := by
  rw [delL_at hi, delL_at hi]
  unfold delY
  split
  · exact sameX_refl _
  · exact subE_sim _ _
def oneA (l : List Ex) (i k : Nat) : List Ex := (List.range l.length).map fun j => if j < k ∧ j ≠ i then conE true else l.getD j default
theorem oneA_len : (oneA l i k).length = l.length := by simp [oneA]
theorem oneA_at (hj : j < l.length) : (oneA l i k).getD j default = if j < k ∧ j ≠ i then conE true else l.getD j default := by
  unfold oneA
  rw [List.getD_eq_getElem?_getD, List.getElem?_map, List.getElem?_range hj]; rfl
theorem oneA_0 : oneA l i 0 = l := by
  apply List.ext_getElem (by rw [oneA_len])
  intro j h1 h2
  have := oneA_at (i := i) (k := 0) h2
  rw [if_neg (by omega)] at this
  rw [List.getD_eq_getElem?_getD, List.getElem?_eq_getElem h1, Option.getD_some] at this
  rw [List.getD_eq_getElem?_getD, List.getElem?_eq_getElem h2, Option.getD_some] at this
  exact this
theorem ext_D {a b : List Ex} (hl : a.length = b.length) (h : ∀ j, j < a.length → a.getD j default = b.getD j default) : a = b := by
  apply List.ext_getElem hl
  intro j h1 h2
  have := h j h1
  rw [List.getD_eq_getElem?_getD, List.getElem?_eq_getElem h1, Option.getD_some] at this
  rw [List.getD_eq_getElem?_getD, List.getElem?_eq_getElem h2, Option.getD_some] at this
  exact this
theorem oneA_i : oneA l i (i + 1) = oneA l i i := ext_D (by rw [oneA_len, oneA_len]) fun j hj => by
  rw [oneA_len] at hj
  rw [oneA_at hj, oneA_at hj]
  by_cases e : j = i
  · rw [if_neg (by omega), if_neg (by omega)]
  · by_cases e2 : j < i
    · rw [if_pos (by omega), if_pos (by omega)]
    · rw [if_neg (by omega), if_neg (by omega)]
theorem splR_at {a : Ex} {l : List Ex} (hk : k < l.length) (hj : j < l.length) : (Go.Sy.splR l k [a]).getD j default = if j = k then a else l.getD j default := by
  unfold Go.Sy.splR
  have e0 : (l.take k).length = k := by simp; omega
  by_cases h1 : j < k
  · rw [if_neg (by omega), getD_app1 (by omega), List.getD_eq_getElem?_getD, List.getElem?_take_of_lt h1, ← List.getD_eq_getElem?_getD]
  · by_cases h2 : j = k
    · subst h2
      rw [if_pos rfl, List.getD_eq_getElem?_getD, List.getElem?_append_right (by omega), e0]; simp
    · rw [if_neg h2, List.getD_eq_getElem?_getD, List.getElem?_append_right (by omega), e0, List.getElem?_append_right (by simp; omega), List.getElem?_drop, List.getD_eq_getElem?_getD]
      congr 2
      simp; omega
theorem oneA_s (hk : k < l.length) (h : k ≠ i) : Go.Sy.splR (oneA l i k) k [conE true] = oneA l i (k + 1) := ext_D (by rw [oneA_len]; unfold Go.Sy.splR; simp [oneA_len]; omega) fun j hj => by
  have hj : j < l.length := by unfold Go.Sy.splR at hj; simp [oneA_len] at hj; omega
  rw [splR_at (by rw [oneA_len]; exact hk) (by rw [oneA_len]; exact hj), oneA_at hj, oneA_at hj]
  by_cases e : j = k
  · subst e; rw [if_pos rfl, if_pos (by omega)]
  · rw [if_neg e]
    by_cases e2 : j < k ∧ j ≠ i
    · rw [if_pos e2, if_pos (by omega)]
    · rw [if_neg e2, if_neg (by omega)]
theorem one_LOk (h : LOk l) : LOk (oneA l i k) := by
  refine ⟨by rw [oneA_len]; exact h.pos, by rw [oneA_len]; exact h.le, fun j hj => ?_⟩
  rw [oneA_len] at hj
  rw [oneA_at hj]
  split
  · exact ⟨validE_of xok_con, short_conE, ks_con⟩
  · exact h.ok j hj
theorem one_isQ (hi : i < l.length) (hs : ∀ j, bit s j = true → j < l.length) (hb : bit s i = true) : isQ (oneA l i l.length) s = satP l s i := by
  have h0 : ¬ s % 65536 = 0 := ne_bit.2 ⟨i, bit_lt hb, hb⟩
  unfold isQ
  rw [decide_eq_false h0, Bool.not_false, Bool.and_true, Bool.eq_iff_iff, List.all_eq_true, oneA_len]
  have hsat : ∀ j, j < l.length → satP (oneA l i l.length) s j = if j = i then satP l s i else true := fun j hj => by
    unfold satP
    rw [oneA_at hj]
    by_cases e : j = i
    · subst e; rw [if_neg (by omega), if_pos rfl]
    · rw [if_pos ⟨hj, e⟩, if_neg e, hold_con]
  refine ⟨fun h => ?_, fun h j hj => ?_⟩
  · have := h i (List.mem_range.2 hi)
    rw [hb, hsat i hi, if_pos rfl] at this
    simpa using this
  · rw [hsat j (List.mem_range.1 hj)]
    split
    · rw [h]; simp
    · simp
def wantA (l : List Ex) (t s k : Nat) : Bool := !decide (t % 65536 = 0) && (List.range k).all fun i => !bit t i || satP l (sor t s) i
theorem wantA_0 : wantA l i s 0 = !decide (i % 65536 = 0) := by simp [wantA]
theorem wantA_s {t : Nat} : wantA l t s (k + 1) = (wantA l t s k && (!bit t k || satP l (sor t s) k)) := by
  unfold wantA
  rw [List.range_succ, List.all_append, Bool.and_assoc]; simp
theorem wantA_f {t : Nat} (h : bit t k = false) : wantA l t s (k + 1) = wantA l t s k := by rw [wantA_s, h]; simp
theorem wantA_t {t : Nat} (h : bit t k = true) : wantA l t s (k + 1) = (wantA l t s k && satP l (sor t s) k) := by rw [wantA_s, h]; simp
theorem FOk.del_want (h : FOk l n) (hm : MkOk mk) {t : Nat} (ht : ∀ i, bit t i = true → i < n) (hs : ∀ i, bit s i = true → i < n) (hd : ∀ i, bit t i = true → bit s i = false) : isQ (delL mk l (delT s n) s n) t = wantA l t s n := by
  unfold wantA
  by_cases h0 : t % 65536 = 0
  · rw [decide_eq_true h0, Bool.not_true, Bool.false_and]
    unfold isQ
    rw [decide_eq_true h0, Bool.not_true, Bool.and_false]
  · rw [decide_eq_false h0, Bool.not_false, Bool.true_and, del_isQ hm h.ok h.len (fun i hi _ => h.big i hi) hs ht h0]
    unfold quoP
    have hN : ∀ i, i ∈ memN t 16 ↔ bit t i = true := fun i => by
      rw [memN_mem]
      exact ⟨fun hi => by unfold bit; rw [mod_bit hi.1]; exact hi.2, fun hb => ⟨bit_lt hb, by rw [← mod_bit (bit_lt hb)]; exact hb⟩⟩
    rw [Bool.eq_iff_iff, Bool.and_eq_true, List.all_eq_true, List.all_eq_true, List.all_eq_true]
    refine ⟨fun g i hi => ?_, fun g => ⟨fun i hi => ?_, fun i hi => ?_⟩⟩
    · cases hb : bit t i with
      | false => rfl
      | true => rw [g.2 i ((hN i).2 hb)]; rfl
    · rw [hd i ((hN i).1 hi)]; rfl
    · have := g i (List.mem_range.2 (ht i ((hN i).1 hi)))
      rw [(hN i).1 hi] at this
      simpa using this
end Go.Proofs.YtgnkcohlfdddnaaDoor
