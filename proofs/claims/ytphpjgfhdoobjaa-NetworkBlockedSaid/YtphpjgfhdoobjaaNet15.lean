/- The network: plain laws about bits, links, packets and operations. No condition. -/
import Derived.Test.YtphpjgfhdoobjaaNet13
import Derived.Test.YtphpjgfhdoobjaaSym24
set_option linter.unusedVariables false
set_option linter.unusedSectionVars false
set_option linter.unusedSimpArgs false
namespace Go.Proofs.Ytphpjgfhdoobjaa
open Go Go.Sy
variable {n a b : Int} {i j k len : Nat} {z z2 : Bool} {m : Msg} {c : Bool} {s : NS} {o : OpN} {l : List Pk} {f : List (List Int × Bool)} {next : Int} {B : List Bool}

theorem bt_bit {x : Nat} (hx : x < 65536) (hj : j < 16) : bt (x : Int) j = x.testBit j := by
  unfold bt andI shI
  rw [u_shr (by omega)]
  have hy : x >>> j < 65536 := Nat.lt_of_le_of_lt (Nat.shiftRight_le x j) hx
  have := u_and (x := x >>> j) (y := 1) hy (by decide)
  rw [show ((1 : Nat) : Int) = 1 from rfl] at this
  rw [this]
  exact Bool.eq_iff_iff.2 (by rw [decide_eq_true_eq]; exact bit_and)
theorem bt_or (ha : 0 ≤ a ∧ a ≤ 65535) (hb : 0 ≤ b ∧ b ≤ 65535) (hj : j < 16) : bt (orI a b) j = (bt a j || bt b j) := by
  obtain ⟨x, rfl⟩ := Int.eq_ofNat_of_zero_le ha.1
  obtain ⟨y, rfl⟩ := Int.eq_ofNat_of_zero_le hb.1
  have hx : x < 65536 := by omega
  have hy : y < 65536 := by omega
  unfold orI
  rw [u_or hx hy, bt_bit (Nat.or_lt_two_pow (n := 16) hx hy) hj, bt_bit hx hj, bt_bit hy hj, Nat.testBit_or]
theorem fit_iff (ha : 0 ≤ a ∧ a ≤ 65535) (hb : 0 ≤ b ∧ b ≤ 65535) : fitB n a b 16 ↔ fitR n a b 16 := by
  unfold fitB fitR
  constructor
  · intro h i hi hx; exact h i hi (by rw [bt_or ha hb hi]; simpa using hx)
  · intro h i hi hx; rw [bt_or ha hb hi] at hx; exact h i hi (by simpa using hx)

/-! ### places -/
def asc (l : List Pk) : Prop := ∀ i j : Nat, i < j → j < l.length → (l.getD i default).id < (l.getD j default).id
theorem at_id (h : asc l) (hi : i < l.length) : at' l (l.getD i default).id = i := by
  unfold at'
  refine ix_hit hi (fun k hk => decide_eq_false ?_) (decide_eq_true rfl)
  have := h k i hk hi; omega
theorem rm_get (hi : i < l.length) (hj : j < l.length - 1) : (rm l i).getD j default = l.getD (if j < i then j else j + 1) default := by
  unfold rm
  simp only [List.getD_eq_getElem?_getD]
  congr 1
  rw [List.getElem?_append]
  have hl : (l.take i).length = i := by rw [List.length_take]; omega
  rw [hl]
  split
  · rw [List.getElem?_take_of_lt (by assumption)]
  · rw [List.getElem?_drop]; congr 1; omega
theorem rm_asc (h : asc l) (hi : i < l.length) : asc (rm l i) := by
  intro p q hpq hq
  rw [rm_len hi] at hq
  rw [rm_get hi (by omega), rm_get hi hq]
  refine h _ _ ?_ ?_ <;> (split <;> (try split) <;> omega)
theorem rm_mem {t : Pk} (h : t ∈ rm l i) : t ∈ l := by
  unfold rm at h
  rcases List.mem_append.1 h with h | h
  · exact List.mem_of_mem_take h
  · exact List.mem_of_mem_drop h
theorem get_app {t : Pk} (hj : j < l.length) : (l ++ [t]).getD j default = l.getD j default := by
  simp only [List.getD_eq_getElem?_getD]
  rw [List.getElem?_append_left hj]
theorem get_last {t : Pk} : (l ++ [t]).getD l.length default = t := by
  simp [List.getD_eq_getElem?_getD]
theorem asc_app {t : Pk} (h : asc l) (ht : ∀ u ∈ l, u.id < t.id) : asc (l ++ [t]) := by
  intro p q hpq hq
  rw [List.length_append, List.length_singleton] at hq
  rcases Nat.lt_or_ge q l.length with h1 | h1
  · rw [get_app (by omega), get_app h1]; exact h p q hpq h1
  · have e : q = l.length := by omega
    subst e
    rw [get_app hpq, get_last]
    exact ht _ (mem_at hpq)
/-- The first packet to a party on an open link, sought among those to the party. -/
theorem hit_iff {p q : Pk → Bool} : ∀ (l : List Pk), (ix (fun t => p t && q t) l = -1 ↔ ∀ t ∈ l.filter p, q t = false) ∧
    (∀ i : Nat, ix (fun t => p t && q t) l = i → ∃ k, k < (l.filter p).length ∧ (l.filter p).getD k default = l.getD i default ∧ (∀ r, r < k → q ((l.filter p).getD r default) = false) ∧ q ((l.filter p).getD k default) = true) := by
  intro l
  induction l with
  | nil => exact ⟨⟨fun _ t ht => by simp at ht, fun _ => rfl⟩, fun i h => by unfold ix at h; simp at h⟩
  | cons t l ih =>
    obtain ⟨h1, h2⟩ := ih
    have hix : ix (fun t => p t && q t) (t :: l) = if (p t && q t) = true then 0 else if ix (fun t => p t && q t) l = -1 then -1 else ix (fun t => p t && q t) l + 1 := by
      unfold ix
      rw [List.findIdx?_cons]
      cases hpq : (p t && q t) with
      | true => simp
      | false =>
        cases hf : List.findIdx? (fun t => p t && q t) l with
        | none => simp
        | some v =>
          simp only [Bool.false_eq_true, if_false, Option.map_some, Int.natCast_add, Int.natCast_one]
          rw [if_neg (by omega)]
    rw [hix]
    cases hp : p t with
    | false =>
      rw [List.filter_cons_of_neg (by simp [hp])]
      simp only [hp, Bool.false_and, Bool.false_eq_true, if_false]
      refine ⟨⟨fun h => h1.1 (by split at h; assumption; (rename_i hne; have := ix_or (p := fun t => p t && q t) (l := l); omega)), fun h => by rw [if_pos (h1.2 h)]⟩, fun i hi => ?_⟩
      have hne : ix (fun t => p t && q t) l ≠ -1 := by intro e; rw [if_pos e] at hi; omega
      rw [if_neg hne] at hi
      obtain ⟨k, a1, a2, a3, a4⟩ := h2 (ix (fun t => p t && q t) l).toNat (ix_or.resolve_left hne)
      refine ⟨k, a1, ?_, a3, a4⟩
      rw [a2]
      have e : i = (ix (fun t => p t && q t) l).toNat + 1 := by have := ix_or (p := fun t => p t && q t) (l := l); omega
      rw [e, List.getD_cons_succ]
    | true =>
      rw [List.filter_cons_of_pos hp]
      cases hq : q t with
      | true =>
        simp only [hp, hq, Bool.and_self, if_true]
        refine ⟨⟨fun h => by omega, fun h => absurd (h t List.mem_cons_self) (by simp [hq])⟩, fun i hi => ⟨0, by simp, ?_, fun r hr => by omega, by simpa using hq⟩⟩
        have : i = 0 := by omega
        subst this; rfl
      | false =>
        simp only [hp, hq, Bool.and_false, Bool.false_eq_true, if_false]
        refine ⟨⟨fun h => ?_, fun h => ?_⟩, fun i hi => ?_⟩
        · have h0 := h1.1 (by split at h; assumption; (rename_i hne; have := ix_or (p := fun t => p t && q t) (l := l); omega))
          intro u hu
          rcases List.mem_cons.1 hu with rfl | hu
          · exact hq
          · exact h0 u hu
        · rw [if_pos (h1.2 (fun u hu => h u (List.mem_cons_of_mem _ hu)))]
        · have hne : ix (fun t => p t && q t) l ≠ -1 := by intro e; rw [if_pos e] at hi; omega
          rw [if_neg hne] at hi
          obtain ⟨k, a1, a2, a3, a4⟩ := h2 (ix (fun t => p t && q t) l).toNat (ix_or.resolve_left hne)
          have e : i = (ix (fun t => p t && q t) l).toNat + 1 := by have := ix_or (p := fun t => p t && q t) (l := l); omega
          refine ⟨k + 1, by simpa using a1, ?_, fun r hr => ?_, ?_⟩
          · rw [List.getD_cons_succ, a2, e, List.getD_cons_succ]
          · cases r with
            | zero => simpa using hq
            | succ r => rw [List.getD_cons_succ]; exact a3 r (by omega)
          · rw [List.getD_cons_succ]; exact a4
/-! ### links -/
theorem take_mem {α : Type} [Inhabited α] {l : List α} {x : α} (h : k < l.length) : x ∈ l.take (k + 1) ↔ x ∈ l.take k ∨ x = l.getD k default := by
  rw [List.take_add_one, List.mem_append, List.getElem?_eq_getElem h, Option.toList_some, List.mem_singleton, List.getD_eq_getElem?_getD, List.getElem?_eq_getElem h, Option.getD_some]
theorem pu2 {u v : Nat} {p q : Nat} : asB (puB (puB f [(p : Int), (q : Int)] c) [(q : Int), (p : Int)] c) [(u : Int), (v : Int)] = if (u = p ∧ v = q) ∨ (u = q ∧ v = p) then c else asB f [(u : Int), (v : Int)] := by
  rw [as_put, as_put]
  have e1 : ([(q : Int), (p : Int)] = [(u : Int), (v : Int)]) ↔ (u = q ∧ v = p) := by simp; omega
  have e2 : ([(p : Int), (q : Int)] = [(u : Int), (v : Int)]) ↔ (u = p ∧ v = q) := by simp; omega
  by_cases h1 : u = q ∧ v = p
  · rw [if_pos (e1.2 h1), if_pos (.inr h1)]
  · rw [if_neg (fun h => h1 (e1.1 h))]
    by_cases h2 : u = p ∧ v = q
    · rw [if_pos (e2.2 h2), if_pos (.inl h2)]
    · rw [if_neg (fun h => h2 (e2.1 h)), if_neg (fun h => h.elim h2 h1)]
theorem row_as {u v : Nat} : asB (rowF a b c f i k) [(u : Int), (v : Int)] = if bt a i = true ∧ ((u = i ∧ v < k ∧ bt b v = true) ∨ (v = i ∧ u < k ∧ bt b u = true)) then c else asB f [(u : Int), (v : Int)] := by
  induction k with
  | zero => rw [if_neg (by omega)]; rfl
  | succ k ih =>
    rw [rowF, lk]
    by_cases hb : bt a i = true ∧ bt b k = true
    · rw [if_pos hb, pu2, ih]
      by_cases h1 : (u = i ∧ v = k) ∨ (u = k ∧ v = i)
      · rw [if_pos h1, if_pos]
        refine ⟨hb.1, ?_⟩
        rcases h1 with ⟨rfl, rfl⟩ | ⟨rfl, rfl⟩
        · exact .inl ⟨rfl, by omega, hb.2⟩
        · exact .inr ⟨rfl, by omega, hb.2⟩
      · rw [if_neg h1]
        congr 1
        refine propext ⟨fun h => ⟨h.1, ?_⟩, fun h => ⟨h.1, ?_⟩⟩
        · rcases h.2 with h | h
          · exact .inl ⟨h.1, by omega, h.2.2⟩
          · exact .inr ⟨h.1, by omega, h.2.2⟩
        · rcases h.2 with h | h
          · exact .inl ⟨h.1, by omega, h.2.2⟩
          · exact .inr ⟨h.1, by omega, h.2.2⟩
    · rw [if_neg hb, ih]
      congr 1
      refine propext ⟨fun h => ⟨h.1, ?_⟩, fun h => ⟨h.1, ?_⟩⟩
      · rcases h.2 with h | h
        · exact .inl ⟨h.1, by omega, h.2.2⟩
        · exact .inr ⟨h.1, by omega, h.2.2⟩
      · rcases h.2 with h2 | h2
        · refine .inl ⟨h2.1, ?_, h2.2.2⟩
          have : v ≠ k := by rintro rfl; exact hb ⟨h.1, h2.2.2⟩
          omega
        · refine .inr ⟨h2.1, ?_, h2.2.2⟩
          have : u ≠ k := by rintro rfl; exact hb ⟨h.1, h2.2.2⟩
          omega
def lkd2 (a b : Int) (p u v : Nat) : Prop := (u < p ∧ bt a u = true ∧ v < 16 ∧ bt b v = true) ∨ (v < p ∧ bt a v = true ∧ u < 16 ∧ bt b u = true)
instance {a b : Int} {p u v : Nat} : Decidable (lkd2 a b p u v) := by unfold lkd2; infer_instance
theorem grid_as {u v p : Nat} : asB (gridF a b c f p) [(u : Int), (v : Int)] = if lkd2 a b p u v then c else asB f [(u : Int), (v : Int)] := by
  induction p with
  | zero => rw [if_neg (by unfold lkd2; omega)]; rfl
  | succ p ih =>
    rw [gridF, row_as, ih]
    by_cases h1 : bt a p = true ∧ ((u = p ∧ v < 16 ∧ bt b v = true) ∨ (v = p ∧ u < 16 ∧ bt b u = true))
    · rw [if_pos h1, if_pos]
      rcases h1.2 with ⟨rfl, h2, h3⟩ | ⟨rfl, h2, h3⟩
      · exact .inl ⟨by omega, h1.1, h2, h3⟩
      · exact .inr ⟨by omega, h1.1, h2, h3⟩
    · rw [if_neg h1]
      by_cases h2 : lkd2 a b p u v
      · rw [if_pos h2, if_pos]
        rcases h2 with h2 | h2
        · exact .inl ⟨by omega, h2.2⟩
        · exact .inr ⟨by omega, h2.2⟩
      · rw [if_neg h2, if_neg]
        rintro (h3 | h3)
        · by_cases e : u = p
          · subst e; exact h1 ⟨h3.2.1, .inl ⟨rfl, h3.2.2⟩⟩
          · exact h2 (.inl ⟨by omega, h3.2⟩)
        · by_cases e : v = p
          · subst e; exact h1 ⟨h3.2.1, .inr ⟨rfl, h3.2.2⟩⟩
          · exact h2 (.inr ⟨by omega, h3.2⟩)
theorem set_getD {B : List Bool} : (B.set i c).getD j false = if i = j ∧ j < B.length then c else B.getD j false := by
  simp only [List.getD_eq_getElem?_getD, List.getElem?_set]
  by_cases h : i = j
  · subst h
    by_cases h2 : i < B.length
    · simp [h2]
    · rw [if_pos rfl, if_neg h2, if_neg (by omega), List.getElem?_eq_none (by omega)]
  · rw [if_neg h, if_neg (by omega)]
theorem lkr_as {p q : Int} {u v : Nat} (hB : B.length = 324) (hp : 0 ≤ p ∧ p < 16) (hq : 0 ≤ q ∧ q < 16) (hu : u < 18) (hv : v < 18) : (lkR c B p q).getD (u * 18 + v) false = if ((u : Int) = p ∧ (v : Int) = q) ∨ ((u : Int) = q ∧ (v : Int) = p) then c else B.getD (u * 18 + v) false := by
  unfold lkR
  rw [set_getD, set_getD, List.length_set, hB]
  have e1 : (q.toNat * 18 + p.toNat = u * 18 + v ∧ u * 18 + v < 324) ↔ ((u : Int) = q ∧ (v : Int) = p) := by omega
  have e2 : (p.toNat * 18 + q.toNat = u * 18 + v ∧ u * 18 + v < 324) ↔ ((u : Int) = p ∧ (v : Int) = q) := by omega
  by_cases h1 : (u : Int) = q ∧ (v : Int) = p
  · rw [if_pos (e1.2 h1), if_pos (.inr h1)]
  · rw [if_neg (fun h => h1 (e1.1 h))]
    by_cases h2 : (u : Int) = p ∧ (v : Int) = q
    · rw [if_pos (e2.2 h2), if_pos (.inl h2)]
    · rw [if_neg (fun h => h2 (e2.1 h)), if_neg (fun h => h.elim h2 h1)]
theorem rowr_as {p : Int} {ns : List Int} {u v : Nat} (hB : B.length = 324) (hp : 0 ≤ p ∧ p < 16) (hq : ∀ x ∈ ns, 0 ≤ x ∧ x < 16) (hk : k ≤ ns.length) (hu : u < 18) (hv : v < 18) :
    (rowR c p ns B k).getD (u * 18 + v) false = if ((u : Int) = p ∧ (v : Int) ∈ ns.take k) ∨ ((v : Int) = p ∧ (u : Int) ∈ ns.take k) then c else B.getD (u * 18 + v) false := by
  induction k with
  | zero => rw [if_neg (by simp)]; rfl
  | succ k ih =>
    have hkl : k < ns.length := by omega
    rw [rowR, lkr_as (by rw [rowr_len, hB]) hp (hq _ (mem_at hkl)) hu hv, ih (by omega)]
    have hm : ∀ x : Int, x ∈ ns.take (k + 1) ↔ x ∈ ns.take k ∨ x = ns.getD k default := fun x => take_mem hkl
    simp only [hm]
    by_cases h1 : ((u : Int) = p ∧ (v : Int) = ns.getD k default) ∨ ((u : Int) = ns.getD k default ∧ (v : Int) = p)
    · rw [if_pos h1, if_pos]
      rcases h1 with h1 | h1
      · exact .inl ⟨h1.1, .inr h1.2⟩
      · exact .inr ⟨h1.2, .inr h1.1⟩
    · rw [if_neg h1]
      congr 1
      refine propext ⟨fun h => ?_, fun h => ?_⟩
      · rcases h with h | h
        · exact .inl ⟨h.1, .inl h.2⟩
        · exact .inr ⟨h.1, .inl h.2⟩
      · rcases h with ⟨h2, h3 | h3⟩ | ⟨h2, h3 | h3⟩
        · exact .inl ⟨h2, h3⟩
        · exact absurd (.inl ⟨h2, h3⟩) h1
        · exact .inr ⟨h2, h3⟩
        · exact absurd (.inr ⟨h3, h2⟩) h1
theorem gridr_as {us ns : List Int} {u v p : Nat} (hB : B.length = 324) (hp : ∀ x ∈ us, 0 ≤ x ∧ x < 16) (hq : ∀ x ∈ ns, 0 ≤ x ∧ x < 16) (hk : p ≤ us.length) (hu : u < 18) (hv : v < 18) :
    (gridR c us ns B p).getD (u * 18 + v) false = if ((u : Int) ∈ us.take p ∧ (v : Int) ∈ ns) ∨ ((v : Int) ∈ us.take p ∧ (u : Int) ∈ ns) then c else B.getD (u * 18 + v) false := by
  induction p with
  | zero => rw [if_neg (by simp)]; rfl
  | succ p ih =>
    have hkl : p < us.length := by omega
    rw [gridR, rowr_as (by rw [gridr_len, hB]) (hp _ (mem_at hkl)) hq (Nat.le_refl _) hu hv, ih (by omega), List.take_length]
    have hm : ∀ x : Int, x ∈ us.take (p + 1) ↔ x ∈ us.take p ∨ x = us.getD p default := fun x => take_mem hkl
    simp only [hm]
    by_cases h1 : ((u : Int) = us.getD p default ∧ (v : Int) ∈ ns) ∨ ((v : Int) = us.getD p default ∧ (u : Int) ∈ ns)
    · rw [if_pos h1, if_pos]
      rcases h1 with h1 | h1
      · exact .inl ⟨.inr h1.1, h1.2⟩
      · exact .inr ⟨.inr h1.1, h1.2⟩
    · rw [if_neg h1]
      congr 1
      refine propext ⟨fun h => ?_, fun h => ?_⟩
      · rcases h with h | h
        · exact .inl ⟨.inl h.1, h.2⟩
        · exact .inr ⟨.inl h.1, h.2⟩
      · rcases h with ⟨h3 | h3, h2⟩ | ⟨h3 | h3, h2⟩
        · exact .inl ⟨h3, h2⟩
        · exact absurd (.inl ⟨h3, h2⟩) h1
        · exact .inr ⟨h3, h2⟩
        · exact absurd (.inr ⟨h3, h2⟩) h1
theorem ms_has {u : Nat} : (u : Int) ∈ ms a 16 ↔ u < 16 ∧ bt a u = true := by
  rw [ms_mem]
  constructor
  · rintro ⟨i, h1, h2, h3⟩
    have : u = i := by omega
    subst this; exact ⟨h1, h2⟩
  · rintro ⟨h1, h2⟩; exact ⟨u, h1, h2, rfl⟩
def lkOk (f : List (List Int × Bool)) (B : List Bool) : Prop := ∀ u v : Nat, u < 18 → v < 18 → B.getD (u * 18 + v) false = asB f [(u : Int), (v : Int)]
theorem lk_block (hB : B.length = 324) (h : lkOk f B) : lkOk (gridF a b c f 16) (gridR c (ms a 16) (ms b 16) B (ms a 16).length) := by
  intro u v hu hv
  rw [grid_as, gridr_as hB (fun x hx => ms_in hx) (fun x hx => ms_in hx) (Nat.le_refl _) hu hv, h u v hu hv]
  simp only [List.take_length, ms_has]
  congr 1
  unfold lkd2
  refine propext ⟨fun h => ?_, fun h => ?_⟩
  · rcases h with h | h
    · exact .inl ⟨h.1.1, h.1.2, h.2.1, h.2.2⟩
    · exact .inr ⟨h.1.1, h.1.2, h.2.1, h.2.2⟩
  · rcases h with h | h
    · exact .inl ⟨⟨h.1, h.2.1⟩, h.2.2.1, h.2.2.2⟩
    · exact .inr ⟨⟨h.1, h.2.1⟩, h.2.2.1, h.2.2.2⟩
end Go.Proofs.Ytphpjgfhdoobjaa
