/- The network: plain laws for NetworkBlocked. No condition. -/
import Derived.Test.YtphpjgfhdoobjaaNet15
set_option linter.unusedVariables false
set_option linter.unusedSectionVars false
set_option linter.unusedSimpArgs false
set_option maxHeartbeats 8000000
set_option maxRecDepth 20000
namespace Go.Proofs.Ytphpjgfhdoobjaa
open Go Go.Sy
attribute [local irreducible] AO AL AC OpT ACall Ends DGo DRun Thn Blk Nxt
variable {n a b v : Int} {i j k t d len p kk : Nat} {z z2 : Bool} {m : Msg} {l : List Pk} {next : Int} {f : List (List Int × Bool)}

def fk (k i : Nat) : Nat := i / k
def mk (k i : Nat) : Nat := i % k
theorem fk_def : (i : Int) / (k : Int) = ((fk k i : Nat) : Int) := rfl
theorem mk_def : (i : Int) % (k : Int) = ((mk k i : Nat) : Int) := rfl
theorem fk_lt (h : i < k * k) : fk k i < k := Nat.div_lt_of_lt_mul h
theorem mk_lt (h : 0 < k) : mk k i < k := Nat.mod_lt _ h
def bm (k i : Nat) : Msg := { (default : Msg) with fr := (fk k i : Nat), to := (mk k i : Nat) }
theorem bmc : mC (bm k i) = [.val (.int .i64 0), .val (.int .i64 (fk k i : Nat)), .val (.int .i64 (mk k i : Nat)), .val (.int .i64 0), .val (.int .i64 0), .val (.string ⟨#[]⟩), .val (.int .i64 0), .val (.int .i64 0), .val (.int .i64 0), .val (.int .i64 0), .val (.int .i64 0), .val (.string ⟨#[]⟩), .val (.string ⟨#[]⟩), .isl true [] 0, .isl true [] 0, .val (.int .i64 0), .val (.string ⟨#[]⟩), .isl true [] 0, .isl true [] 0, .isl true [] 0, .isl true [] 0] := rfl
def bp (k i : Nat) : Pk := ⟨i, (fk k i : Nat), (mk k i : Nat), bm k i⟩
def bq (k n : Nat) : List Pk := (List.range n).map (bp k)
theorem bq_len : (bq k d).length = d := by simp [bq]
theorem bq_s : bq k (d + 1) = bq k d ++ [⟨(d : Int), (bm k d).fr, (bm k d).to, bm k d⟩] := by unfold bq; rw [List.range_succ, List.map_append]; rfl
theorem bq_at (h : i < d) : (bq k d).getD i default = bp k i := by
  unfold bq; rw [List.getD_eq_getElem?_getD, List.getElem?_map, List.getElem?_range h]; rfl
theorem bq_mem {q : Pk} (h : q ∈ bq k d) : ∃ i, i < d ∧ q = bp k i := by
  unfold bq at h
  obtain ⟨i, hi, rfl⟩ := List.mem_map.1 h
  exact ⟨i, List.mem_range.1 hi, rfl⟩
theorem bq_asc : asc (bq k d) := fun i j h1 h2 => by
  rw [bq_len] at h2
  rw [bq_at (by omega), bq_at h2]
  show (i : Int) < (j : Int); omega
/-! ### sets of few bits -/
theorem low_bit {x : Nat} (hx : x < 65536) (hk : k ≤ 16) (hi : i < 16) : bt (andI (x : Int) ((2 ^ k : Nat) - 1 : Int)) i = (decide (i < k) && bt (x : Int) i) := by
  have hp : 2 ^ k ≤ 65536 := Nat.pow_le_pow_right (by decide) hk
  have h1 : 0 < 2 ^ k := Nat.two_pow_pos k
  have e : ((2 ^ k : Nat) - 1 : Int) = ((2 ^ k - 1 : Nat) : Int) := by omega
  unfold andI
  rw [e, u_and hx (by omega), bt_bit (Nat.lt_of_le_of_lt Nat.and_le_left hx) hi, bt_bit hx hi, Nat.testBit_and, Nat.testBit_two_pow_sub_one, Bool.and_comm]
theorem low_rng {x : Nat} (hx : x < 65536) (hk : k ≤ 16) : 0 ≤ andI (x : Int) ((2 ^ k : Nat) - 1 : Int) ∧ andI (x : Int) ((2 ^ k : Nat) - 1 : Int) ≤ 65535 := by
  have hp : 2 ^ k ≤ 65536 := Nat.pow_le_pow_right (by decide) hk
  have h1 : 0 < 2 ^ k := Nat.two_pow_pos k
  have e : ((2 ^ k : Nat) - 1 : Int) = ((2 ^ k - 1 : Nat) : Int) := by omega
  unfold andI
  rw [e, u_and hx (by omega)]
  have : x &&& (2 ^ k - 1) < 65536 := Nat.lt_of_le_of_lt Nat.and_le_left hx
  omega
/-- A set of the first k numbers. -/
def few (k : Nat) (a : Int) : Prop := (0 ≤ a ∧ a ≤ 65535) ∧ ∀ i, i < 16 → bt a i = true → i < k
theorem few_low (ha : 0 ≤ a ∧ a ≤ 65535) (hk : k ≤ 16) : few k (andI a ((2 ^ k : Nat) - 1 : Int)) := by
  obtain ⟨x, rfl⟩ := Int.eq_ofNat_of_zero_le ha.1
  have hx : x < 65536 := by omega
  refine ⟨low_rng hx hk, fun i hi h => ?_⟩
  rw [low_bit hx hk hi, Bool.and_eq_true] at h
  exact of_decide_eq_true h.1
theorem few_fit (ha : few k a) (hb : few k b) : fitB k a b 16 := by
  rw [fit_iff ha.1 hb.1]
  intro i hi h
  have : i < k := by
    rcases h with h | h
    · exact ha.2 i hi h
    · exact hb.2 i hi h
  unfold pty; simp; omega
def shut (a b : Int) (u v : Nat) : Bool := (bt a u && bt b v) || (bt b u && bt a v)
theorem shut_iff (hu : i < 16) (hv : j < 16) : lkd2 a b 16 i j ↔ shut a b i j = true := by
  unfold lkd2 shut
  rw [Bool.or_eq_true, Bool.and_eq_true, Bool.and_eq_true]
  constructor
  · rintro (h | h)
    · exact .inl ⟨h.2.1, h.2.2.2⟩
    · exact .inr ⟨h.2.2.2, h.2.1⟩
  · rintro (h | h)
    · exact .inl ⟨hu, h.1, hv, h.2⟩
    · exact .inr ⟨hv, h.2, hu, h.1⟩
theorem shut_as (hu : i < 16) (hv : j < 16) : asB (gridF a b true [] 16) [(i : Int), (j : Int)] = shut a b i j := by
  rw [grid_as]
  by_cases h : lkd2 a b 16 i j
  · rw [if_pos h, (shut_iff hu hv).1 h]
  · rw [if_neg h]
    cases hs : shut a b i j with
    | true => exact absurd ((shut_iff hu hv).2 hs) h
    | false => rfl
theorem open_as (hu : i < 16) (hv : j < 16) : asB (gridF a b false (gridF a b true [] 16) 16) [(i : Int), (j : Int)] = false := by
  rw [grid_as]
  by_cases h : lkd2 a b 16 i j
  · rw [if_pos h]
  · rw [if_neg h, grid_as, if_neg h]; rfl
/-! ### what is still under way -/
def rest (a b : Int) (k kk i : Nat) : List Pk := (bq k kk).filter fun p => decide ((i : Int) ≤ p.id) || shut a b p.fr.toNat p.to.toNat
theorem rest_0 : rest a b k kk 0 = bq k kk := by
  unfold rest
  rw [List.filter_eq_self]
  intro p hp
  obtain ⟨i, hi, rfl⟩ := bq_mem hp
  rw [Bool.or_eq_true]; exact .inl (decide_eq_true (by show ((0 : Nat) : Int) ≤ (i : Int); omega))
theorem rest_sub : ∀ p ∈ rest a b k kk i, p ∈ bq k kk := fun p hp => (List.mem_filter.1 hp).1
theorem rest_le : (rest a b k kk i).length ≤ kk := by
  have := List.length_filter_le (fun p : Pk => decide ((i : Int) ≤ p.id) || shut a b p.fr.toNat p.to.toNat) (bq k kk)
  rwa [bq_len] at this
theorem filter_asc {q : Pk → Bool} (h : asc l) : asc (l.filter q) := by
  induction l with
  | nil => exact fun i j _ h => absurd h (Nat.not_lt_zero _)
  | cons t l ih =>
    have hl : asc l := fun i j h1 h2 => h (i + 1) (j + 1) (by omega) (by simpa using h2)
    have ht : ∀ u ∈ l, t.id < u.id := fun u hu => by
      obtain ⟨j, hj, rfl⟩ := List.mem_iff_getElem.1 hu
      have := h 0 (j + 1) (by omega) (by simpa using hj)
      simpa [List.getD_eq_getElem?_getD, hj] using this
    cases hq : q t with
    | false => rw [List.filter_cons_of_neg (by simp [hq])]; exact ih hl
    | true =>
      rw [List.filter_cons_of_pos hq]
      intro i j h1 h2
      have hj : ∃ j', j = j' + 1 := ⟨j - 1, by omega⟩
      obtain ⟨j', rfl⟩ := hj
      have h2' : j' < (l.filter q).length := by simpa using h2
      rw [List.getD_cons_succ]
      cases i with
      | zero => exact ht _ ((List.mem_filter.1 (mem_at h2')).1)
      | succ i => rw [List.getD_cons_succ]; exact ih hl i j' (by omega) h2'
theorem rest_shut (h : shut a b (fk k i) (mk k i) = true) : rest a b k kk (i + 1) = rest a b k kk i := by
  unfold rest
  refine List.filter_congr (fun p hp => ?_)
  obtain ⟨q, hq, rfl⟩ := bq_mem hp
  show (decide (((i + 1 : Nat) : Int) ≤ (q : Int)) || shut a b (fk k q) (mk k q)) = (decide ((i : Int) ≤ (q : Int)) || shut a b (fk k q) (mk k q))
  by_cases e : q = i
  · subst e; rw [h, Bool.or_true, Bool.or_true]
  · congr 2
    exact propext (by omega)
theorem rest_asc : asc (rest a b k kk i) := by unfold rest; exact filter_asc bq_asc
theorem rest_at (hi : i < kk) : ∃ q : Nat, at' (rest a b k kk i) i = q ∧ (rest a b k kk i).getD q default = bp k i := by
  have hm : bp k i ∈ rest a b k kk i := by
    unfold rest
    rw [List.mem_filter]
    refine ⟨by rw [← bq_at hi]; exact mem_at (by rw [bq_len]; exact hi), ?_⟩
    rw [Bool.or_eq_true]; exact .inl (decide_eq_true (Int.le_refl _))
  obtain ⟨q, hq, e⟩ := List.mem_iff_getElem.1 hm
  have eg : (rest a b k kk i).getD q default = bp k i := by simpa [List.getD_eq_getElem?_getD, hq] using e
  refine ⟨q, ?_, eg⟩
  have := at_id (rest_asc (a := a) (b := b) (k := k) (kk := kk) (i := i)) hq
  rw [eg] at this
  exact this
theorem rm_eq {l : List Pk} (h : asc l) (hi : i < l.length) : rm l i = l.filter fun p => decide (p.id ≠ (l.getD i default).id) := by
  have e : l = l.take i ++ l.getD i default :: l.drop (i + 1) := by
    have : l.drop i = l.getD i default :: l.drop (i + 1) := by
      rw [List.drop_eq_getElem_cons hi]; simp [List.getD_eq_getElem?_getD, hi]
    rw [← this, List.take_append_drop]
  have h1 : ∀ p ∈ l.take i, p.id ≠ (l.getD i default).id := fun p hp => by
    obtain ⟨j, hj, rfl⟩ := List.mem_take_iff_getElem.1 hp
    have := h j i (by omega) hi
    rw [List.getD_eq_getElem?_getD, List.getElem?_eq_getElem (show j < l.length by omega), Option.getD_some] at this
    omega
  have h2 : ∀ p ∈ l.drop (i + 1), p.id ≠ (l.getD i default).id := fun p hp => by
    obtain ⟨j, hj, rfl⟩ := List.mem_drop_iff_getElem.1 hp
    have := h i (i + 1 + j) (by omega) (by omega)
    have e2 : l.getD (i + 1 + j) default = l[i + 1 + j]'(by omega) := by
      rw [List.getD_eq_getElem?_getD, List.getElem?_eq_getElem (show i + 1 + j < l.length by omega), Option.getD_some]
    rw [e2] at this
    have e3 : (l[j + (i + 1)]'(by omega)) = l[i + 1 + j]'(by omega) := by congr 1; omega
    first | (rw [e3]; omega) | omega
  generalize hx : l.getD i default = x at *
  unfold rm
  conv => rhs; rw [e]
  rw [List.filter_append, List.filter_cons_of_neg (by simp)]
  rw [List.filter_eq_self.2 (fun p hp => decide_eq_true (h1 p hp)), List.filter_eq_self.2 (fun p hp => decide_eq_true (h2 p hp))]
theorem rest_open {q : Nat} (hi : i < kk) (h : shut a b (fk k i) (mk k i) = false) (hq : at' (rest a b k kk i) i = q) (hg : (rest a b k kk i).getD q default = bp k i) : rm (rest a b k kk i) q = rest a b k kk (i + 1) := by
  rw [rm_eq rest_asc (ix_lt hq), hg]
  unfold rest
  rw [List.filter_filter]
  refine List.filter_congr (fun p hp => ?_)
  obtain ⟨w, hw, rfl⟩ := bq_mem hp
  show (decide ((w : Int) ≠ (i : Int)) && (decide ((i : Int) ≤ (w : Int)) || shut a b (fk k w) (mk k w))) = (decide (((i + 1 : Nat) : Int) ≤ (w : Int)) || shut a b (fk k w) (mk k w))
  by_cases e : w = i
  · subst e; rw [h]; simp; omega
  · rw [decide_eq_true (by omega), Bool.true_and]
    congr 2
    exact propext (by omega)
end Go.Proofs.Ytphpjgfhdoobjaa
