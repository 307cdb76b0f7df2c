/- DgA: Dg1 Dg2 Dg3 Dg4 Dg5 Dg6 Dg7 Dg8, merged. No condition. -/
import Derived.Test.YtabafldpnkjboaaDoorBpB
/- Dg1. -/
set_option linter.unusedVariables false
set_option linter.unusedSectionVars false
set_option linter.unusedSimpArgs false
namespace Go.Dg

structure Fo where
  v : Nat
  lo : Nat
  hi : Nat
deriving DecidableEq
instance : Inhabited Fo := ⟨⟨0, 0, 0⟩⟩
variable {F G D e : List Fo} {f : Fo} {n m i j k s t r u nx n1 : Nat} {tab : Nat → Bool}
def mkF (F : List Fo) (v lo hi : Nat) : List Fo × Nat :=
  if lo = hi then (F, lo) else if (⟨v, lo, hi⟩ : Fo) ∈ F then (F, F.idxOf ⟨v, lo, hi⟩ + 2) else (F ++ [⟨v, lo, hi⟩], F.length + 2)
def gen (tab : Nat → Bool) : Nat → Nat → Nat → List Fo → List Fo × Nat
  | 0, i, s, F => (F, if tab s = true then 1 else 0)
  | m + 1, i, s, F => mkF (gen tab m (i + 1) (s ||| 2 ^ i) (gen tab m (i + 1) s F).1).1 i (gen tab m (i + 1) s F).2 (gen tab m (i + 1) (s ||| 2 ^ i) (gen tab m (i + 1) s F).1).2
theorem gen_0 : gen tab 0 i s F = (F, if tab s = true then 1 else 0) := rfl
theorem gen_s (h1 : gen tab m (i + 1) s F = (G, j)) (h2 : gen tab m (i + 1) (s ||| 2 ^ i) G = (D, k)) : gen tab (m + 1) i s F = mkF D i j k := by
  simp only [gen, h1, h2]
theorem mkF_eq : mkF F i j j = (F, j) := by simp [mkF]
theorem mkF_in (h : ¬ j = k) (h2 : (⟨i, j, k⟩ : Fo) ∈ F) : mkF F i j k = (F, F.idxOf ⟨i, j, k⟩ + 2) := by simp [mkF, h, h2]
theorem mkF_out (h : ¬ j = k) (h2 : ¬ (⟨i, j, k⟩ : Fo) ∈ F) : mkF F i j k = (F ++ [⟨i, j, k⟩], F.length + 2) := by simp [mkF, h, h2]
def srvF (n : Nat) (F : List Fo) (r : Nat) : Nat := if r < 2 then n else (F.getD (r - 2) default).v
def valF (F : List Fo) (t : Nat) : Nat → Nat → Bool
  | 0, r => decide (r = 1)
  | k + 1, r => if r < 2 then decide (r = 1) else if t.testBit (F.getD (r - 2) default).v = true then valF F t k (F.getD (r - 2) default).hi else valF F t k (F.getD (r - 2) default).lo
def valN (F : List Fo) (t r : Nat) : Bool := valF F t r r
structure FkOk (n : Nat) (F : List Fo) (k : Nat) (f : Fo) : Prop where
  v : f.v < n
  lo : f.lo < k + 2
  hi : f.hi < k + 2
  ne : ¬ f.lo = f.hi
  sl : f.v < srvF n F f.lo
  sh : f.v < srvF n F f.hi
structure Good (n : Nat) (F : List Fo) : Prop where
  ok : ∀ k, k < F.length → FkOk n F k (F.getD k default)
  nd : F.Nodup
theorem valF_lt (h : r < 2) : ∀ k, valF F t k r = decide (r = 1)
  | 0 => rfl
  | k + 1 => by simp [valF, h]
theorem valF_fuel (hg : Good n F) : ∀ (k m r : Nat), r ≤ k → r ≤ m → r < F.length + 2 → valF F t k r = valF F t m r := by
  intro k
  induction k with
  | zero => intro m r hk hm hr; rw [valF_lt (by omega), valF_lt (by omega)]
  | succ k ih =>
    intro m r hk hm hr
    by_cases h2 : r < 2
    · rw [valF_lt h2, valF_lt h2]
    · cases m with
      | zero => omega
      | succ m =>
        have ho := hg.ok (r - 2) (by omega)
        have h1 := ho.lo; have h3 := ho.hi
        simp only [valF, if_neg h2]
        rw [ih m _ (by omega) (by omega) (by omega), ih m _ (by omega) (by omega) (by omega)]
theorem valN_lt (h : r < 2) : valN F t r = decide (r = 1) := valF_lt h _
theorem valN_ge (hg : Good n F) (h2 : ¬ r < 2) (hr : r < F.length + 2) : valN F t r = if t.testBit (F.getD (r - 2) default).v = true then valN F t (F.getD (r - 2) default).hi else valN F t (F.getD (r - 2) default).lo := by
  have ho := hg.ok (r - 2) (by omega)
  have h1 := ho.lo; have h3 := ho.hi
  unfold valN
  obtain ⟨k, rfl⟩ : ∃ k, r = k + 1 := ⟨r - 1, by omega⟩
  rw [valF, if_neg h2, valF_fuel hg k _ _ (by omega) (Nat.le_refl _) (by omega), valF_fuel hg k _ _ (by omega) (Nat.le_refl _) (by omega)]
theorem getD_pre (h : k < F.length) : (F ++ e).getD k default = F.getD k default := by
  rw [List.getD_eq_getElem?_getD, List.getElem?_append_left h, ← List.getD_eq_getElem?_getD]
theorem getD_end : (F ++ [f]).getD F.length default = f := by simp [List.getD_eq_getElem?_getD]
theorem srvF_pre (h : r < F.length + 2) : srvF n (F ++ e) r = srvF n F r := by
  unfold srvF
  split
  · rfl
  · rw [getD_pre (by omega)]
theorem valF_pre (hg : Good n F) : ∀ (k r : Nat), r < F.length + 2 → valF (F ++ e) t k r = valF F t k r := by
  intro k
  induction k with
  | zero => intro r _; rfl
  | succ k ih =>
    intro r hr
    by_cases h2 : r < 2
    · rw [valF_lt h2, valF_lt h2]
    · have ho := hg.ok (r - 2) (by omega)
      have h1 := ho.lo; have h3 := ho.hi
      simp only [valF, if_neg h2]
      rw [getD_pre (by omega), ih _ (by omega), ih _ (by omega)]
theorem valN_pre (hg : Good n F) (hr : r < F.length + 2) : valN (F ++ e) t r = valN F t r := valF_pre hg r r hr
theorem Good.take (hg : Good n F) (k : Nat) : Good n (F.take k) := by
  refine ⟨fun j hj => ?_, hg.nd.sublist (List.take_sublist _ _)⟩
  have hj2 : j < k ∧ j < F.length := by simp at hj; omega
  have ho := hg.ok j hj2.2
  have e0 : (F.take k).getD j default = F.getD j default := by
    rw [List.getD_eq_getElem?_getD, List.getElem?_take_of_lt hj2.1, ← List.getD_eq_getElem?_getD]
  have e1 : ∀ r, r < j + 2 → srvF n (F.take k) r = srvF n F r := fun r hr => by
    unfold srvF
    split
    · rfl
    · rw [List.getD_eq_getElem?_getD, List.getElem?_take_of_lt (by omega), ← List.getD_eq_getElem?_getD]
  rw [e0]
  exact ⟨ho.v, ho.lo, ho.hi, ho.ne, by rw [e1 _ ho.lo]; exact ho.sl, by rw [e1 _ ho.hi]; exact ho.sh⟩
theorem Good.snoc (hg : Good n F) (hi : i < n) (hj : j < F.length + 2) (hk : k < F.length + 2) (hne : ¬ j = k) (hsj : i < srvF n F j) (hsk : i < srvF n F k) (hnew : ¬ (⟨i, j, k⟩ : Fo) ∈ F) : Good n (F ++ [⟨i, j, k⟩]) := by
  refine ⟨fun q hq => ?_, ?_⟩
  · rw [List.length_append, List.length_singleton] at hq
    by_cases e : q = F.length
    · subst e
      rw [getD_end]
      exact ⟨hi, hj, hk, hne, by rw [srvF_pre hj]; exact hsj, by rw [srvF_pre hk]; exact hsk⟩
    · have ho := hg.ok q (by omega)
      have h1 := ho.lo; have h2 := ho.hi
      rw [getD_pre (by omega)]
      exact ⟨ho.v, h1, h2, ho.ne, by rw [srvF_pre (by omega)]; exact ho.sl, by rw [srvF_pre (by omega)]; exact ho.sh⟩
  · rw [List.nodup_append]
    refine ⟨hg.nd, by simp, fun a ha b hb => ?_⟩
    rw [List.mem_singleton.1 hb]
    rintro rfl
    exact hnew ha
theorem Good.nil : Good n [] := ⟨fun k hk => absurd hk (by simp), List.nodup_nil⟩
def Ext (n i s t : Nat) : Prop := t < 2 ^ n ∧ ∀ j, j < i → t.testBit j = s.testBit j
theorem Ext.low (h : Ext n i s t) (hs : s < 2 ^ i) (hb : t.testBit i = false) : Ext n (i + 1) s t := ⟨h.1, fun j hj => by
  by_cases e : j = i
  · subst e; rw [hb, Nat.testBit_lt_two_pow hs]
  · exact h.2 j (by omega)⟩
theorem bit_or (hs : s < 2 ^ i) (hj : j < i) : (s ||| 2 ^ i).testBit j = s.testBit j := by
  rw [Nat.testBit_or, Nat.testBit_two_pow, decide_eq_false (by omega), Bool.or_false]
theorem Ext.high (h : Ext n i s t) (hs : s < 2 ^ i) (hb : t.testBit i = true) : Ext n (i + 1) (s ||| 2 ^ i) t := ⟨h.1, fun j hj => by
  by_cases e : j = i
  · subst e; rw [hb, Nat.testBit_or, Nat.testBit_two_pow]; simp
  · rw [bit_or hs (by omega)]; exact h.2 j (by omega)⟩
theorem Ext.of_low (h : Ext n (i + 1) s t) : Ext n i s t := ⟨h.1, fun j hj => h.2 j (by omega)⟩
theorem Ext.of_high (h : Ext n (i + 1) (s ||| 2 ^ i) t) (hs : s < 2 ^ i) : Ext n i s t := ⟨h.1, fun j hj => by rw [h.2 j (by omega), bit_or hs hj]⟩
theorem Ext.b0 (h : Ext n (i + 1) s t) (hs : s < 2 ^ i) : t.testBit i = false := by rw [h.2 i (by omega), Nat.testBit_lt_two_pow hs]
theorem Ext.b1 (h : Ext n (i + 1) (s ||| 2 ^ i) t) : t.testBit i = true := by rw [h.2 i (by omega), Nat.testBit_or, Nat.testBit_two_pow]; simp
theorem or_lt (hs : s < 2 ^ i) : (s ||| 2 ^ i) < 2 ^ (i + 1) := Nat.or_lt_two_pow (Nat.lt_of_lt_of_le hs (Nat.pow_le_pow_right (by omega) (by omega))) (Nat.pow_lt_pow_right (by omega) (by omega))
theorem lt_s (hs : s < 2 ^ i) : s < 2 ^ (i + 1) := Nat.lt_of_lt_of_le hs (Nat.pow_le_pow_right (by omega) (by omega))
theorem Ext.end_ (h : Ext n n s t) (hs : s < 2 ^ n) : t = s := by
  apply Nat.eq_of_testBit_eq
  intro j
  by_cases hj : j < n
  · exact h.2 j hj
  · rw [Nat.testBit_lt_two_pow (Nat.lt_of_lt_of_le h.1 (Nat.pow_le_pow_right (by omega) (by omega))), Nat.testBit_lt_two_pow (Nat.lt_of_lt_of_le hs (Nat.pow_le_pow_right (by omega) (by omega)))]
structure RepT (tab : Nat → Bool) (n i s : Nat) (F : List Fo) (r : Nat) : Prop where
  lt : r < F.length + 2
  srv : i ≤ srvF n F r
  val : ∀ t, Ext n i s t → valN F t r = tab t
theorem idx_at (hn : F.Nodup) (hk : k < F.length) : F.idxOf (F.getD k default) = k := by
  have e : F.getD k default = F[k] := by simp [List.getD_eq_getElem?_getD, hk]
  rw [e]; exact hn.idxOf_getElem k hk
theorem mem_at (hk : k < F.length) : F.getD k default ∈ F := by
  have e : F.getD k default = F[k] := by simp [List.getD_eq_getElem?_getD, hk]
  rw [e]; exact List.getElem_mem hk
theorem ext_self (hs : s < 2 ^ i) (hi : i ≤ n) : Ext n i s s := ⟨Nat.lt_of_lt_of_le hs (Nat.pow_le_pow_right (by omega) hi), fun _ _ => rfl⟩
theorem gen_idem (hg : Good n F) : ∀ (m i s r : Nat), i + m = n → s < 2 ^ i → RepT tab n i s F r → gen tab m i s F = (F, r) := by
  intro m
  induction m with
  | zero =>
    intro i s r hi hs hr
    have hin : i = n := by omega
    subst hin
    have h2 : r < 2 := by
      rcases Nat.lt_or_ge r 2 with h | h
      · exact h
      · have := hr.srv
        unfold srvF at this
        rw [if_neg (by omega)] at this
        have ho := hg.ok (r - 2) (by have := hr.lt; omega)
        have := ho.v
        omega
    have := hr.val s (ext_self hs (Nat.le_refl _))
    rw [valN_lt h2] at this
    rw [gen_0, ← this]
    have : r = 0 ∨ r = 1 := by omega
    rcases this with rfl | rfl <;> rfl
  | succ m ih =>
    intro i s r hi hs hr
    by_cases h : srvF n F r = i
    · have h2 : ¬ r < 2 := fun h2 => by unfold srvF at h; rw [if_pos h2] at h; omega
      have hv : (F.getD (r - 2) default).v = i := by unfold srvF at h; rw [if_neg h2] at h; exact h
      have hlt := hr.lt
      have ho := hg.ok (r - 2) (by omega)
      have e1 := ih (i + 1) s (F.getD (r - 2) default).lo (by omega) (lt_s hs) ⟨by have := ho.lo; omega, by have := ho.sl; omega, fun t ht => by
        rw [← hr.val t ht.of_low, valN_ge hg h2 hlt, hv, ht.b0 hs]; simp⟩
      have e2 := ih (i + 1) (s ||| 2 ^ i) (F.getD (r - 2) default).hi (by omega) (or_lt hs) ⟨by have := ho.hi; omega, by have := ho.sh; omega, fun t ht => by
        rw [← hr.val t (ht.of_high hs), valN_ge hg h2 hlt, hv, ht.b1]; simp⟩
      rw [gen_s e1 e2]
      have ef : (⟨i, (F.getD (r - 2) default).lo, (F.getD (r - 2) default).hi⟩ : Fo) = F.getD (r - 2) default := by rw [← hv]
      have hm : (⟨i, (F.getD (r - 2) default).lo, (F.getD (r - 2) default).hi⟩ : Fo) ∈ F := by rw [ef]; exact mem_at (by omega)
      rw [mkF_in ho.ne hm, ef, idx_at hg.nd (by omega)]
      congr 1; omega
    · have hsv := hr.srv
      have e1 := ih (i + 1) s r (by omega) (lt_s hs) ⟨hr.lt, by omega, fun t ht => hr.val t ht.of_low⟩
      have e2 := ih (i + 1) (s ||| 2 ^ i) r (by omega) (or_lt hs) ⟨hr.lt, by omega, fun t ht => hr.val t (ht.of_high hs)⟩
      rw [gen_s e1 e2, mkF_eq]
structure Grown (tab : Nat → Bool) (n i s : Nat) (F F' : List Fo) (r : Nat) : Prop where
  good : Good n F'
  pre : ∃ e, F' = F ++ e ∧ ∀ f ∈ e, i ≤ f.v
  rep : RepT tab n i s F' r
theorem RepT.pre (hg : Good n F) (h : RepT tab n i s F r) : RepT tab n i s (F ++ e) r :=
  ⟨by have := h.lt; simp; omega, by rw [srvF_pre h.lt]; exact h.srv, fun t ht => by rw [valN_pre hg h.lt]; exact h.val t ht⟩
theorem gen_ok : ∀ (m i s : Nat) (F : List Fo), Good n F → i + m = n → s < 2 ^ i → Grown tab n i s F (gen tab m i s F).1 (gen tab m i s F).2 := by
  intro m
  induction m with
  | zero =>
    intro i s F hg hi hs
    have hin : i = n := by omega
    subst hin
    rw [gen_0]
    refine ⟨hg, ⟨[], by simp, by simp⟩, ⟨?_, ?_, fun t ht => ?_⟩⟩
    · show (if tab s = true then 1 else 0) < F.length + 2; split <;> omega
    · show i ≤ srvF i F (if tab s = true then 1 else 0)
      unfold srvF; rw [if_pos (by split <;> omega)]; exact Nat.le_refl _
    · show valN F t (if tab s = true then 1 else 0) = tab t
      rw [ht.end_ hs, valN_lt (by split <;> omega)]
      cases tab s <;> rfl
  | succ m ih =>
    intro i s F hg hi hs
    have h1 := ih (i + 1) s F hg (by omega) (lt_s hs)
    generalize hA : gen tab m (i + 1) s F = A at h1
    have h2 := ih (i + 1) (s ||| 2 ^ i) A.1 h1.good (by omega) (or_lt hs)
    generalize hB : gen tab m (i + 1) (s ||| 2 ^ i) A.1 = B at h2
    obtain ⟨A1, lo⟩ := A
    obtain ⟨B1, hi'⟩ := B
    rw [gen_s hA hB]
    obtain ⟨e1, rfl, he1⟩ := h1.pre
    obtain ⟨e2, rfl, he2⟩ := h2.pre
    dsimp only at *
    have hlo : RepT tab n (i + 1) s (F ++ e1 ++ e2) lo := h1.rep.pre h1.good
    have hhi := h2.rep
    have hpre : ∃ e, F ++ e1 ++ e2 = F ++ e ∧ ∀ f ∈ e, i ≤ f.v := ⟨e1 ++ e2, by rw [List.append_assoc], fun f hf => by
      rcases List.mem_append.1 hf with h | h
      · have := he1 f h; omega
      · have := he2 f h; omega⟩
    generalize F ++ e1 ++ e2 = G at *
    by_cases he : lo = hi'
    · subst he
      rw [mkF_eq]
      refine ⟨h2.good, hpre, ⟨hlo.lt, by have := hlo.srv; show i ≤ srvF n G lo; omega, fun t ht => ?_⟩⟩
      cases hb : t.testBit i with
      | false => exact hlo.val t (ht.low hs hb)
      | true => exact hhi.val t (ht.high hs hb)
    · have key : ∀ (D : List Fo) (k : Nat), Good n D → k < D.length → D.getD k default = ⟨i, lo, hi'⟩ → RepT tab n (i + 1) s D lo → RepT tab n (i + 1) (s ||| 2 ^ i) D hi' → RepT tab n i s D (k + 2) := fun D k hD hk ed hl hh => by
        refine ⟨by omega, ?_, fun t ht => ?_⟩
        · unfold srvF; rw [if_neg (by omega), Nat.add_sub_cancel, ed]; exact Nat.le_refl _
        · rw [valN_ge hD (by omega) (by omega), Nat.add_sub_cancel, ed]
          dsimp only
          cases hb : t.testBit i with
          | false => simpa using hl.val t (ht.low hs hb)
          | true => simpa using hh.val t (ht.high hs hb)
      by_cases hm : (⟨i, lo, hi'⟩ : Fo) ∈ G
      · rw [mkF_in he hm]
        have hk : G.idxOf ⟨i, lo, hi'⟩ < G.length := List.idxOf_lt_length_iff.2 hm
        refine ⟨h2.good, hpre, key G _ h2.good hk ?_ hlo hhi⟩
        rw [List.getD_eq_getElem?_getD, List.getElem?_eq_getElem hk, Option.getD_some, List.getElem_idxOf]
      · rw [mkF_out he hm]
        have hg' := h2.good.snoc (i := i) (j := lo) (k := hi') (by omega) hlo.lt hhi.lt he (by have := hlo.srv; omega) (by have := hhi.srv; omega) hm
        obtain ⟨e, rfl, hee⟩ := hpre
        refine ⟨hg', ⟨e ++ [⟨i, lo, hi'⟩], by simp, fun f hf => ?_⟩, key _ _ hg' (by simp) getD_end (hlo.pre h2.good) (hhi.pre h2.good)⟩
        rcases List.mem_append.1 hf with h | h
        · exact hee f h
        · rw [List.mem_singleton.1 h]; exact Nat.le_refl _
def visF (F : List Fo) : Nat → Nat → Nat → Option Nat
  | 0, r, nx => some nx
  | k + 1, r, nx => if r < 2 ∨ r < nx then some nx else (visF F k (F.getD (r - 2) default).lo nx).bind fun n1 => (visF F k (F.getD (r - 2) default).hi n1).bind fun n2 => if r = n2 then some (n2 + 1) else none
theorem visF_old (h : r < 2 ∨ r < nx) : visF F k r nx = some nx := by cases k <;> simp [visF, h]
theorem visF_new (h : ¬ (r < 2 ∨ r < nx)) : visF F (k + 1) r nx = (visF F k (F.getD (r - 2) default).lo nx).bind fun n1 => (visF F k (F.getD (r - 2) default).hi n1).bind fun n2 => if r = n2 then some (n2 + 1) else none := by simp [visF, h]
theorem visF_mono : ∀ (k r nx n1 : Nat), visF F k r nx = some n1 → nx ≤ n1 := by
  intro k
  induction k with
  | zero => intro r nx n1 h; cases h; exact Nat.le_refl _
  | succ k ih =>
    intro r nx n1 h
    by_cases hc : r < 2 ∨ r < nx
    · rw [visF_old hc] at h; cases h; exact Nat.le_refl _
    · rw [visF_new hc] at h
      cases h1 : visF F k (F.getD (r - 2) default).lo nx with
      | none => rw [h1] at h; cases h
      | some a =>
        rw [h1, Option.bind_some] at h
        cases h2 : visF F k (F.getD (r - 2) default).hi a with
        | none => rw [h2] at h; cases h
        | some b =>
          rw [h2, Option.bind_some] at h
          split at h
          · cases h; have := ih _ _ _ h1; have := ih _ _ _ h2; omega
          · cases h
theorem take_s (h : k < F.length) : F.take (k + 1) = F.take k ++ [F.getD k default] := by
  rw [List.take_add_one, List.getD_eq_getElem?_getD, List.getElem?_eq_getElem h]; rfl
theorem rep_take (hg : Good n F) (hk : k ≤ F.length) (hr : r < k + 2) (h : RepT tab n i s F r) : RepT tab n i s (F.take k) r := by
  have hl : (F.take k).length = k := by simp; omega
  have e := List.take_append_drop k F
  refine ⟨by rw [hl]; exact hr, ?_, fun t ht => ?_⟩
  · have := h.srv; rw [← e, srvF_pre (by rw [hl]; exact hr)] at this; exact this
  · have := h.val t ht; rw [← e, valN_pre (hg.take k) (by rw [hl]; exact hr)] at this; exact this
theorem gen_vis (hg : Good n F) : ∀ (m i s r k nx nx' : Nat), i + m = n → s < 2 ^ i → RepT tab n i s F r → r ≤ k → 2 ≤ nx → nx' ≤ F.length + 2 → visF F k r nx = some nx' → gen tab m i s (F.take (nx - 2)) = (F.take (nx' - 2), r) := by
  intro m
  induction m with
  | zero =>
    intro i s r k nx nx' hi hs hr hk hnx hnx' hv
    have hin : i = n := by omega
    subst hin
    have h2 : r < 2 := by
      rcases Nat.lt_or_ge r 2 with h | h
      · exact h
      · have := hr.srv
        unfold srvF at this
        rw [if_neg (by omega)] at this
        have ho := hg.ok (r - 2) (by have := hr.lt; omega)
        have := ho.v
        omega
    rw [visF_old (.inl h2)] at hv
    cases hv
    exact gen_idem (hg.take _) 0 i s r hi hs (rep_take hg (by omega) (by omega) hr)
  | succ m ih =>
    intro i s r k nx nx' hi hs hr hk hnx hnx' hv
    by_cases hc : r < 2 ∨ r < nx
    · have hmo := visF_mono _ _ _ _ hv
      rw [visF_old hc] at hv
      cases hv
      exact gen_idem (hg.take _) (m + 1) i s r hi hs (rep_take hg (by omega) (by omega) hr)
    · have hr2 : ¬ r < 2 := fun h => hc (.inl h)
      have hrn : ¬ r < nx := fun h => hc (.inr h)
      have hlt := hr.lt
      have hv0 := hv
      obtain ⟨k', rfl⟩ : ∃ k', k = k' + 1 := ⟨k - 1, by omega⟩
      rw [visF_new hc] at hv
      cases h1 : visF F k' (F.getD (r - 2) default).lo nx with
      | none => rw [h1] at hv; cases hv
      | some a =>
        rw [h1, Option.bind_some] at hv
        cases h2 : visF F k' (F.getD (r - 2) default).hi a with
        | none => rw [h2] at hv; cases hv
        | some b =>
          rw [h2, Option.bind_some] at hv
          split at hv
          · rename_i hrb
            cases hv
            have m1 := visF_mono _ _ _ _ h1
            have m2 := visF_mono _ _ _ _ h2
            have ho := hg.ok (r - 2) (by omega)
            by_cases hs' : srvF n F r = i
            · have hvv : (F.getD (r - 2) default).v = i := by unfold srvF at hs'; rw [if_neg hr2] at hs'; exact hs'
              have g1 := ih (i + 1) s _ k' nx a (by omega) (lt_s hs) ⟨by have := ho.lo; omega, by have := ho.sl; omega, fun t ht => by
                rw [← hr.val t ht.of_low, valN_ge hg hr2 hlt, hvv, ht.b0 hs]; simp⟩ (by have := ho.lo; omega) hnx (by omega) h1
              have g2 := ih (i + 1) (s ||| 2 ^ i) _ k' a b (by omega) (or_lt hs) ⟨by have := ho.hi; omega, by have := ho.sh; omega, fun t ht => by
                rw [← hr.val t (ht.of_high hs), valN_ge hg hr2 hlt, hvv, ht.b1]; simp⟩ (by have := ho.hi; omega) (by omega) (by omega) h2
              rw [gen_s g1 g2]
              have ef : (⟨i, (F.getD (r - 2) default).lo, (F.getD (r - 2) default).hi⟩ : Fo) = F.getD (r - 2) default := by rw [← hvv]
              have hout : ¬ (⟨i, (F.getD (r - 2) default).lo, (F.getD (r - 2) default).hi⟩ : Fo) ∈ F.take (b - 2) := by
                rw [ef]
                intro hm
                obtain ⟨q, hq, e⟩ := List.getElem_of_mem hm
                have hq2 : q < b - 2 ∧ q < F.length := by simp at hq; omega
                rw [List.getElem_take] at e
                have hr3 : r - 2 < F.length := by omega
                have e3 : F.getD (r - 2) default = F[r - 2] := by simp [List.getD_eq_getElem?_getD, hr3]
                rw [e3] at e
                have u1 := hg.nd.idxOf_getElem q hq2.2
                have u2 := hg.nd.idxOf_getElem (r - 2) hr3
                rw [e, u2] at u1
                omega
              rw [mkF_out ho.ne hout, ef]
              have hbl : (F.take (b - 2)).length = b - 2 := by simp; omega
              rw [hbl, show b + 1 - 2 = (r - 2) + 1 by omega, take_s (by omega), show b - 2 = r - 2 by omega]
              congr 1; omega
            · have hsv := hr.srv
              have g1 := ih (i + 1) s r (k' + 1) nx (b + 1) (by omega) (lt_s hs) ⟨hr.lt, by omega, fun t ht => hr.val t ht.of_low⟩ hk hnx hnx' hv0
              have g2 := gen_idem (tab := tab) (hg.take (b + 1 - 2)) m (i + 1) (s ||| 2 ^ i) r (by omega) (or_lt hs) (rep_take hg (by omega) (by omega) ⟨hr.lt, by omega, fun t ht => hr.val t (ht.of_high hs)⟩)
              rw [gen_s g1 g2, mkF_eq]
          · cases hv
theorem vis_gen : ∀ (m i s : Nat) (F D : List Fo) (k : Nat), Good n F → i + m = n → s < 2 ^ i → (∃ e, D = (gen tab m i s F).1 ++ e) → (gen tab m i s F).2 ≤ k → visF D k (gen tab m i s F).2 (F.length + 2) = some ((gen tab m i s F).1.length + 2) := by
  intro m
  induction m with
  | zero =>
    intro i s F D k hg hi hs hD hk
    rw [gen_0]
    exact visF_old (.inl (by show (if tab s = true then 1 else 0) < 2; split <;> omega))
  | succ m ih =>
    intro i s F D k hg hi hs hD hk
    have h1 := gen_ok (tab := tab) m (i + 1) s F hg (by omega) (lt_s hs)
    have v1 := fun D k => ih (i + 1) s F D k hg (by omega) (lt_s hs)
    generalize hA : gen tab m (i + 1) s F = A at h1 v1
    have h2 := gen_ok (tab := tab) m (i + 1) (s ||| 2 ^ i) A.1 h1.good (by omega) (or_lt hs)
    have v2 := fun D k => ih (i + 1) (s ||| 2 ^ i) A.1 D k h1.good (by omega) (or_lt hs)
    generalize hB : gen tab m (i + 1) (s ||| 2 ^ i) A.1 = B at h2 v2
    obtain ⟨A1, lo⟩ := A
    obtain ⟨B1, hi'⟩ := B
    rw [gen_s hA hB] at hD hk ⊢
    obtain ⟨e1, rfl, he1⟩ := h1.pre
    obtain ⟨e2, rfl, he2⟩ := h2.pre
    dsimp only at *
    have llo := h1.rep.lt
    have lhi := h2.rep.lt
    by_cases he : lo = hi'
    · subst he
      rw [mkF_eq] at hD hk ⊢
      obtain ⟨e, rfl⟩ := hD
      have w1 := v1 (F ++ e1 ++ e2 ++ e) k ⟨e2 ++ e, by simp⟩ hk
      have w2 := v2 (F ++ e1 ++ e2 ++ e) k ⟨e, rfl⟩ hk
      rw [visF_old (.inr llo)] at w2
      rw [w1, w2]
    · by_cases hm : (⟨i, lo, hi'⟩ : Fo) ∈ F ++ e1 ++ e2
      · rw [mkF_in he hm] at hD hk ⊢
        dsimp only at *
        have hmF : (⟨i, lo, hi'⟩ : Fo) ∈ F := by
          rcases List.mem_append.1 hm with h | h
          · rcases List.mem_append.1 h with h | h
            · exact h
            · have := he1 _ h; simp at this; omega
          · have := he2 _ h; simp at this; omega
        have hix : (F ++ e1 ++ e2).idxOf ⟨i, lo, hi'⟩ = F.idxOf ⟨i, lo, hi'⟩ := by rw [List.append_assoc, List.idxOf_append, if_pos hmF]
        have hk2 : F.idxOf ⟨i, lo, hi'⟩ < F.length := List.idxOf_lt_length_iff.2 hmF
        have ho := hg.ok _ hk2
        have ed : F.getD (F.idxOf ⟨i, lo, hi'⟩) default = ⟨i, lo, hi'⟩ := by
          rw [List.getD_eq_getElem?_getD, List.getElem?_eq_getElem hk2, Option.getD_some, List.getElem_idxOf]
        rw [ed] at ho
        have hl := ho.lo; have hh := ho.hi
        dsimp only at hl hh
        obtain ⟨e, rfl⟩ := hD
        have w1 := v1 (F ++ e1 ++ e2 ++ e) lo ⟨e2 ++ e, by simp⟩ (Nat.le_refl _)
        rw [visF_old (.inr (by omega))] at w1
        have w2 := v2 (F ++ e1 ++ e2 ++ e) hi' ⟨e, rfl⟩ (Nat.le_refl _)
        rw [visF_old (.inr (by simp; omega))] at w2
        rw [hix, visF_old (.inr (by omega)), ← Option.some.inj w2, ← Option.some.inj w1]
      · rw [mkF_out he hm] at hD hk ⊢
        dsimp only at *
        obtain ⟨e, rfl⟩ := hD
        obtain ⟨k', rfl⟩ : ∃ k', k = k' + 1 := ⟨k - 1, by omega⟩
        have hL : ∀ q : Nat, q = (F ++ e1 ++ e2).length + 2 → visF (F ++ e1 ++ e2 ++ [(⟨i, lo, hi'⟩ : Fo)] ++ e) (k' + 1) q (F.length + 2) = some ((F ++ e1 ++ e2 ++ [(⟨i, lo, hi'⟩ : Fo)]).length + 2) := fun q hq => by
          have hd : (F ++ e1 ++ e2 ++ [(⟨i, lo, hi'⟩ : Fo)] ++ e).getD (q - 2) default = (⟨i, lo, hi'⟩ : Fo) := by
            rw [hq, Nat.add_sub_cancel, getD_pre (by simp), getD_end]
          rw [visF_new (by simp at hq; omega), hd]
          dsimp only
          rw [v1 _ k' ⟨e2 ++ ([(⟨i, lo, hi'⟩ : Fo)] ++ e), by simp⟩ (by simp at hk llo ⊢; omega), Option.bind_some, v2 _ k' ⟨[(⟨i, lo, hi'⟩ : Fo)] ++ e, by simp⟩ (by simp at hk lhi ⊢; omega), Option.bind_some, if_pos hq]
          simp; omega
        exact hL _ rfl
end Go.Dg
/- Dg2. -/
set_option linter.unusedVariables false
set_option linter.unusedSectionVars false
set_option linter.unusedSimpArgs false
namespace Go.Dg
variable {F G D e A B : List Fo} {f : Fo} {n m i j k s t r u v w nx n1 l : Nat} {tab φ φ0 φ1 : Nat → Bool}
def fromT (n : Nat) (tab : Nat → Bool) : List Fo × Nat := gen tab n 0 0 []
theorem ext0 : Ext n 0 0 t ↔ t < 2 ^ n := ⟨fun h => h.1, fun h => ⟨h, fun j hj => absurd hj (by omega)⟩⟩
structure FromOk (n : Nat) (tab : Nat → Bool) (F : List Fo) (r : Nat) : Prop where
  good : Good n F
  lt : r < F.length + 2
  val : ∀ t, t < 2 ^ n → valN F t r = tab t
  vis : visF F r r 2 = some (F.length + 2)
theorem from_ok : FromOk n tab (fromT n tab).1 (fromT n tab).2 := by
  have h := gen_ok (tab := tab) n 0 0 [] (Good.nil (n := n)) (by omega) (by decide)
  have hv := vis_gen (tab := tab) n 0 0 [] (gen tab n 0 0 []).1 (gen tab n 0 0 []).2 (Good.nil (n := n)) (by omega) (by decide) ⟨[], by simp⟩ (Nat.le_refl _)
  exact ⟨h.good, h.rep.lt, fun t ht => h.rep.val t (ext0.2 ht), hv⟩
theorem from_of (hg : Good n F) (hr : r < F.length + 2) (hv : visF F r r 2 = some (F.length + 2)) (ht : ∀ t, t < 2 ^ n → valN F t r = tab t) : fromT n tab = (F, r) := by
  have h := gen_vis (tab := tab) hg n 0 0 r r 2 (F.length + 2) (by omega) (by decide) ⟨hr, Nat.zero_le _, fun t h => ht t h.1⟩ (Nat.le_refl _) (Nat.le_refl _) (Nat.le_refl _) hv
  unfold fromT
  simpa using h
theorem vis_root (h : visF F k r 2 = some (F.length + 2)) (hk : r ≤ k) : F.length = 0 ∨ r = F.length + 1 := by
  by_cases hc : r < 2
  · rw [visF_old (.inl hc)] at h; have := Option.some.inj h; omega
  · obtain ⟨k', rfl⟩ : ∃ k', k = k' + 1 := ⟨k - 1, by omega⟩
    rw [visF_new (by omega)] at h
    cases h1 : visF F k' (F.getD (r - 2) default).lo 2 with
    | none => rw [h1] at h; cases h
    | some a =>
      rw [h1, Option.bind_some] at h
      cases h2 : visF F k' (F.getD (r - 2) default).hi a with
      | none => rw [h2] at h; cases h
      | some b =>
        rw [h2, Option.bind_some] at h
        split at h
        · have := Option.some.inj h; right; omega
        · cases h
def visS (F : List Fo) : Nat → Nat → Nat → Bool × Nat
  | 0, r, nx => (true, nx)
  | k + 1, r, nx => if r < 2 ∨ r < nx then (true, nx) else
    if (visS F k (F.getD (r - 2) default).lo nx).1 = false then (false, (visS F k (F.getD (r - 2) default).lo nx).2) else
    if (visS F k (F.getD (r - 2) default).hi (visS F k (F.getD (r - 2) default).lo nx).2).1 = false then (false, (visS F k (F.getD (r - 2) default).hi (visS F k (F.getD (r - 2) default).lo nx).2).2) else
    if r = (visS F k (F.getD (r - 2) default).hi (visS F k (F.getD (r - 2) default).lo nx).2).2 then (true, (visS F k (F.getD (r - 2) default).hi (visS F k (F.getD (r - 2) default).lo nx).2).2 + 1) else (false, (visS F k (F.getD (r - 2) default).hi (visS F k (F.getD (r - 2) default).lo nx).2).2)
theorem visS_F : ∀ (k r nx : Nat), visF F k r nx = if (visS F k r nx).1 = true then some (visS F k r nx).2 else none := by
  intro k
  induction k with
  | zero => intro r nx; rfl
  | succ k ih =>
    intro r nx
    by_cases hc : r < 2 ∨ r < nx
    · rw [visF_old hc]; simp [visS, hc]
    · rw [visF_new hc]
      simp only [visS, if_neg hc]
      rw [ih]
      cases h1 : (visS F k (F.getD (r - 2) default).lo nx).1 with
      | false => simp
      | true =>
        simp only [if_true, Option.bind_some, Bool.true_eq_false, if_false]
        rw [ih]
        cases h2 : (visS F k (F.getD (r - 2) default).hi (visS F k (F.getD (r - 2) default).lo nx).2).1 with
        | false => simp
        | true =>
          simp only [if_true, Option.bind_some, Bool.true_eq_false, if_false]
          split <;> rfl
structure Hit (n : Nat) (φ : Nat → Bool) (l : Nat) (F : List Fo) (w : Nat) : Prop where
  lt : w < F.length + 2
  srv : l ≤ srvF n F w
  val : ∀ t, t < 2 ^ n → valN F t w = φ t
theorem Hit.pre (hg : Good n F) (h : Hit n φ l F w) : Hit n φ l (F ++ e) w :=
  ⟨by have := h.lt; simp; omega, by rw [srvF_pre h.lt]; exact h.srv, fun t ht => by rw [valN_pre hg h.lt]; exact h.val t ht⟩
def BF (n : Nat) (φ : Nat → Bool) (l : Nat) (F F' : List Fo) (w : Nat) : Prop :=
  ∀ (tab : Nat → Bool) (m i s : Nat), i + m = n → s < 2 ^ i → i ≤ l → (∀ t, Ext n i s t → tab t = φ t) → gen tab m i s F = (F', w)
theorem BF_hit (hg : Good n F) (h : Hit n φ l F w) : BF n φ l F F w := fun tab m i s hi hs hl ht =>
  gen_idem hg m i s w hi hs ⟨h.lt, by have := h.srv; omega, fun t he => by rw [h.val t he.1, ht t he]⟩
theorem BF.hit (hg : Good n F) (h : BF n φ l F G w) (hl : l ≤ n) : Good n G ∧ (∃ e, G = F ++ e) ∧ Hit n φ l G w := by
  have key : ∀ s, s < 2 ^ l → Grown φ n l s F G w := fun s hs => by
    have h1 := h φ (n - l) l s (by omega) hs (Nat.le_refl _) (fun _ _ => rfl)
    have h2 := gen_ok (tab := φ) (n - l) l s F hg (by omega) hs
    rw [h1] at h2; exact h2
  have k0 := key 0 (Nat.two_pow_pos _)
  obtain ⟨e, he, _⟩ := k0.pre
  refine ⟨k0.good, ⟨e, he⟩, ⟨k0.rep.lt, k0.rep.srv, fun t ht => ?_⟩⟩
  exact (key (t % 2 ^ l) (Nat.mod_lt _ (Nat.two_pow_pos _))).rep.val t ⟨ht, fun j hj => by rw [Nat.testBit_mod_two_pow, decide_eq_true hj, Bool.true_and]⟩
theorem BF_fork (hg : Good n F) (hv : v < n) (h0 : BF n φ0 (v + 1) F G r) (h1 : BF n φ1 (v + 1) G D u)
    (e0 : ∀ t, t < 2 ^ n → t.testBit v = false → φ t = φ0 t) (e1 : ∀ t, t < 2 ^ n → t.testBit v = true → φ t = φ1 t) :
    BF n φ v F (mkF D v r u).1 (mkF D v r u).2 := by
  intro tab m
  induction m with
  | zero => intro i s hi hs hl; omega
  | succ m ih =>
    intro i s hi hs hl ht
    by_cases e : i = v
    · subst e
      have g1 := h0 tab m (i + 1) s (by omega) (lt_s hs) (Nat.le_refl _) (fun t hx => by rw [ht t hx.of_low, e0 t hx.1 (hx.b0 hs)])
      have g2 := h1 tab m (i + 1) (s ||| 2 ^ i) (by omega) (or_lt hs) (Nat.le_refl _) (fun t hx => by rw [ht t (hx.of_high hs), e1 t hx.1 hx.b1])
      rw [gen_s g1 g2]
    · have g1 := ih (i + 1) s (by omega) (lt_s hs) (by omega) (fun t hx => ht t hx.of_low)
      have hG : BF n φ v F (mkF D v r u).1 (mkF D v r u).2 → True := fun _ => trivial
      have k1 := gen_ok (tab := tab) m (i + 1) s F hg (by omega) (lt_s hs)
      -- what the second half would grow is what the first half has grown
      have g2 := ih (i + 1) (s ||| 2 ^ i) (by omega) (or_lt hs) (by omega) (fun t hx => ht t (hx.of_high hs))
      have k2 := gen_ok (tab := tab) m (i + 1) (s ||| 2 ^ i) F hg (by omega) (or_lt hs)
      rw [g1] at k1
      rw [g2] at k2
      have g3 := gen_idem (tab := tab) k2.good m (i + 1) (s ||| 2 ^ i) _ (by omega) (or_lt hs) k2.rep
      rw [gen_s g1 g3, mkF_eq]
theorem BF_top (h : BF n φ 0 [] F w) : fromT n φ = (F, w) := h φ n 0 0 (by omega) (by decide) (Nat.le_refl _) (fun _ _ => rfl)
theorem BF.mono (h : BF n φ l F G w) (hl : k ≤ l) : BF n φ k F G w := fun tab m i s hi hs hk ht => h tab m i s hi hs (by omega) ht
theorem BF_leaf (hg : Good n F) {b : Bool} (h : ∀ t, t < 2 ^ n → φ t = b) : BF n φ n F F (if b = true then 1 else 0) :=
  BF_hit hg ⟨by split <;> omega, by unfold srvF; rw [if_pos (by split <;> omega)]; exact Nat.le_refl _, fun t ht => by
    rw [h t ht, valN_lt (by split <;> omega)]; cases b <;> rfl⟩
theorem gen_len : ∀ (m i s : Nat) (F : List Fo), (gen tab m i s F).1.length + 1 ≤ F.length + 2 ^ m := by
  intro m
  induction m with
  | zero => intro i s F; rw [gen_0]; simp
  | succ m ih =>
    intro i s F
    have h1 := ih (i + 1) s F
    have h2 := ih (i + 1) (s ||| 2 ^ i) (gen tab m (i + 1) s F).1
    have h3 : ∀ (D : List Fo) (a b : Nat), (mkF D i a b).1.length ≤ D.length + 1 := fun D a b => by
      unfold mkF
      split
      · exact Nat.le_succ _
      · split
        · exact Nat.le_succ _
        · simp
    have h4 := h3 (gen tab m (i + 1) (s ||| 2 ^ i) (gen tab m (i + 1) s F).1).1 (gen tab m (i + 1) s F).2 (gen tab m (i + 1) (s ||| 2 ^ i) (gen tab m (i + 1) s F).1).2
    show (mkF _ _ _ _).1.length + 1 ≤ _
    rw [Nat.pow_succ]
    omega
theorem from_len : (fromT n tab).1.length < 2 ^ n := by
  have := gen_len (tab := tab) n 0 0 []
  unfold fromT
  simp at this; omega
end Go.Dg
/- Dg3. -/
set_option linter.unusedVariables false
set_option linter.unusedSectionVars false
set_option linter.unusedSimpArgs false
namespace Go.Dg
variable {F G D e A B : List Fo} {f : Fo} {n m i j k s t r u v w nx n1 l : Nat} {tab φ φ0 φ1 : Nat → Bool}
structure GSys (X : Type) where
  term : X → Option Nat
  lev : X → Nat
  k0 : X → X
  k1 : X → X
  rk : X → Nat
  φ : X → Nat → Bool
variable {X : Type} [DecidableEq X] {Y : GSys X} {x : X}
def lookK (K : List (X × Nat)) (x : X) : Option Nat := (K.find? fun p => decide (p.1 = x)).map (·.2)
theorem look_mem {K : List (X × Nat)} (h : lookK K x = some w) : (x, w) ∈ K := by
  unfold lookK at h
  cases hf : K.find? fun p => decide (p.1 = x) with
  | none => rw [hf] at h; cases h
  | some p =>
    rw [hf] at h
    have h1 := List.mem_of_find?_eq_some hf
    have h2 := List.find?_some hf
    simp only [decide_eq_true_eq] at h2
    have h3 : p.2 = w := by simpa using h
    rw [← h2, ← h3]; exact h1
def mgr (Y : GSys X) : Nat → X → List Fo × List (X × Nat) → (List Fo × List (X × Nat)) × Nat
  | 0, _, S => (S, 0)
  | k + 1, x, S => match Y.term x with
    | some c => (S, c)
    | none => match lookK S.2 x with
      | some w => (S, w)
      | none => (((mkF (mgr Y k (Y.k1 x) (mgr Y k (Y.k0 x) S).1).1.1 (Y.lev x) (mgr Y k (Y.k0 x) S).2 (mgr Y k (Y.k1 x) (mgr Y k (Y.k0 x) S).1).2).1,
          (mgr Y k (Y.k1 x) (mgr Y k (Y.k0 x) S).1).1.2 ++ [(x, (mkF (mgr Y k (Y.k1 x) (mgr Y k (Y.k0 x) S).1).1.1 (Y.lev x) (mgr Y k (Y.k0 x) S).2 (mgr Y k (Y.k1 x) (mgr Y k (Y.k0 x) S).1).2).2)]),
          (mkF (mgr Y k (Y.k1 x) (mgr Y k (Y.k0 x) S).1).1.1 (Y.lev x) (mgr Y k (Y.k0 x) S).2 (mgr Y k (Y.k1 x) (mgr Y k (Y.k0 x) S).1).2).2)
theorem mgr_term {S : List Fo × List (X × Nat)} {c : Nat} (h : Y.term x = some c) : mgr Y (k + 1) x S = (S, c) := by simp [mgr, h]
theorem mgr_hit {S : List Fo × List (X × Nat)} (h : Y.term x = none) (h2 : lookK S.2 x = some w) : mgr Y (k + 1) x S = (S, w) := by simp [mgr, h, h2]
theorem mgr_new {S S1 S2 : List Fo × List (X × Nat)} {a b : Nat} (h : Y.term x = none) (h2 : lookK S.2 x = none) (h3 : mgr Y k (Y.k0 x) S = (S1, a)) (h4 : mgr Y k (Y.k1 x) S1 = (S2, b)) :
    mgr Y (k + 1) x S = (((mkF S2.1 (Y.lev x) a b).1, S2.2 ++ [(x, (mkF S2.1 (Y.lev x) a b).2)]), (mkF S2.1 (Y.lev x) a b).2) := by
  simp [mgr, h, h2, h3, h4]
structure SysOk (Y : GSys X) (n : Nat) (Ok : X → Prop) : Prop where
  t1 : ∀ x c, Ok x → Y.term x = some c → c < 2 ∧ Y.lev x ≤ n ∧ ∀ t, t < 2 ^ n → Y.φ x t = decide (c = 1)
  lv : ∀ x, Ok x → Y.term x = none → Y.lev x < n
  o0 : ∀ x, Ok x → Y.term x = none → Ok (Y.k0 x) ∧ Y.rk (Y.k0 x) < Y.rk x ∧ Y.lev x < Y.lev (Y.k0 x)
  o1 : ∀ x, Ok x → Y.term x = none → Ok (Y.k1 x) ∧ Y.rk (Y.k1 x) < Y.rk x ∧ Y.lev x < Y.lev (Y.k1 x)
  f0 : ∀ x, Ok x → Y.term x = none → ∀ t, t < 2 ^ n → t.testBit (Y.lev x) = false → Y.φ x t = Y.φ (Y.k0 x) t
  f1 : ∀ x, Ok x → Y.term x = none → ∀ t, t < 2 ^ n → t.testBit (Y.lev x) = true → Y.φ x t = Y.φ (Y.k1 x) t
def Kok (Y : GSys X) (n : Nat) (F : List Fo) (K : List (X × Nat)) : Prop := ∀ p ∈ K, Hit n (Y.φ p.1) (Y.lev p.1) F p.2
theorem Kok.pre {K : List (X × Nat)} (hg : Good n F) (h : Kok Y n F K) : Kok Y n (F ++ e) K := fun p hp => (h p hp).pre hg
theorem SysOk.le {Ok : X → Prop} (hY : SysOk Y n Ok) (hx : Ok x) : Y.lev x ≤ n := by
  cases h : Y.term x with
  | some c => exact (hY.t1 x c hx h).2.1
  | none => exact Nat.le_of_lt (hY.lv x hx h)
theorem mgr_ok {Ok : X → Prop} (hY : SysOk Y n Ok) : ∀ (k : Nat) (x : X) (F : List Fo) (K : List (X × Nat)), Ok x → Y.rk x < k → Good n F → Kok Y n F K →
    BF n (Y.φ x) (Y.lev x) F (mgr Y k x (F, K)).1.1 (mgr Y k x (F, K)).2 ∧ Kok Y n (mgr Y k x (F, K)).1.1 (mgr Y k x (F, K)).1.2 := by
  intro k
  induction k with
  | zero => intro x F K _ h; omega
  | succ k ih =>
    intro x F K hx hk hg hK
    cases ht : Y.term x with
    | some c =>
      rw [mgr_term ht]
      obtain ⟨h1, h2, h3⟩ := hY.t1 x c hx ht
      refine ⟨?_, hK⟩
      have hb := BF_leaf (b := decide (c = 1)) hg h3
      have ec : (if decide (c = 1) = true then 1 else 0) = c := by
        have : c = 0 ∨ c = 1 := by omega
        rcases this with rfl | rfl <;> rfl
      rw [ec] at hb
      exact hb.mono h2
    | none =>
      cases hl : lookK K x with
      | some w =>
        rw [mgr_hit ht hl]
        exact ⟨BF_hit hg (hK _ (look_mem hl)), hK⟩
      | none =>
        obtain ⟨o0, r0, l0⟩ := hY.o0 x hx ht
        obtain ⟨o1, r1, l1⟩ := hY.o1 x hx ht
        have i0 := ih (Y.k0 x) F K o0 (by omega) hg hK
        generalize e0 : mgr Y k (Y.k0 x) (F, K) = R0 at i0
        obtain ⟨⟨F1, K1⟩, a⟩ := R0
        dsimp only at i0
        obtain ⟨g1, ⟨x1, p1⟩, _⟩ := i0.1.hit hg (hY.le o0)
        have i1 := ih (Y.k1 x) F1 K1 o1 (by omega) g1 i0.2
        generalize e1 : mgr Y k (Y.k1 x) (F1, K1) = R1 at i1
        obtain ⟨⟨F2, K2⟩, b⟩ := R1
        dsimp only at i1
        obtain ⟨g2, ⟨x2, p2⟩, _⟩ := i1.1.hit g1 (hY.le o1)
        rw [mgr_new ht hl e0 e1]
        have hv := hY.lv x hx ht
        have hb := BF_fork hg hv (i0.1.mono l0) (i1.1.mono l1) (hY.f0 x hx ht) (hY.f1 x hx ht)
        refine ⟨hb, ?_⟩
        obtain ⟨g3, _, h3⟩ := hb.hit hg (Nat.le_of_lt hv)
        dsimp only
        have hpre : ∃ e, (mkF F2 (Y.lev x) a b).1 = F2 ++ e := by
          unfold mkF
          split
          · exact ⟨[], by simp⟩
          · split
            · exact ⟨[], by simp⟩
            · exact ⟨_, rfl⟩
        intro p hp
        rcases List.mem_append.1 hp with h | h
        · obtain ⟨e, he⟩ := hpre
          rw [he]; exact (i1.2 p h).pre g2
        · rw [List.mem_singleton.1 h]; exact h3
theorem mgr_top {Ok : X → Prop} (hY : SysOk Y n Ok) (hx : Ok x) (hk : Y.rk x < k) : fromT n (Y.φ x) = ((mgr Y k x ([], [])).1.1, (mgr Y k x ([], [])).2) :=
  BF_top ((mgr_ok hY k x [] [] hx hk Good.nil (fun p hp => by cases hp)).1.mono (Nat.zero_le _))
def cpl (n t : Nat) : Nat := 2 ^ n - 1 - t
theorem cpl_bit (ht : t < 2 ^ n) : (cpl n t).testBit j = (decide (j < n) && !t.testBit j) := by
  unfold cpl
  have := Nat.testBit_two_pow_sub_succ (x := t) (n := n) ht j
  rw [show 2 ^ n - 1 - t = 2 ^ n - (t + 1) by omega]
  exact this
theorem cpl_lt : cpl n t < 2 ^ n := by unfold cpl; have := Nat.two_pow_pos n; omega
def dualS (A : List Fo) (n : Nat) : GSys Nat :=
  ⟨fun r => if r < 2 then some (1 - r) else none, fun r => srvF n A r, fun r => (A.getD (r - 2) default).hi, fun r => (A.getD (r - 2) default).lo, id, fun r t => !valN A (cpl n t) r⟩
theorem dualS_ok (hA : Good n A) : SysOk (dualS A n) n (fun r => r < A.length + 2) := by
  have hge : ∀ x, (dualS A n).term x = none → ¬ x < 2 := fun x h hc => by simp [dualS, hc] at h
  have hsv : ∀ x, ¬ x < 2 → (dualS A n).lev x = (A.getD (x - 2) default).v := fun x h => by show srvF n A x = _; unfold srvF; rw [if_neg h]
  refine ⟨fun x c hx h => ?_, fun x hx h => ?_, fun x hx h => ?_, fun x hx h => ?_, fun x hx h t ht hb => ?_, fun x hx h t ht hb => ?_⟩
  · by_cases h2 : x < 2
    · have hc : 1 - x = c := by simpa [dualS, h2] using h
      refine ⟨by omega, by show srvF n A x ≤ n; unfold srvF; rw [if_pos h2]; exact Nat.le_refl _, fun t ht => ?_⟩
      show (!valN A (cpl n t) x) = _
      rw [valN_lt h2, ← hc]
      have : x = 0 ∨ x = 1 := by omega
      rcases this with rfl | rfl <;> rfl
    · simp [dualS, h2] at h
  · rw [hsv x (hge x h)]; exact (hA.ok _ (by have := hge x h; omega)).v
  · have h2 := hge x h
    have ho := hA.ok (x - 2) (by omega)
    have := ho.hi
    exact ⟨by show (A.getD (x - 2) default).hi < _; omega, by show (A.getD (x - 2) default).hi < x; omega, by rw [hsv x h2]; exact ho.sh⟩
  · have h2 := hge x h
    have ho := hA.ok (x - 2) (by omega)
    have := ho.lo
    exact ⟨by show (A.getD (x - 2) default).lo < _; omega, by show (A.getD (x - 2) default).lo < x; omega, by rw [hsv x h2]; exact ho.sl⟩
  · have h2 := hge x h
    have hv := (hA.ok (x - 2) (by omega)).v
    rw [hsv x h2] at hb
    show (!valN A (cpl n t) x) = (!valN A (cpl n t) (A.getD (x - 2) default).hi)
    rw [valN_ge hA h2 hx, cpl_bit ht, hb, decide_eq_true hv]; simp
  · have h2 := hge x h
    have hv := (hA.ok (x - 2) (by omega)).v
    rw [hsv x h2] at hb
    show (!valN A (cpl n t) x) = (!valN A (cpl n t) (A.getD (x - 2) default).lo)
    rw [valN_ge hA h2 hx, cpl_bit ht, hb]; simp
end Go.Dg
/- Dg4. -/
set_option linter.unusedVariables false
set_option linter.unusedSectionVars false
set_option linter.unusedSimpArgs false
namespace Go.Dg
variable {F G D e A B : List Fo} {f : Fo} {n m i j k s t r u v w nx n1 l : Nat} {tab φ φ0 φ1 : Nat → Bool}
theorem set_bit (hb : i < n) (ht : t < 2 ^ n) : (t ||| 2 ^ i) < 2 ^ n := Nat.or_lt_two_pow ht (Nat.pow_lt_pow_right (by omega) hb)
theorem or_bit : (t ||| 2 ^ i).testBit j = (t.testBit j || decide (i = j)) := by rw [Nat.testBit_or, Nat.testBit_two_pow]
def Mono (n : Nat) (tab : Nat → Bool) : Prop := ∀ t i, t < 2 ^ n → i < n → tab t = true → tab (t ||| 2 ^ i) = true
end Go.Dg
/- Dg5. -/
set_option linter.unusedVariables false
set_option linter.unusedSectionVars false
set_option linter.unusedSimpArgs false
namespace Go.Dg
variable {F G D e A B : List Fo} {f : Fo} {n m i j k s t r u v w nx n1 l : Nat} {tab φ φ0 φ1 : Nat → Bool} {p q : Nat → Bool}
def addL (a b : List Nat) : List Nat := List.zipWith (· + ·) a b
def wid (a : List Nat) : List Nat := addL (a ++ [0]) (0 :: a)
def widN : Nat → List Nat → List Nat
  | 0, a => a
  | k + 1, a => widN k (wid a)
theorem widN_s : ∀ (k : Nat) (a : List Nat), widN (k + 1) a = wid (widN k a)
  | 0, a => rfl
  | k + 1, a => by show widN (k + 1) (wid a) = _; rw [widN_s k (wid a)]; rfl
theorem addL_len {a b : List Nat} (h : a.length = b.length) : (addL a b).length = a.length := by unfold addL; rw [List.length_zipWith, h]; omega
theorem wid_len {a : List Nat} : (wid a).length = a.length + 1 := by unfold wid; rw [addL_len (by simp)]; simp
theorem addL_at {a b : List Nat} (h : a.length = b.length) : (addL a b).getD k 0 = a.getD k 0 + b.getD k 0 := by
  unfold addL
  rw [List.getD_eq_getElem?_getD, List.getD_eq_getElem?_getD, List.getD_eq_getElem?_getD, List.getElem?_zipWith]
  by_cases hk : k < a.length
  · rw [List.getElem?_eq_getElem hk, List.getElem?_eq_getElem (h ▸ hk)]; rfl
  · rw [List.getElem?_eq_none (by omega), List.getElem?_eq_none (by omega)]; rfl
theorem app0_at {a : List Nat} : (a ++ [0]).getD k 0 = a.getD k 0 := by
  rw [List.getD_eq_getElem?_getD, List.getD_eq_getElem?_getD]
  by_cases hk : k < a.length
  · rw [List.getElem?_append_left hk]
  · rw [List.getElem?_append_right (by omega), List.getElem?_eq_none (l := a) (by omega)]
    by_cases h : k - a.length = 0
    · rw [h]; rfl
    · rw [List.getElem?_eq_none (by simp; omega)]
def cN (n : Nat) (F : List Fo) : Nat → List (List Nat)
  | 0 => [[0], [1]]
  | k + 1 => cN n F k ++ [addL (widN (srvF n F (F.getD k default).lo - (F.getD k default).v - 1) ((cN n F k).getD (F.getD k default).lo []) ++ [0])
      (0 :: widN (srvF n F (F.getD k default).hi - (F.getD k default).v - 1) ((cN n F k).getD (F.getD k default).hi []))]
theorem cN_len : ∀ k, (cN n F k).length = k + 2
  | 0 => rfl
  | k + 1 => by rw [cN, List.length_append, cN_len k]; rfl
theorem cN_pre : ∀ (j k : Nat), r < k + 2 → (cN n F (k + j)).getD r [] = (cN n F k).getD r []
  | 0, k, h => rfl
  | j + 1, k, h => by
    rw [show k + (j + 1) = (k + j) + 1 by omega, cN, List.getD_eq_getElem?_getD, List.getElem?_append_left (by rw [cN_len]; omega), ← List.getD_eq_getElem?_getD]
    exact cN_pre j k h
def cAt (n : Nat) (F : List Fo) (r : Nat) : List Nat := (cN n F F.length).getD r []
theorem cAt_k (h : r < k + 2) (hk : k ≤ F.length) : (cN n F k).getD r [] = cAt n F r := by
  unfold cAt
  obtain ⟨j, e⟩ : ∃ j, F.length = k + j := ⟨F.length - k, by omega⟩
  rw [e, cN_pre j k h]
theorem cAt_fork (hg : Good n F) (h2 : ¬ r < 2) (hr : r < F.length + 2) : cAt n F r = addL (widN (srvF n F (F.getD (r - 2) default).lo - (F.getD (r - 2) default).v - 1) (cAt n F (F.getD (r - 2) default).lo) ++ [0])
      (0 :: widN (srvF n F (F.getD (r - 2) default).hi - (F.getD (r - 2) default).v - 1) (cAt n F (F.getD (r - 2) default).hi)) := by
  have ho := hg.ok (r - 2) (by omega)
  have hl := ho.lo; have hh := ho.hi
  obtain ⟨k, rfl⟩ : ∃ k, r = k + 2 := ⟨r - 2, by omega⟩
  rw [Nat.add_sub_cancel] at *
  rw [← cAt_k (k := k + 1) (r := k + 2) (by omega) (by omega), cN, List.getD_eq_getElem?_getD, List.getElem?_append_right (by rw [cN_len]; omega), cN_len]
  simp only [Nat.sub_self, List.getElem?_cons_zero, Option.getD_some]
  rw [cAt_k hl (by omega), cAt_k hh (by omega)]
theorem cAt_0 : cAt n F 0 = [0] := by rw [← cAt_k (k := 0) (by omega) (by omega)]; rfl
theorem cAt_1 : cAt n F 1 = [1] := by rw [← cAt_k (k := 0) (by omega) (by omega)]; rfl
def num (n : Nat) (p : Nat → Bool) : Nat := ((List.range (2 ^ n)).filter p).length
instance : Decidable (Ext n i s t) := inferInstanceAs (Decidable (_ ∧ _))
end Go.Dg
/- Dg6. -/
set_option linter.unusedVariables false
set_option linter.unusedSectionVars false
set_option linter.unusedSimpArgs false
namespace Go.Dg
variable {F G D e A B : List Fo} {f : Fo} {n m i j k s t r u v w nx n1 l : Nat} {tab φ φ0 φ1 : Nat → Bool}
def Bnd (F : List Fo) : Prop := ∀ k, k < F.length → (F.getD k default).lo < k + 2 ∧ (F.getD k default).hi < k + 2
theorem Good.bnd (hg : Good n F) : Bnd F := fun k hk => ⟨(hg.ok k hk).lo, (hg.ok k hk).hi⟩
theorem dflt_lo (h : F.length ≤ k) : (F.getD k default).lo = 0 ∧ (F.getD k default).hi = 0 := by
  rw [List.getD_eq_getElem?_getD, List.getElem?_eq_none h]; exact ⟨rfl, rfl⟩
theorem valF_fuelB (hb : Bnd F) : ∀ (k m r : Nat), r ≤ k → r ≤ m → valF F t k r = valF F t m r := by
  intro k
  induction k with
  | zero => intro m r hk hm; rw [valF_lt (by omega), valF_lt (by omega)]
  | succ k ih =>
    intro m r hk hm
    by_cases h2 : r < 2
    · rw [valF_lt h2, valF_lt h2]
    · cases m with
      | zero => omega
      | succ m =>
        have hl : (F.getD (r - 2) default).lo < r ∧ (F.getD (r - 2) default).hi < r := by
          by_cases hr : r - 2 < F.length
          · have := hb (r - 2) hr; omega
          · have := dflt_lo (F := F) (k := r - 2) (by omega); omega
        simp only [valF, if_neg h2]
        rw [ih m _ (by omega) (by omega), ih m _ (by omega) (by omega)]
theorem valN_geB (hb : Bnd F) (h2 : ¬ r < 2) (hr : r < F.length + 2) : valN F t r = if t.testBit (F.getD (r - 2) default).v = true then valN F t (F.getD (r - 2) default).hi else valN F t (F.getD (r - 2) default).lo := by
  have ho := hb (r - 2) (by omega)
  unfold valN
  obtain ⟨k, rfl⟩ : ∃ k, r = k + 1 := ⟨r - 1, by omega⟩
  rw [valF, if_neg h2, valF_fuelB hb k _ _ (by omega) (Nat.le_refl _), valF_fuelB hb k _ _ (by omega) (Nat.le_refl _)]
end Go.Dg
/- Dg7. -/
set_option linter.unusedVariables false
set_option linter.unusedSectionVars false
set_option linter.unusedSimpArgs false
namespace Go.Dg
open Go.Bp Go.Sy
variable {F G D e A B : List Fo} {f : Fo} {n m i j k s t r u v w nx n1 l x y : Nat} {tab φ φ0 φ1 p q : Nat → Bool} {xs : List Nat}
theorem Good.mono (hg : Good n F) (h : n ≤ m) : Good m F := by
  refine ⟨fun k hk => ?_, hg.nd⟩
  have ho := hg.ok k hk
  have key : ∀ r, (F.getD k default).v < srvF n F r → (F.getD k default).v < srvF m F r := fun r hr => by
    unfold srvF at *
    split at hr
    · rename_i hc; rw [if_pos hc]; have := ho.v; omega
    · rename_i hc; rw [if_neg hc]; exact hr
  exact ⟨by have := ho.v; omega, ho.lo, ho.hi, ho.ne, key _ ho.sl, key _ ho.sh⟩
def mB (p : Nat → Bool) (xs : List Nat) : Nat → List Nat
  | 0 => []
  | j + 1 => if (!hasA (mB p xs j) (xs.getD j 0) && p (xs.getD j 0)) = true then mB p xs j ++ [xs.getD j 0] else mB p xs j
def isM (p : Nat → Bool) (x : Nat) : Bool := p x && (List.range x).all fun y => !(p y && decide (sdif y x % 65536 = 0))
theorem isM_iff : isM p x = true ↔ p x = true ∧ ∀ y, y < x → p y = true → ¬ sdif y x % 65536 = 0 := by
  unfold isM
  rw [Bool.and_eq_true, List.all_eq_true]
  refine and_congr_right fun _ => ⟨fun h y hy hp hs => ?_, fun h y hy => ?_⟩
  · have := h y (List.mem_range.2 hy)
    rw [hp, decide_eq_true hs] at this; cases this
  · have := h y (List.mem_range.1 hy)
    cases hp : p y with
    | false => rfl
    | true => rw [decide_eq_false (this hp)]; rfl
theorem sub_refl : sdif x x % 65536 = 0 := sub_bit.2 fun _ h => h
theorem sub_trans (h : sdif x y % 65536 = 0) (h2 : sdif y s % 65536 = 0) : sdif x s % 65536 = 0 := sub_bit.2 fun i hi => sub_bit.1 h2 i (sub_bit.1 h i hi)
theorem isM_ex (hp : p x = true) : ∃ m, m ≤ x ∧ isM p m = true ∧ sdif m x % 65536 = 0 := by
  induction x using Nat.strongRecOn with
  | _ x ih =>
    cases h : isM p x with
    | true => exact ⟨x, Nat.le_refl _, h, sub_refl⟩
    | false =>
      have : ¬ ∀ y, y < x → p y = true → ¬ sdif y x % 65536 = 0 := fun hc => by
        rw [isM_iff.2 ⟨hp, hc⟩] at h; cases h
      simp only [Classical.not_forall, Decidable.not_not] at this
      obtain ⟨y, hy, hpy, hs⟩ := this
      obtain ⟨m, h1, h2, h3⟩ := ih y hy hpy
      exact ⟨m, by omega, h2, sub_trans h3 hs⟩
theorem sub_le (h : sdif x y % 65536 = 0) (hx : x < 65536) (hy : y < 65536) : x ≤ y := by
  have hb := sub_bit.1 h
  have e : x &&& y = x := by
    apply Nat.eq_of_testBit_eq
    intro i
    rw [Nat.testBit_and]
    have := hb i
    unfold bit at this
    rw [Nat.mod_eq_of_lt hx, Nat.mod_eq_of_lt hy] at this
    cases h1 : x.testBit i with
    | false => rfl
    | true => rw [this h1]; rfl
  rw [← e]; exact Nat.and_le_right
structure InOrd (n : Nat) (xs : List Nat) : Prop where
  all : ∀ x, x < 2 ^ n → x ∈ xs
  lt : ∀ x ∈ xs, x < 2 ^ n
  ord : xs.Pairwise fun a b => ¬ sdif b a % 65536 = 0
theorem ntake_s (h : k < xs.length) : xs.take (k + 1) = xs.take k ++ [xs.getD k 0] := by
  rw [List.take_add_one, List.getD_eq_getElem?_getD, List.getElem?_eq_getElem h]; rfl
theorem mB_filter (hx : InOrd n xs) (hn : n ≤ 16) : ∀ j, j ≤ xs.length → mB p xs j = (xs.take j).filter (isM p) := by
  have h16 : 2 ^ n ≤ 65536 := (Nat.pow_le_pow_right (by omega) hn : 2 ^ n ≤ 2 ^ 16)
  intro j
  induction j with
  | zero => intro _; rfl
  | succ j ih =>
    intro hj
    have ih := ih (by omega)
    rw [ntake_s (by omega), List.filter_append, ← ih]
    have hxm : xs.getD j 0 ∈ xs := by rw [List.getD_eq_getElem?_getD, List.getElem?_eq_getElem (by omega), Option.getD_some]; exact List.getElem_mem _
    have hp := hx.ord
    have hsp : xs = xs.take j ++ (xs.getD j 0 :: xs.drop (j + 1)) := by
      conv => lhs; rw [← List.take_append_drop j xs]
      congr 1
      rw [List.drop_eq_getElem_cons (by omega), List.getD_eq_getElem?_getD, List.getElem?_eq_getElem (by omega)]; rfl
    generalize hxj : xs.getD j 0 = x at *
    have e : (!hasA (mB p xs j) x && p x) = isM p x := by
      cases hpx : p x with
      | false => unfold isM; rw [hpx, Bool.and_false, Bool.false_and]
      | true =>
        rw [Bool.and_true, Bool.eq_iff_iff, Bool.not_eq_true', isM_iff]
        refine ⟨fun h => ⟨hpx, fun y hy hpy hs => ?_⟩, fun h => ?_⟩
        · obtain ⟨m, h1, h2, h3⟩ := isM_ex hpy
          have hmx := sub_trans h3 hs
          have hm : m ∈ xs := hx.all m (by have := hx.lt x hxm; omega)
          rw [hsp] at hm hp
          have hmt : m ∈ xs.take j := by
            rcases List.mem_append.1 hm with hm | hm
            · exact hm
            · rcases List.mem_cons.1 hm with rfl | hm
              · omega
              · exact absurd hmx ((List.pairwise_cons.1 (List.pairwise_append.1 hp).2.1).1 m hm)
          have : hasA (mB p xs j) x = true := by
            unfold hasA
            rw [ih, List.any_eq_true]
            exact ⟨m, List.mem_filter.2 ⟨hmt, h2⟩, decide_eq_true hmx⟩
          rw [this] at h; cases h
        · rw [Bool.eq_false_iff]
          intro hc
          unfold hasA at hc
          rw [ih, List.any_eq_true] at hc
          obtain ⟨m, hm, hs⟩ := hc
          obtain ⟨hmt, hmm⟩ := List.mem_filter.1 hm
          have hs := of_decide_eq_true hs
          rw [hsp] at hp
          have hnx := (List.pairwise_append.1 hp).2.2 m hmt x (List.mem_cons_self ..)
          have hle := sub_le hs (by have := hx.lt m (List.mem_of_mem_take hmt); omega) (by have := hx.lt x hxm; omega)
          have hne : ¬ m = x := fun e => hnx (by rw [e]; exact sub_refl)
          exact h.2 m (by omega) (isM_iff.1 hmm).1 hs
    show (if (!hasA (mB p xs j) (xs.getD j 0) && p (xs.getD j 0)) = true then _ else _) = _
    rw [hxj, e]
    cases hm : isM p x with
    | true => rw [if_pos rfl, List.filter_cons_of_pos hm, List.filter_nil]
    | false => rw [if_neg (by simp), List.filter_cons_of_neg (by rw [hm]; simp), List.filter_nil, List.append_nil]
end Go.Dg
/- Dg8. -/
set_option linter.unusedVariables false
set_option linter.unusedSectionVars false
set_option linter.unusedSimpArgs false
namespace Go.Dg
variable {F : List Fo} {n m i j k r q D : Nat} {W a l LW HW : List Nat}
theorem widN_len' : (widN k a).length = a.length + k := by
  induction k with
  | zero => rfl
  | succ k ih => rw [widN_s, wid_len, ih]; omega
theorem wid_le' {B : Nat} (h : ∀ k, W.getD k 0 ≤ B) : ∀ k, (wid W).getD k 0 ≤ 2 * B := fun k => by
  unfold wid
  rw [addL_at (by simp), app0_at]
  cases k with
  | zero => have := h 0; rw [List.getD_cons_zero]; omega
  | succ k => have := h k; have := h (k + 1); rw [List.getD_cons_succ]; omega
theorem widN_le' {B : Nat} (h : ∀ k, a.getD k 0 ≤ B) : ∀ i k, (widN i a).getD k 0 ≤ 2 ^ i * B := fun i => by
  induction i with
  | zero => intro k; have := h k; rw [Nat.pow_zero, Nat.one_mul]; exact this
  | succ i ih =>
    intro k
    rw [widN_s, Nat.pow_succ, Nat.mul_comm (2 ^ i) 2, Nat.mul_assoc]
    exact wid_le' ih k
structure CA (n : Nat) (F : List Fo) (r : Nat) : Prop where
  len : (cAt n F r).length = n - srvF n F r + 1
  le : ∀ q, (cAt n F r).getD q 0 ≤ 2 ^ (n - srvF n F r)
theorem CA_wid (hk : srvF n F r + k ≤ n + 0 ∨ True) (h : CA n F r) (hs : k ≤ srvF n F r) (hn : srvF n F r ≤ n) : (widN k (cAt n F r)).length = n - (srvF n F r - k) + 1 ∧ ∀ q, (widN k (cAt n F r)).getD q 0 ≤ 2 ^ (n - (srvF n F r - k)) := by
  refine ⟨by rw [widN_len', h.len]; omega, fun q => ?_⟩
  have := widN_le' h.le k q
  rwa [← Nat.pow_add, show k + (n - srvF n F r) = n - (srvF n F r - k) by omega] at this
theorem srv_le' (hg : Good n F) (hr : r < F.length + 2) : srvF n F r ≤ n := by
  unfold srvF
  split
  · exact Nat.le_refl _
  · exact Nat.le_of_lt (hg.ok _ (by omega)).v
theorem cAt_ok (hg : Good n F) : ∀ r, r < F.length + 2 → CA n F r := by
  intro r
  induction r using Nat.strongRecOn with
  | _ r ih =>
    intro hr
    by_cases h2 : r < 2
    · have hs : srvF n F r = n := by unfold srvF; rw [if_pos h2]
      have hc : cAt n F r = [r] := by
        have : r = 0 ∨ r = 1 := by omega
        rcases this with rfl | rfl
        · exact cAt_0
        · exact cAt_1
      refine ⟨by rw [hc, hs]; simp, fun q => ?_⟩
      rw [hc, hs, Nat.sub_self]
      cases q with
      | zero => rw [List.getD_cons_zero]; show r ≤ 1; omega
      | succ q => rw [List.getD_cons_succ, List.getD_nil]; exact Nat.zero_le _
    · have ho := hg.ok (r - 2) (by omega)
      have h1 := ho.lo; have h3 := ho.hi
      have il := ih _ (show (F.getD (r - 2) default).lo < r by omega) (by omega)
      have ihh := ih _ (show (F.getD (r - 2) default).hi < r by omega) (by omega)
      have hsl := ho.sl; have hsh := ho.sh; have hv := ho.v
      have hs : srvF n F r = (F.getD (r - 2) default).v := by unfold srvF; rw [if_neg h2]
      have bl := srv_le' hg (show (F.getD (r - 2) default).lo < F.length + 2 by omega)
      have bh := srv_le' hg (show (F.getD (r - 2) default).hi < F.length + 2 by omega)
      have wl := CA_wid (k := srvF n F (F.getD (r - 2) default).lo - (F.getD (r - 2) default).v - 1) (.inr trivial) il (by omega) bl
      have wh := CA_wid (k := srvF n F (F.getD (r - 2) default).hi - (F.getD (r - 2) default).v - 1) (.inr trivial) ihh (by omega) bh
      have e1 : n - (srvF n F (F.getD (r - 2) default).lo - (srvF n F (F.getD (r - 2) default).lo - (F.getD (r - 2) default).v - 1)) = n - (F.getD (r - 2) default).v - 1 := by omega
      have e2 : n - (srvF n F (F.getD (r - 2) default).hi - (srvF n F (F.getD (r - 2) default).hi - (F.getD (r - 2) default).v - 1)) = n - (F.getD (r - 2) default).v - 1 := by omega
      rw [e1] at wl; rw [e2] at wh
      have hp : 2 ^ (n - (F.getD (r - 2) default).v) = 2 ^ (n - (F.getD (r - 2) default).v - 1) + 2 ^ (n - (F.getD (r - 2) default).v - 1) := by
        obtain ⟨m, hm⟩ : ∃ m, n - (F.getD (r - 2) default).v = m + 1 := ⟨n - (F.getD (r - 2) default).v - 1, by omega⟩
        rw [hm, Nat.pow_succ, Nat.add_sub_cancel]; omega
      have hlen : (widN (srvF n F (F.getD (r - 2) default).lo - (F.getD (r - 2) default).v - 1) (cAt n F (F.getD (r - 2) default).lo) ++ [0]).length = (0 :: widN (srvF n F (F.getD (r - 2) default).hi - (F.getD (r - 2) default).v - 1) (cAt n F (F.getD (r - 2) default).hi)).length := by
        rw [List.length_append, List.length_cons (as := widN _ _), wl.1, wh.1]; rfl
      constructor
      · rw [cAt_fork hg h2 hr, addL_len hlen, List.length_append, wl.1, hs, List.length_singleton]; omega
      · intro q
        rw [cAt_fork hg h2 hr, addL_at hlen, app0_at, hs, hp]
        have h5 := wl.2 q
        cases q with
        | zero => rw [List.getD_cons_zero]; omega
        | succ q => have := wh.2 q; rw [List.getD_cons_succ]; omega
def fa (W : List Nat) (j k : Nat) : Nat := if k < j then W.getD k 0 else 0
def fb (D : Nat) (LW HW : List Nat) (j k : Nat) : Nat := fa LW D k + (if 0 < k ∧ k - 1 < j then HW.getD (k - 1) 0 else 0)
theorem fa_0 : fa W 0 k = 0 := if_neg (by omega)
theorem fa_s : fa W (j + 1) j = fa W j j + W.getD j 0 := by unfold fa; rw [if_pos (Nat.lt_succ_self j), if_neg (Nat.lt_irrefl j), Nat.zero_add]
theorem fa_s' (h : q ≠ j) : fa W (j + 1) q = fa W j q := by
  unfold fa
  by_cases e : q < j
  · rw [if_pos e, if_pos (show q < j + 1 by omega)]
  · rw [if_neg e, if_neg (show ¬ q < j + 1 by omega)]
theorem fb_0 : fb D LW HW 0 k = fa LW D k := by unfold fb; rw [if_neg (by omega), Nat.add_zero]
theorem fb_s : fb D LW HW (j + 1) (j + 1) = fb D LW HW j (j + 1) + HW.getD j 0 := by
  unfold fb
  rw [if_pos (show 0 < j + 1 ∧ j + 1 - 1 < j + 1 by omega), if_neg (show ¬ (0 < j + 1 ∧ j + 1 - 1 < j) by omega), Nat.add_sub_cancel]; omega
theorem fb_s' (h : q ≠ j + 1) : fb D LW HW (j + 1) q = fb D LW HW j q := by
  unfold fb
  congr 1
  by_cases e : 0 < q ∧ q - 1 < j
  · rw [if_pos e, if_pos (show 0 < q ∧ q - 1 < j + 1 by omega)]
  · rw [if_neg e, if_neg (show ¬ (0 < q ∧ q - 1 < j + 1) by omega)]
theorem fa_le {B : Nat} (h : ∀ k, W.getD k 0 ≤ B) : fa W j k ≤ B := by
  unfold fa; split
  · exact h k
  · exact Nat.zero_le _
theorem fb_le {B : Nat} (h : ∀ k, LW.getD k 0 ≤ B) (h2 : ∀ k, HW.getD k 0 ≤ B) : fb D LW HW j k ≤ 2 * B := by
  unfold fb
  have := fa_le (j := D) (k := k) h
  split
  · have := h2 (k - 1); omega
  · omega
theorem fb_end (hL : LW.length = D) (hH : HW.length = D) (hk : k < D + 1) : fb D LW HW D k = (addL (LW ++ [0]) (0 :: HW)).getD k 0 := by
  rw [addL_at (by simp [hL, hH]), app0_at]
  unfold fb fa
  have hout : D ≤ k → LW.getD k 0 = 0 := fun h => by rw [List.getD_eq_getElem?_getD, List.getElem?_eq_none (by omega)]; rfl
  have e1 : (if k < D then LW.getD k 0 else 0) = LW.getD k 0 := by
    by_cases h : k < D
    · rw [if_pos h]
    · rw [if_neg h, hout (by omega)]
  rw [e1]
  cases k with
  | zero => rw [if_neg (by omega), List.getD_cons_zero]
  | succ k => rw [if_pos (show 0 < k + 1 ∧ k + 1 - 1 < D by omega), Nat.add_sub_cancel, List.getD_cons_succ]
end Go.Dg
