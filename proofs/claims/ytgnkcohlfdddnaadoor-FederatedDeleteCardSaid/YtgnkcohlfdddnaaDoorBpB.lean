/- BpB: Bp12 Bp13 Bp14 Bp15 Bp16 Bp17 Bp18 Bp19 Bp20 Bp21 Bp22 Bp23 Bp24, merged. No condition. -/
import Derived.Test.YtgnkcohlfdddnaaDoorBpA
import Derived.Test.YtgnkcohlfdddnaaDoorSymD
import Derived.Lib.TrailingZeros
/- Bp12. -/
set_option linter.unusedVariables false
set_option linter.unusedSectionVars false
set_option linter.unusedSimpArgs false
set_option maxRecDepth 20000
namespace Go.Bp
open Go.Sy
variable {s i j k n p : Nat}
def low (s : Nat) : Nat := Lib.ctz 16 (s % 65536)
def cutK (s k : Nat) : Nat := s % 65536 / 2 ^ k * 2 ^ k
theorem cutK_0 : cutK s 0 = s % 65536 := by simp [cutK]
theorem cutK_lt : cutK s k < 65536 := Nat.lt_of_le_of_lt (Nat.div_mul_le_self _ _) (Nat.mod_lt _ (by decide))
theorem cutK_bit : (cutK s k).testBit i = (decide (k ≤ i) && (s % 65536).testBit i) := by
  unfold cutK
  rw [Nat.testBit_mul_two_pow, Nat.testBit_div_two_pow]
  by_cases h : k ≤ i
  · simp [h]
  · simp [h]
theorem mod_bit (h : i < 16) : (s % 65536).testBit i = s.testBit i := by
  rw [show (65536 : Nat) = 2 ^ 16 by rfl, Nat.testBit_mod_two_pow]; simp [h]
theorem big_bit (h : 16 ≤ i) : (s % 65536).testBit i = false := by
  rw [show (65536 : Nat) = 2 ^ 16 by rfl, Nat.testBit_mod_two_pow]; simp; omega
theorem mem_gap (hk : k ≤ p) (h : ∀ i, k ≤ i → i < p → s.testBit i = false) : mem s p = mem s k := by
  induction p with
  | zero => have : k = 0 := by omega
            subst this; rfl
  | succ p ih =>
    by_cases e : k = p + 1
    · subst e; rfl
    · rw [mem_f (h p (by omega) (by omega))]
      exact ih (by omega) (fun i h1 h2 => h i h1 (by omega))
structure NextM (s k : Nat) (p : Nat) : Prop where
  ge : k ≤ p
  lt : p < 16
  mem : mem s (p + 1) = mem s k ++ [(p : Int)]
  len : memL s (p + 1) = memL s k + 1
  cut : U (sand (cutK s k) (cutK s k + 65535)) = U (cutK s (p + 1))
theorem next_mem (h : ¬ cutK s k % 65536 = 0) : NextM s k (low (cutK s k)) := by
  have hlt := cutK_lt (s := s) (k := k)
  generalize hr : cutK s k = r at *
  rw [Nat.mod_eq_of_lt hlt] at h
  obtain ⟨m, hm, hp⟩ := Lib.ctzFrom_spec 16 r (by omega) (by simpa using hlt)
  have e : low r = Lib.ctzFrom 16 r := by unfold low; rw [Nat.mod_eq_of_lt hlt]; simp [Lib.ctz, h]
  rw [e]
  generalize Lib.ctzFrom 16 r = p at *
  have hb : ∀ i, r.testBit i = (decide (p ≤ i) && (2 * m + 1).testBit (i - p)) := fun i => by
    rw [hm, Nat.mul_comm, Nat.testBit_mul_two_pow]
  have hbp : r.testBit p = true := by rw [hb]; simp
  have hk : k ≤ p ∧ (s % 65536).testBit p = true := by
    rw [← hr, cutK_bit] at hbp; simpa using hbp
  have hgap : ∀ i, k ≤ i → i < p → s.testBit i = false := fun i h1 h2 => by
    have h3 : r.testBit i = false := by rw [hb]; simp; omega
    rw [← hr, cutK_bit] at h3
    rw [← mod_bit (by omega)]
    simpa [h1] using h3
  have hsp : s.testBit p = true := by rw [← mod_bit hp]; exact hk.2
  have hmem : mem s (p + 1) = mem s k ++ [(p : Int)] := by rw [mem_t hsp, mem_gap hk.1 hgap]
  refine ⟨hk.1, hp, hmem, by unfold memL; rw [hmem]; simp, ?_⟩
  unfold U
  congr 1
  have e1 : (r + 65535) % 65536 = r - 1 := by omega
  unfold sand
  rw [mod_and, hr, e1, Nat.mod_eq_of_lt hlt, Nat.mod_eq_of_lt cutK_lt]
  refine Nat.eq_of_testBit_eq (fun i => ?_)
  have e2 : r - 1 = 2 ^ (p + 1) * m + (2 ^ p - 1) := by
    have h2 : 0 < 2 ^ p := Nat.two_pow_pos p
    rw [hm, Nat.pow_succ, Nat.mul_add, Nat.mul_one, ← Nat.mul_assoc]; omega
  have h2 : 2 ^ p - 1 < 2 ^ (p + 1) := by have h2 : 0 < 2 ^ p := Nat.two_pow_pos p; rw [Nat.pow_succ]; omega
  rw [Nat.testBit_and, e2, Nat.testBit_two_pow_mul_add _ h2, cutK_bit]
  have hs : r.testBit i = (decide (k ≤ i) && (s % 65536).testBit i) := by rw [← hr, cutK_bit]
  by_cases c : p + 1 ≤ i
  · have hk' : decide (k ≤ i) = true := by simp; omega
    rw [hk', Bool.true_and] at hs
    have hx : r.testBit i = m.testBit (i - (p + 1)) := by
      rw [hb]
      have : i - p = (i - (p + 1)) + 1 := by omega
      rw [this, Nat.testBit_succ, show (2 * m + 1) / 2 = m by omega]
      simp; omega
    rw [if_neg (by omega), ← hs, hx]
    simp [c]
  · rw [if_pos (by omega), Nat.testBit_two_pow_sub_one]
    have : decide (p + 1 ≤ i) = false := by simpa using c
    rw [this, Bool.false_and]
    by_cases c2 : i < p
    · have : r.testBit i = false := by rw [hb]; simp; omega
      rw [this]; simp
    · simp [c2]
theorem last_mem (h : cutK s k % 65536 = 0) (hk : k ≤ 16) : mem s 16 = mem s k ∧ memL s 16 = memL s k := by
  have e : mem s 16 = mem s k := by
    refine mem_gap hk (fun i h1 h2 => ?_)
    have h3 : (cutK s k).testBit i = false := by
      rw [Nat.mod_eq_of_lt cutK_lt] at h; rw [h]; simp
    rw [cutK_bit] at h3
    rw [← mod_bit h2]
    simpa [h1] using h3
  exact ⟨e, by unfold memL; rw [e]⟩
end Go.Bp
/- Bp13. -/
set_option linter.unusedVariables false
set_option linter.unusedSectionVars false
set_option linter.unusedSimpArgs false
set_option maxRecDepth 20000
namespace Go.Bp
variable {h : Int → Bool} {x : Ex} {t : Nd} {i j q n N : Nat} {A : List Bool} {s : Nat}
structure TabP (h : Int → Bool) (x : Ex) (i : Nat) (A : List Bool) : Prop where
  len : A.length = 60
  tk : A.take i = runA h [] (x.nodes.take i)
theorem TabP.zero : TabP h x 0 (List.replicate 60 false) := ⟨by simp, by simp [runA]⟩
theorem TabP.step (hA : TabP h x i A) (hi : i < x.nodes.length) (h60 : i < 60) {v : Bool} (hv : v = evN h (A.take i) (x.nodes.getD i default)) : TabP h x (i + 1) (A.set i v) := by
  refine ⟨by simp [hA.len], ?_⟩
  have e3 : x.nodes.take (i + 1) = x.nodes.take i ++ [x.nodes.getD i default] := by rw [List.take_add_one]; simp [List.getD_eq_getElem?_getD, hi]
  have e4 : (A.set i v).take (i + 1) = A.take i ++ [v] := by
    rw [List.take_add_one, List.take_set, List.set_eq_of_length_le (by simp; omega)]
    simp [hA.len, h60]
  rw [e3, runA_app, ← hA.tk, e4, hv]; rfl
theorem TabP.root {r : Nat} (hA : TabP h x (r + 1) A) (hr : x.root = (r : Nat)) (hl : r < x.nodes.length) : A.getD r default = hold h x := by
  have h1 := hA.tk
  have e : runA h [] x.nodes = runA h (runA h [] (x.nodes.take (r + 1))) (x.nodes.drop (r + 1)) := by rw [← runA_app, List.take_append_drop]
  obtain ⟨l, hl2⟩ := runA_pre h (runA h [] (x.nodes.take (r + 1))) (x.nodes.drop (r + 1))
  unfold hold
  rw [e, hl2, ← h1, hr, Int.toNat_natCast]
  have hn : (A.take (r + 1)).length = r + 1 := by rw [h1, runA_len, List.length_take]; simp; omega
  have hlA : r < A.length := by rw [List.length_take] at hn; omega
  simp only [List.getD_eq_getElem?_getD]
  rw [List.getElem?_append_left (by omega), List.getElem?_take_of_lt (by omega), List.getElem?_eq_getElem hlA]
  rfl
end Go.Bp
/- Bp14. -/
set_option linter.unusedVariables false
set_option linter.unusedSectionVars false
set_option linter.unusedSimpArgs false
set_option maxRecDepth 20000
namespace Go.Bp
open Go.Sy
variable {l : List Ex} {s q i j k n : Nat}
def fullS (n : Nat) : Nat := 2 ^ n - 1
def satP (l : List Ex) (s i : Nat) : Bool := hold (bitI (s % 65536)) (l.getD i default)
def memN (s n : Nat) : List Nat := (List.range n).filter fun i => s.testBit i
theorem mem_N : mem s n = (memN s n).map fun (i : Nat) => (i : Int) := by
  induction n with
  | zero => rfl
  | succ n ih =>
    unfold memN at *
    rw [List.range_succ, List.filter_append, List.map_append, ← ih]
    cases h : s.testBit n with
    | true => rw [mem_t h]; simp [h]
    | false => rw [mem_f h]; simp [h]
theorem memL_N : memL s n = (memN s n).length := by unfold memL; rw [mem_N]; simp
theorem memN_mem : i ∈ memN s n ↔ i < n ∧ s.testBit i = true := by simp [memN]
def cutG (l : List Ex) (s : Nat) : List Nat → Nat → Nat
  | [], r => r
  | i :: is, r => cutG l s is (if satP l s i = true then r else sdif r (2 ^ i))
def stpG (l : List Ex) (s : Nat) : Nat := cutG l s (memN s 16) s
end Go.Bp
/- Bp15. -/
set_option linter.unusedVariables false
set_option linter.unusedSectionVars false
set_option linter.unusedSimpArgs false
set_option maxRecDepth 20000
namespace Go.Bp
open Go.Sy
variable {s q x y i j k n : Nat}
theorem bit_big (h : 16 ≤ i) : bit x i = false := big_bit h
theorem bit_lt (h : bit x i = true) : i < 16 := by
  refine Classical.byContradiction fun hn => ?_
  rw [bit_big (by omega)] at h; cases h
theorem bit_mod : bit (x % 65536) i = bit x i := by unfold bit; rw [Nat.mod_mod]
theorem bit_sand : bit (sand x y) i = (bit x i && bit y i) := by unfold bit sand; rw [mod_and, Nat.testBit_and]
theorem bit_sor : bit (sor x y) i = (bit x i || bit y i) := by unfold bit sor; rw [mod_or, Nat.testBit_or]
theorem bit_sdif : bit (sdif x y) i = (bit x i && !bit y i) := by
  have h := nand_bit (x := x % 65536) (y := y) (j := i) (Nat.mod_lt _ (by decide))
  by_cases hi : i < 16
  · have e : sdif x y % 65536 = nand (x % 65536) y := by
      unfold sdif nand
      rw [mod_and]; congr 1; omega
    unfold bit
    rw [e, h, mod_bit hi (s := y)]
  · rw [bit_big (by omega), bit_big (x := x) (by omega)]; rfl
theorem bit_pow (hk : k < 16) : bit (2 ^ k) i = decide (i = k) := by
  have h : 2 ^ k < 65536 := by rw [show (65536 : Nat) = 2 ^ 16 by rfl]; exact Nat.pow_lt_pow_right (by decide) hk
  unfold bit
  rw [Nat.mod_eq_of_lt h, Nat.testBit_two_pow]
  simp only [decide_eq_decide]; exact ⟨fun h => h.symm, fun h => h.symm⟩
theorem bit_full (hn : n ≤ 16) : bit (fullS n) i = decide (i < n) := by
  have h : 2 ^ n ≤ 65536 := by rw [show (65536 : Nat) = 2 ^ 16 by rfl]; exact Nat.pow_le_pow_right (by decide) hn
  have h2 : 0 < 2 ^ n := Nat.two_pow_pos n
  unfold bit fullS
  rw [Nat.mod_eq_of_lt (by omega), Nat.testBit_two_pow_sub_one]
theorem bit_0 : bit 0 i = false := by simp [bit]
theorem ext_bit : x % 65536 = y % 65536 ↔ ∀ i, i < 16 → bit x i = bit y i := by
  refine ⟨fun h i _ => by unfold bit; rw [h], fun h => Nat.eq_of_testBit_eq fun i => ?_⟩
  by_cases hi : i < 16
  · exact h i hi
  · rw [big_bit (by omega), big_bit (by omega)]
theorem zero_bit : x % 65536 = 0 ↔ ∀ i, i < 16 → bit x i = false := by
  have := ext_bit (x := x) (y := 0)
  simp only [bit_0, Nat.zero_mod] at this
  exact this
theorem ne_bit : ¬ x % 65536 = 0 ↔ ∃ i, i < 16 ∧ bit x i = true := by
  rw [zero_bit]
  refine ⟨fun h => Classical.byContradiction fun hn => h fun i hi => ?_, fun ⟨i, hi, hb⟩ h => by rw [h i hi] at hb; cases hb⟩
  cases e : bit x i with
  | false => rfl
  | true => exact absurd ⟨i, hi, e⟩ hn
theorem sub_bit : sdif x y % 65536 = 0 ↔ ∀ i, bit x i = true → bit y i = true := by
  rw [zero_bit]
  refine ⟨fun h i hx => ?_, fun h i _ => ?_⟩
  · have := h i (bit_lt hx)
    rw [bit_sdif, hx] at this
    simpa using this
  · rw [bit_sdif]
    cases hx : bit x i with
    | false => rfl
    | true => rw [h i hx]; rfl
theorem bits_lt (h : ∀ i, bit s i = true → i < n) : s % 65536 < 2 ^ n := by
  refine Nat.lt_of_not_le fun hge => ?_
  obtain ⟨k, hk1, hk2⟩ := Nat.exists_ge_and_testBit_of_ge_two_pow hge
  have := h k hk2
  omega
theorem bits_4096 (h : ∀ i, bit s i = true → i < n) (hn : n ≤ 12) : s % 65536 < 4096 := by
  have := bits_lt h
  have h2 : 2 ^ n ≤ 4096 := by rw [show (4096 : Nat) = 2 ^ 12 by rfl]; exact Nat.pow_le_pow_right (by decide) hn
  omega
def srvA (acc : Nat) : List Nd → Nat
  | [] => acc
  | t :: ts => srvA (if t.kind = 1 then sor acc (2 ^ t.server.toNat) else acc) ts
theorem srvA_snoc (acc : Nat) (ts : List Nd) (t : Nd) : srvA acc (ts ++ [t]) = if t.kind = 1 then sor (srvA acc ts) (2 ^ t.server.toNat) else srvA acc ts := by
  induction ts generalizing acc with
  | nil => rfl
  | cons u ts ih => simp only [List.cons_append, srvA, ih]
theorem srvA_bit (acc : Nat) (ts : List Nd) (h : ∀ t ∈ ts, t.kind = 1 → 0 ≤ t.server ∧ t.server < 12) : bit (srvA acc ts) i = (bit acc i || ts.any fun t => decide (t.kind = 1) && decide (t.server = (i : Nat))) := by
  induction ts generalizing acc with
  | nil => simp [srvA]
  | cons t ts ih =>
    simp only [srvA]
    rw [ih _ (fun u hu => h u (List.mem_cons_of_mem _ hu)), List.any_cons]
    by_cases hk : t.kind = 1
    · have := h t List.mem_cons_self hk
      rw [if_pos hk, bit_sor, bit_pow (by omega), Bool.or_assoc]
      congr 2
      simp only [hk, decide_true, Bool.true_and, decide_eq_decide]
      omega
    · rw [if_neg hk]; simp [hk]
end Go.Bp
/- Bp16. -/
set_option linter.unusedVariables false
set_option linter.unusedSectionVars false
set_option linter.unusedSimpArgs false
set_option maxRecDepth 20000
namespace Go.Bp
open Go.Sy
variable {l : List Ex} {s q x y i j k n L : Nat} {h g : Int → Bool} {t : Nd}
def LeB (a b : List Bool) : Prop := a.length = b.length ∧ ∀ j, a.getD j false = true → b.getD j false = true
def AllV (l : List Ex) : Prop := ∀ i, i < l.length → XOk (l.getD i default)
theorem cutG_bit (s : Nat) (is : List Nat) : ∀ r, (∀ i ∈ is, i < 16) → bit (cutG l s is r) j = (bit r j && (!is.contains j || satP l s j)) := by
  induction is with
  | nil => intro r _; simp [cutG]
  | cons i is ih =>
    intro r h
    simp only [cutG]
    rw [ih _ (fun i hi => h i (List.mem_cons_of_mem _ hi))]
    have hi := h i List.mem_cons_self
    rw [List.contains_cons]
    by_cases hs : satP l s i = true
    · rw [if_pos hs]
      by_cases e : j = i
      · subst e; simp [hs]
      · have : (j == i) = false := by simpa using e
        rw [this]; simp
    · rw [if_neg hs, bit_sdif, bit_pow hi]
      by_cases e : j = i
      · subst e; simp [hs]
      · have : (j == i) = false := by simpa using e
        rw [this]; simp [e]
theorem stepG_bit : bit (stpG l s) j = (bit s j && satP l s j) := by
  unfold stpG
  rw [cutG_bit s _ _ (fun i hi => (memN_mem.1 hi).1)]
  cases hb : bit s j with
  | false => rfl
  | true =>
    have : (memN s 16).contains j = true := by
      rw [List.contains_iff_mem, memN_mem]
      have := bit_lt hb
      exact ⟨this, by unfold bit at hb; rwa [mod_bit this] at hb⟩
    rw [this]; rfl
def itG (l : List Ex) (s : Nat) : Nat → Nat
  | 0 => s % 65536
  | n + 1 => stpG l (itG l s n) % 65536
def grt (l : List Ex) (s : Nat) : Nat := itG l s 16
theorem itG_lt : itG l s n < 65536 := by cases n <;> exact Nat.mod_lt _ (by decide)
theorem itG_s_bit : bit (itG l s (n + 1)) j = (bit (itG l s n) j && satP l (itG l s n) j) := by
  show bit (stpG l (itG l s n) % 65536) j = _
  rw [bit_mod, stepG_bit]
theorem itG_sub (h : bit (itG l s n) j = true) : bit s j = true := by
  induction n with
  | zero => rw [← bit_mod]; exact h
  | succ n ih => rw [itG_s_bit] at h; exact ih (by simp at h; exact h.1)
theorem memL_sub (h : ∀ i, bit x i = true → bit y i = true) : memL x 16 ≤ memL y 16 := by
  have key : ∀ j, j ≤ 16 → memL x j ≤ memL y j := by
    intro j
    induction j with
    | zero => intro _; simp [memL_0]
    | succ j ih =>
      intro hj
      have := ih (by omega)
      have hx : bit x j = x.testBit j := mod_bit (by omega)
      have hy : bit y j = y.testBit j := mod_bit (by omega)
      cases hxb : x.testBit j with
      | true => rw [memL_t hxb, memL_t (by rw [← hy]; exact h j (by rw [hx]; exact hxb))]; omega
      | false =>
        rw [memL_f hxb]
        cases hyb : y.testBit j with
        | true => rw [memL_t hyb]; omega
        | false => rw [memL_f hyb]; exact this
  exact key 16 (by omega)
theorem memL_sub_lt (h : ∀ i, bit x i = true → bit y i = true) (hi : bit x i = false) (hy : bit y i = true) : memL x 16 < memL y 16 := by
  have hi16 := bit_lt hy
  have key : ∀ j, j ≤ 16 → memL x j + (if i < j then 1 else 0) ≤ memL y j := by
    intro j
    induction j with
    | zero => intro _; simp [memL_0]
    | succ j ih =>
      intro hj
      have := ih (by omega)
      have ex : bit x j = x.testBit j := mod_bit (by omega)
      have ey : bit y j = y.testBit j := mod_bit (by omega)
      by_cases e : i = j
      · subst e
        rw [memL_f (by rw [← ex]; exact hi), memL_t (by rw [← ey]; exact hy)]
        simp at this ⊢; omega
      · have e2 : (i < j + 1) = (i < j) := propext (by omega)
        simp only [e2]
        cases hxb : x.testBit j with
        | true => rw [memL_t hxb, memL_t (by rw [← ey]; exact h j (by rw [ex]; exact hxb))]; omega
        | false =>
          rw [memL_f hxb]
          cases hyb : y.testBit j with
          | true => rw [memL_t hyb]; omega
          | false => rw [memL_f hyb]; exact this
  have := key 16 (by omega)
  rw [if_pos hi16] at this; omega
theorem itG_next (h : ¬ itG l s (n + 1) = itG l s n) : memL (itG l s (n + 1)) 16 < memL (itG l s n) 16 := by
  have hs : ∀ i, bit (itG l s (n + 1)) i = true → bit (itG l s n) i = true := fun i hi => by rw [itG_s_bit] at hi; simp at hi; exact hi.1
  have : ¬ ∀ i, i < 16 → bit (itG l s (n + 1)) i = bit (itG l s n) i := fun hh => h (by
    have := ext_bit.2 hh
    rwa [Nat.mod_eq_of_lt itG_lt, Nat.mod_eq_of_lt itG_lt] at this)
  obtain ⟨i, hi⟩ := Classical.not_forall.1 this
  obtain ⟨hi16, hne⟩ := Classical.not_imp.1 hi
  cases hb : bit (itG l s n) i with
  | false =>
    cases hb2 : bit (itG l s (n + 1)) i with
    | false => rw [hb, hb2] at hne; exact absurd rfl hne
    | true => rw [hs i hb2] at hb; cases hb
  | true =>
    cases hb2 : bit (itG l s (n + 1)) i with
    | true => rw [hb, hb2] at hne; exact absurd rfl hne
    | false => exact memL_sub_lt hs hb2 hb
theorem itG_stay (h : itG l s (n + 1) = itG l s n) (hm : n ≤ k) : itG l s k = itG l s n := by
  induction k with
  | zero => have : n = 0 := by omega
            subst this; rfl
  | succ k ih =>
    by_cases e : n = k + 1
    · subst e; rfl
    · have := ih (by omega)
      show stpG l (itG l s k) % 65536 = _
      rw [this]; exact h
def Clos (l : List Ex) (q : Nat) : Prop := ∀ i, bit q i = true → satP l q i = true
def isQ (l : List Ex) (s : Nat) : Bool := ((List.range l.length).all fun i => !bit s i || satP l s i) && !decide (s % 65536 = 0)
def unionA (p : Nat → Bool) (acc : Nat) : List Nat → Nat
  | [] => acc
  | q :: qs => unionA p (if p q = true then sor acc q else acc) qs
def unQ (l : List Ex) (s n : Nat) : Nat := unionA (fun q => decide (sdif q s % 65536 = 0) && isQ l q) 0 (List.range n)
def blkA (l : List Ex) (c : Nat) (acc : Nat) : Nat → Nat
  | 0 => acc
  | i + 1 => if satP l c i = true then blkA l c acc i else sor (blkA l c acc i) (2 ^ i)
def spA (l : List Ex) (L s : Nat) : Nat → Nat
  | 0 => s
  | r + 1 => blkA l (sdif (fullS L) (spA l L s r)) (spA l L s r) L
end Go.Bp
/- Bp17. -/
set_option linter.unusedVariables false
set_option linter.unusedSectionVars false
set_option linter.unusedSimpArgs false
set_option maxRecDepth 20000
namespace Go.Bp
open Go.Sy
variable {s q x y i j k n m : Nat} {go : Nat → Bool}
def fd (go : Nat → Bool) (j : Nat) : Nat → Nat × Bool
  | 0 => (j, true)
  | n + 1 => if go (j + 1) = true then fd go (j + 1) n else (j + 1, false)
theorem fd_t (h : go (j + 1) = true) : fd go j (n + 1) = fd go (j + 1) n := by simp [fd, h]
theorem fd_f (h : go (j + 1) = false) : fd go j (n + 1) = (j + 1, false) := by simp [fd, h]
theorem fd_go (h0 : go j = true) (h : (fd go j n).2 = true) : go (fd go j n).1 = true ∧ (fd go j n).1 = j + n := by
  induction n generalizing j with
  | zero => exact ⟨h0, rfl⟩
  | succ n ih =>
    by_cases hg : go (j + 1) = true
    · rw [fd_t hg] at h ⊢
      have := ih hg h
      exact ⟨this.1, by rw [this.2]; omega⟩
    · rw [fd_f (by simpa using hg)] at h; cases h
theorem fd_add (h : (fd go j n).2 = true) : fd go j (n + m) = fd go (j + n) m := by
  induction n generalizing j with
  | zero => rw [Nat.zero_add]; rfl
  | succ n ih =>
    by_cases hg : go (j + 1) = true
    · rw [fd_t hg] at h
      rw [show n + 1 + m = n + m + 1 by omega, fd_t hg, ih h, show j + 1 + n = j + (n + 1) by omega]
    · rw [fd_f (by simpa using hg)] at h; cases h
theorem fd_add_f (h : (fd go j n).2 = false) : fd go j (n + m) = fd go j n := by
  induction n generalizing j with
  | zero => cases h
  | succ n ih =>
    by_cases hg : go (j + 1) = true
    · rw [fd_t hg] at h ⊢
      rw [show n + 1 + m = n + m + 1 by omega, fd_t hg, ih h]
    · have hg : go (j + 1) = false := by simpa using hg
      rw [fd_f hg, show n + 1 + m = n + m + 1 by omega, fd_f hg]
def comb (m k : Nat) : List Nat := (List.range (2 ^ m)).filter fun n => decide ((memL n 16) = k)
def lowV (n : Nat) : Nat := sand n (vneg n)
def upV (n : Nat) : Nat := n + lowV n
def nxtV (n : Nat) : Nat := sor (upV n) (vquo (sxor n (upV n)) (lowV n) % 4294967296 / 2 ^ 2)
def combOk (m k : Nat) : Bool :=
  let l := comb m k
  decide (0 < l.length) && decide (l.length ≤ 64) && decide (l.getD 0 0 = 2 ^ k - 1) && (List.range l.length).all fun j =>
    let n := l.getD j 0
    decide (n < 2 ^ m) && (if n = 0 then decide (j + 1 = l.length) else decide (lowV n % 4294967296 ≠ 0) && (if j + 1 < l.length then decide (nxtV n % 4294967296 = l.getD (j + 1) 0) else !decide (nxtV n % 4294967296 < 2 ^ m)))
theorem comb_ok : ∀ m, m < 7 → ∀ k, k < m + 1 → combOk m k = true := by decide +kernel
structure CombN (m k j n : Nat) : Prop where
  lt : n < 2 ^ m
  zero : n = 0 → j + 1 = (comb m k).length
  low : n ≠ 0 → lowV n % 4294967296 ≠ 0
  next : n ≠ 0 → j + 1 < (comb m k).length → nxtV n % 4294967296 = (comb m k).getD (j + 1) 0
  last : n ≠ 0 → ¬ j + 1 < (comb m k).length → ¬ nxtV n % 4294967296 < 2 ^ m
theorem comb_at (hm : m < 7) (hk : k ≤ m) (hj : j < (comb m k).length) : CombN m k j ((comb m k).getD j 0) := by
  have h := comb_ok m hm k (by omega)
  unfold combOk at h
  simp only [Bool.and_eq_true, decide_eq_true_eq, List.all_eq_true, List.mem_range] at h
  obtain ⟨_, h⟩ := h
  obtain ⟨h1, h2⟩ := h j hj
  refine ⟨h1, fun e => ?_, fun e => ?_, fun e e2 => ?_, fun e e2 => ?_⟩
  · rw [if_pos e] at h2; simpa using h2
  · rw [if_neg e] at h2; simp only [Bool.and_eq_true, decide_eq_true_eq] at h2; exact h2.1
  · rw [if_neg e] at h2; simp only [Bool.and_eq_true, decide_eq_true_eq] at h2; rw [if_pos e2] at h2; simpa using h2.2
  · rw [if_neg e] at h2; simp only [Bool.and_eq_true, decide_eq_true_eq] at h2; rw [if_neg e2] at h2; simpa using h2.2
theorem comb_first (hm : m < 7) (hk : k ≤ m) : 0 < (comb m k).length ∧ (comb m k).length ≤ 64 ∧ (comb m k).getD 0 0 = 2 ^ k - 1 := by
  have h := comb_ok m hm k (by omega)
  unfold combOk at h
  simp only [Bool.and_eq_true, decide_eq_true_eq] at h
  exact ⟨h.1.1.1, h.1.1.2, h.1.2⟩
def pickA (ms : List Nat) (n : Nat) : Nat → Nat
  | 0 => 0
  | i + 1 => if vbit n i = true then sor (pickA ms n i) (2 ^ ms.getD i 0) else pickA ms n i
def pick (s n : Nat) : Nat := pickA (memN s 16) n (memL s 16)
def chs (s k : Nat) : List Nat := (comb (memL s 16) k).map (pick s)
def subsA (s : Nat) : Nat → List Nat
  | 0 => []
  | k + 1 => subsA s k ++ chs s k
def subs (s : Nat) : List Nat := subsA s (memL s 16 + 1)
end Go.Bp
/- Bp18. -/
set_option linter.unusedVariables false
namespace Go.Bp
open Go.Sy
variable {n i j k m s N : Nat} {go : Nat → Bool}
def sbL (s k : Nat) : Nat := (subsA s k).length
theorem sbL_succ : sbL s (k + 1) = sbL s k + (comb (memL s 16) k).length := by unfold sbL; simp [subsA, chs]
theorem sbL_0 : sbL s 0 = 0 := rfl
theorem subsA_app : ∃ r, subsA s (k + n) = subsA s k ++ r := by
  induction n with
  | zero => exact ⟨[], by simp⟩
  | succ n ih =>
    obtain ⟨r, hr⟩ := ih
    exact ⟨r ++ chs s (k + n), by show subsA s (k + n) ++ chs s (k + n) = _; rw [hr, List.append_assoc]⟩
theorem sbL_le (h : k ≤ m) : sbL s k ≤ sbL s m := by
  obtain ⟨r, hr⟩ := subsA_app (s := s) (k := k) (n := m - k)
  rw [show k + (m - k) = m by omega] at hr
  unfold sbL; rw [hr, List.length_append]; omega
theorem subs_at (hk : k ≤ memL s 16) (hi : i < (comb (memL s 16) k).length) : (subs s).getD (sbL s k + i) 0 = pick s ((comb (memL s 16) k).getD i 0) := by
  obtain ⟨r, hr⟩ := subsA_app (s := s) (k := k + 1) (n := memL s 16 - k)
  rw [show k + 1 + (memL s 16 - k) = memL s 16 + 1 by omega] at hr
  unfold subs sbL; rw [hr, show subsA s (k + 1) = subsA s k ++ chs s k from rfl, List.append_assoc]
  have hc : i < (chs s k).length := by unfold chs; simpa using hi
  simp only [List.getD_eq_getElem?_getD]
  rw [List.getElem?_append_right (by omega), Nat.add_sub_cancel_left, List.getElem?_append_left hc]
  unfold chs; simp [List.getElem?_eq_getElem hi]
structure SG (s : Nat) (go : Nat → Bool) (k : Nat) : Prop where
  hle : k ≤ memL s 16 + 1
  hgo : go (sbL s k) = true
  hfd : fd go 0 (subs s).length = fd go (sbL s k) ((subs s).length - sbL s k)
theorem SG.zero (h : go 0 = true) : SG s go 0 := ⟨by omega, h, by rw [sbL_0]; rfl⟩
theorem subs_sb : (subs s).length = sbL s (memL s 16 + 1) := rfl
theorem SG.t (h : SG s go k) (hk : k ≤ memL s 16) (hb : (fd go (sbL s k) (comb (memL s 16) k).length).2 = true) : SG s go (k + 1) ∧ (fd go (sbL s k) (comb (memL s 16) k).length).1 = sbL s (k + 1) := by
  have h1 := fd_go h.hgo hb
  have hl := sbL_le (s := s) (k := k + 1) (m := memL s 16 + 1) (by omega)
  rw [← subs_sb] at hl
  have hs := sbL_succ (s := s) (k := k)
  rw [← hs] at h1
  refine ⟨⟨by omega, by rw [← h1.2]; exact h1.1, ?_⟩, h1.2⟩
  rw [h.hfd, show (subs s).length - sbL s k = (comb (memL s 16) k).length + ((subs s).length - sbL s (k + 1)) by omega, fd_add hb, ← hs]
theorem SG.f (h : SG s go k) (hk : k ≤ memL s 16) (hb : (fd go (sbL s k) (comb (memL s 16) k).length).2 = false) : fd go 0 (subs s).length = fd go (sbL s k) (comb (memL s 16) k).length := by
  have hl := sbL_le (s := s) (k := k + 1) (m := memL s 16 + 1) (by omega)
  rw [← subs_sb] at hl
  have hs := sbL_succ (s := s) (k := k)
  rw [h.hfd, show (subs s).length - sbL s k = (comb (memL s 16) k).length + ((subs s).length - sbL s (k + 1)) by omega, fd_add_f hb]
theorem SG.e (h : SG s go k) (hk : k = memL s 16 + 1) : (fd go 0 (subs s).length).1 = sbL s k := by
  rw [h.hfd, subs_sb, hk, Nat.sub_self]; rfl
end Go.Bp
/- Bp19. -/
set_option linter.unusedVariables false
set_option linter.unusedSimpArgs false
namespace Go.Bp
open Go.Sy
variable {n i j k m s q d x N L : Nat} {p : Nat → Bool} {xs : List Nat}
def hasA (acc : List Nat) (q : Nat) : Bool := acc.any fun m => decide (sdif m q % 65536 = 0)
def minA (p : Nat → Bool) (xs : List Nat) : Nat → List Nat
  | 0 => []
  | j + 1 => if (!decide (xs.getD j 0 % 65536 = 0) && !hasA (minA p xs j) (xs.getD j 0) && p (xs.getD j 0)) = true then minA p xs j ++ [xs.getD j 0] else minA p xs j
def minL (p : Nat → Bool) (xs : List Nat) (j : Nat) : Nat := (minA p xs j).length
theorem minA_0 : minA p xs 0 = [] := rfl
theorem minL_0 : minL p xs 0 = 0 := rfl
theorem minA_z (h : minL p xs j = 0) : minA p xs j = [] := List.eq_nil_of_length_eq_zero h
theorem minA_len : (minA p xs j).length = minL p xs j := rfl
theorem minA_t (h0 : ¬ xs.getD j 0 % 65536 = 0) (h1 : hasA (minA p xs j) (xs.getD j 0) = false) (h2 : p (xs.getD j 0) = true) : minA p xs (j + 1) = minA p xs j ++ [xs.getD j 0] := by
  show (if _ then _ else _) = _
  rw [if_pos (by simp [h0, h1, h2, -List.getD_eq_getElem?_getD])]
theorem minA_f (h : xs.getD j 0 % 65536 = 0 ∨ hasA (minA p xs j) (xs.getD j 0) = true ∨ p (xs.getD j 0) = false) : minA p xs (j + 1) = minA p xs j := by
  show (if _ then _ else _) = _
  rw [if_neg (by rcases h with h | h | h <;> simp [h, -List.getD_eq_getElem?_getD])]
theorem minL_t (h : minA p xs (j + 1) = minA p xs j ++ [x]) : minL p xs (j + 1) = minL p xs j + 1 := by unfold minL; rw [h]; simp
theorem minL_f (h : minA p xs (j + 1) = minA p xs j) : minL p xs (j + 1) = minL p xs j := by unfold minL; rw [h]
theorem minL_le : minL p xs j ≤ j := by
  induction j with
  | zero => exact Nat.le_refl _
  | succ j ih =>
    by_cases h : (!decide (xs.getD j 0 % 65536 = 0) && !hasA (minA p xs j) (xs.getD j 0) && p (xs.getD j 0)) = true
    · have e : minA p xs (j + 1) = minA p xs j ++ [xs.getD j 0] := by show (if _ then _ else _) = _; rw [if_pos h]
      rw [minL_t e]; omega
    · have e : minA p xs (j + 1) = minA p xs j := by show (if _ then _ else _) = _; rw [if_neg h]
      rw [minL_f e]; omega
theorem tk_minA : (minA p xs j).take (minL p xs j) = minA p xs j := List.take_of_length_le (Nat.le_refl _)
theorem minA_mem (h : x ∈ minA p xs j) : ∃ i, i < j ∧ x = xs.getD i 0 ∧ p x = true ∧ ¬ x % 65536 = 0 := by
  induction j with
  | zero => cases h
  | succ j ih =>
    by_cases hc : (!decide (xs.getD j 0 % 65536 = 0) && !hasA (minA p xs j) (xs.getD j 0) && p (xs.getD j 0)) = true
    · have e : minA p xs (j + 1) = minA p xs j ++ [xs.getD j 0] := by show (if _ then _ else _) = _; rw [if_pos hc]
      rw [e, List.mem_append] at h
      rcases h with h | h
      · obtain ⟨i, h1, h2⟩ := ih h; exact ⟨i, by omega, h2⟩
      · rw [List.mem_singleton] at h; subst h
        simp only [Bool.and_eq_true, Bool.not_eq_true', decide_eq_false_iff_not] at hc
        exact ⟨j, by omega, rfl, hc.2, hc.1.1⟩
    · have e : minA p xs (j + 1) = minA p xs j := by show (if _ then _ else _) = _; rw [if_neg hc]
      rw [e] at h
      obtain ⟨i, h1, h2⟩ := ih h; exact ⟨i, by omega, h2⟩
theorem minA_app (ys : List Nat) (h : j ≤ xs.length) : minA p (xs ++ ys) j = minA p xs j := by
  induction j with
  | zero => rfl
  | succ j ih =>
    have ih := ih (by omega)
    have e : (xs ++ ys).getD j 0 = xs.getD j 0 := by simp only [List.getD_eq_getElem?_getD]; rw [List.getElem?_append_left (by omega)]
    simp only [minA, ih, e]
def minW (p : Nat → Bool) (xs : List Nat) : List Nat := minA p xs xs.length
theorem minW_snoc : minW p (xs ++ [x]) = if (!decide (x % 65536 = 0) && !hasA (minW p xs) x && p x) = true then minW p xs ++ [x] else minW p xs := by
  unfold minW
  rw [List.length_append, List.length_singleton]
  have e : (xs ++ [x]).getD xs.length 0 = x := by simp [List.getD_eq_getElem?_getD]
  simp only [minA, e, minA_app [x] (Nat.le_refl _)]
theorem rev_ind {P : List Nat → Prop} (h0 : P []) (hs : ∀ l x, P l → P (l ++ [x])) (l : List Nat) : P l := by
  rw [← List.reverse_reverse l]
  induction l.reverse with
  | nil => exact h0
  | cons x t ih => rw [List.reverse_cons]; exact hs _ _ ih
theorem minW_congr {p' : Nat → Bool} (h : ∀ x ∈ xs, ¬ x % 65536 = 0 → p x = p' x) : minW p xs = minW p' xs := by
  revert h
  refine rev_ind (P := fun xs => (∀ x ∈ xs, ¬ x % 65536 = 0 → p x = p' x) → minW p xs = minW p' xs) (fun _ => rfl) (fun l x ih h => ?_) xs
  have ih := ih (fun y hy => h y (List.mem_append_left _ hy))
  rw [minW_snoc, minW_snoc, ih]
  by_cases h0 : x % 65536 = 0
  · simp [h0]
  · rw [h x (by simp) h0]
theorem pickA_sub {ms : List Nat} (hm : ∀ a ∈ ms, a < 16 ∧ bit s a = true) (hj : j ≤ ms.length) (h : bit (pickA ms n j) i = true) : bit s i = true := by
  induction j with
  | zero => rw [show pickA ms n 0 = 0 from rfl, bit_0] at h; cases h
  | succ j ih =>
    have ih := ih (by omega)
    have hg : ms.getD j 0 ∈ ms := by rw [List.getD_eq_getElem?_getD, List.getElem?_eq_getElem (by omega), Option.getD_some]; exact List.getElem_mem _
    by_cases hv : vbit n j = true
    · rw [show pickA ms n (j + 1) = sor (pickA ms n j) (2 ^ ms.getD j 0) by simp [pickA, hv], bit_sor, bit_pow (hm _ hg).1] at h
      rcases Bool.or_eq_true _ _ ▸ h with h | h
      · exact ih h
      · rw [of_decide_eq_true h]; exact (hm _ hg).2
    · rw [show pickA ms n (j + 1) = pickA ms n j by simp [pickA, hv]] at h; exact ih h
theorem pick_sub (h : bit (pick s n) i = true) : bit s i = true := by
  unfold pick at h
  refine pickA_sub (s := s) (fun a ha => ?_) (by rw [memL_N]; exact Nat.le_refl _) h
  have := memN_mem.1 ha
  exact ⟨this.1, by unfold bit; rw [mod_bit this.1]; exact this.2⟩
theorem subsA_sub (hq : q ∈ subsA s k) (h : bit q i = true) : bit s i = true := by
  induction k with
  | zero => cases hq
  | succ k ih =>
    rcases List.mem_append.1 (show q ∈ subsA s k ++ chs s k from hq) with hq | hq
    · exact ih hq
    · unfold chs at hq
      obtain ⟨c, _, rfl⟩ := List.mem_map.1 hq
      exact pick_sub h
theorem subs_sub (hq : q ∈ subs s) (h : bit q i = true) : bit s i = true := subsA_sub hq h
theorem comb_len (hm : memL s 16 < 7) (hk : k ≤ memL s 16) : (comb (memL s 16) k).length ≤ 64 := (comb_first hm hk).2.1
theorem sbL_64 (hm : memL s 16 < 7) (hk : k ≤ memL s 16 + 1) : sbL s k ≤ 64 * k := by
  induction k with
  | zero => exact Nat.le_refl _
  | succ k ih =>
    have := ih (by omega)
    have := comb_len hm (k := k) (by omega)
    rw [sbL_succ]; omega
theorem subs_448 (hm : memL s 16 < 7) : (subs s).length ≤ 448 := by
  have := sbL_64 hm (k := memL s 16 + 1) (by omega)
  rw [subs_sb]; omega
theorem memL_full6 (hn : n ≤ 6) : memL (fullS n) 16 ≤ 6 := by
  have : n = 0 ∨ n = 1 ∨ n = 2 ∨ n = 3 ∨ n = 4 ∨ n = 5 ∨ n = 6 := by omega
  rcases this with h | h | h | h | h | h | h <;> subst h <;> decide +kernel
theorem memL_6 (hn : n ≤ 6) (h : ∀ i, bit s i = true → i < n) : memL s 16 < 7 := by
  have h1 := memL_sub (x := s) (y := fullS n) (fun i hi => by rw [bit_full (by omega)]; exact decide_eq_true (h i hi))
  have := memL_full6 hn
  omega
end Go.Bp
/- Bp20. -/
set_option linter.unusedVariables false
set_option linter.unusedSimpArgs false
namespace Go.Bp
open Go.Sy
variable {n i j k : Nat} {D D' : Nat → Nat → Bool} {qs : List Nat}
def jxG (p : Nat → Bool) : Nat → Nat → Option Nat
  | _, 0 => none
  | j, n + 1 => if p j = true then some j else jxG p (j + 1) n
def jx (p : Nat → Bool) (n : Nat) : Option Nat := jxG p 0 n
theorem jxG_hit {p : Nat → Bool} (hj : k ≤ j) (hn : j < k + n) (h : p j = true) (hb : ∀ i, i < j → p i = false) : jxG p k n = some j := by
  induction n generalizing k with
  | zero => omega
  | succ n ih =>
    unfold jxG
    by_cases e : k = j
    · subst e; rw [if_pos h]
    · rw [if_neg (by rw [hb k (by omega)]; decide)]; exact ih (by omega) (by omega)
theorem jx_hit {p : Nat → Bool} (hn : j < n) (h : p j = true) (hb : ∀ i, i < j → p i = false) : jx p n = some j := jxG_hit (Nat.zero_le _) (by omega) h hb
theorem jxG_none {p : Nat → Bool} (hb : ∀ i, i < k + n → p i = false) : jxG p k n = none := by
  induction n generalizing k with
  | zero => rfl
  | succ n ih => unfold jxG; rw [if_neg (by rw [hb k (by omega)]; decide)]; exact ih (fun i hi => hb i (by omega))
theorem jx_none {p : Nat → Bool} (hb : ∀ i, i < n → p i = false) : jx p n = none := jxG_none (by simpa using hb)
theorem jxG_some {p : Nat → Bool} (h : jxG p k n = some j) : k ≤ j ∧ j < k + n ∧ p j = true ∧ ∀ i, k ≤ i → i < j → p i = false := by
  induction n generalizing k with
  | zero => cases h
  | succ n ih =>
    unfold jxG at h
    split at h
    · cases h; exact ⟨Nat.le_refl _, by omega, ‹_›, fun i h1 h2 => by omega⟩
    · rename_i hn
      obtain ⟨h1, h2, h3, h4⟩ := ih h
      refine ⟨by omega, by omega, h3, fun i hi hi2 => ?_⟩
      by_cases e : i = k
      · subst e; simpa using hn
      · exact h4 i (by omega) hi2
theorem jx_some {p : Nat → Bool} (h : jx p n = some j) : j < n ∧ p j = true ∧ ∀ i, i < j → p i = false := by
  have := jxG_some h; exact ⟨by omega, this.2.2.1, fun i hi => this.2.2.2 i (Nat.zero_le _) hi⟩
theorem jx_no {p : Nat → Bool} (h : jx p n = none) : ∀ i, i < n → p i = false := fun i hi => by
  cases e : p i with
  | false => rfl
  | true =>
    exfalso
    have key : ∀ (m k : Nat), jxG p k m = none → ∀ i, k ≤ i → i < k + m → p i = false := by
      intro m
      induction m with
      | zero => intro k _ i h1 h2; omega
      | succ m ih =>
        intro k hk i h1 h2
        unfold jxG at hk
        split at hk
        · cases hk
        · rename_i hn
          by_cases e : i = k
          · subst e; simpa using hn
          · exact ih (k + 1) hk i (by omega) (by omega)
    rw [key n 0 h i (by omega) (by omega)] at e; cases e
def dsjG (D : Nat → Nat → Bool) (n : Nat) : Option (Nat × Nat) := (jx (fun i => (jx (D i) n).isSome) n).bind fun i => (jx (D i) n).map fun j => (i, j)
def NoD (D : Nat → Nat → Bool) (n i : Nat) : Prop := ∀ a, a < i → ∀ b, b < n → D a b = false
def NoJ (D : Nat → Nat → Bool) (i j : Nat) : Prop := ∀ b, b < j → D i b = false
theorem NoD_0 : NoD D n 0 := fun a h => absurd h (by omega)
theorem NoD_s (h : NoD D n i) (h2 : NoJ D i n) : NoD D n (i + 1) := fun a ha b hb => by
  by_cases e : a = i
  · subst e; exact h2 b hb
  · exact h a (by omega) b hb
theorem NoJ_s (h : NoJ D i j) (h2 : D i j = false) : NoJ D i (j + 1) := fun b hb => by
  by_cases e : b = j
  · subst e; exact h2
  · exact h b (by omega)
theorem dsjG_hit (hi : i < n) (hj : j < n) (h1 : NoD D n i) (h2 : NoJ D i j) (h : D i j = true) : dsjG D n = some (i, j) := by
  have e1 : jx (D i) n = some j := jx_hit hj h h2
  have e2 : jx (fun i => (jx (D i) n).isSome) n = some i := jx_hit hi (by simp [e1]) (fun a ha => by rw [jx_none (h1 a ha)]; rfl)
  unfold dsjG; rw [e2, Option.bind_some, e1, Option.map_some]
theorem dsjG_none (h : NoD D n n) : dsjG D n = none := by
  unfold dsjG
  rw [jx_none (fun a ha => by rw [jx_none (h a ha)]; rfl)]; rfl
theorem dsjG_cases (D : Nat → Nat → Bool) (n : Nat) : (∃ i j, i < n ∧ j < n ∧ NoD D n i ∧ NoJ D i j ∧ D i j = true ∧ dsjG D n = some (i, j)) ∨ (NoD D n n ∧ dsjG D n = none) := by
  cases e : jx (fun i => (jx (D i) n).isSome) n with
  | none =>
    have h : NoD D n n := fun a ha => by
      have := jx_no e a ha
      exact jx_no (by simpa using this)
    exact .inr ⟨h, dsjG_none h⟩
  | some i =>
    obtain ⟨h1, h2, h3⟩ := jx_some e
    obtain ⟨j, hj⟩ := Option.isSome_iff_exists.1 h2
    obtain ⟨h4, h5, h6⟩ := jx_some hj
    have hn : NoD D n i := fun a ha => jx_no (by simpa using h3 a ha)
    exact .inl ⟨i, j, h1, h4, hn, h6, h5, dsjG_hit h1 h4 hn h6 h5⟩
theorem dsjG_sym (hs : ∀ i j, D i j = D j i) (hd : ∀ i, i < n → D i i = false) : dsjG (fun i j => decide (i ≤ j) && D i j) n = dsjG D n := by
  rcases dsjG_cases D n with ⟨i, j, hi, hj, h1, h2, h3, h4⟩ | ⟨h1, h2⟩
  · have hij : i ≤ j := by
      refine Nat.le_of_not_lt fun hlt => ?_
      rw [hs i j, h1 j hlt i hi] at h3; cases h3
    rw [h4]
    refine dsjG_hit hi hj (fun a ha b hb => ?_) (fun b hb => ?_) (by simp [hij, h3])
    · rw [h1 a ha b hb, Bool.and_false]
    · rw [h2 b hb, Bool.and_false]
  · rw [h2]
    exact dsjG_none fun a ha b hb => by rw [h1 a ha b hb, Bool.and_false]
def dsD (qs : List Nat) (i j : Nat) : Bool := decide (sand (qs.getD i 0) (qs.getD j 0) % 65536 = 0)
def dsE (qs : List Nat) (i j : Nat) : Bool := decide (i ≤ j) && dsD qs i j
def dsj (qs : List Nat) : Nat × Nat × Bool := match dsjG (dsD qs) qs.length with
  | some (i, j) => (qs.getD i 0, qs.getD j 0, true)
  | none => (0, 0, false)
theorem dsj_t (h : dsjG (dsD qs) qs.length = some (i, j)) : dsj qs = (qs.getD i 0, qs.getD j 0, true) := by unfold dsj; rw [h]
theorem dsj_f (h : dsjG (dsD qs) qs.length = none) : dsj qs = (0, 0, false) := by unfold dsj; rw [h]
theorem dsE_eq (h : ∀ q ∈ qs, ¬ q % 65536 = 0) : dsjG (dsE qs) qs.length = dsjG (dsD qs) qs.length := by
  refine dsjG_sym (fun i j => ?_) (fun i hi => ?_)
  · unfold dsD sand; rw [Nat.and_comm]
  · unfold dsD sand
    rw [Nat.and_self]
    exact decide_eq_false (h _ (by rw [List.getD_eq_getElem?_getD, List.getElem?_eq_getElem hi, Option.getD_some]; exact List.getElem_mem hi))
theorem dsE_f (h : ¬ sand (qs.getD i 0) (qs.getD j 0) % 65536 = 0) : dsE qs i j = false := by unfold dsE dsD; rw [decide_eq_false h, Bool.and_false]
theorem dsE_lt (h : j < i) : dsE qs i j = false := by unfold dsE; rw [decide_eq_false (by omega)]; rfl
theorem dsE_t (h2 : i ≤ j) (h : sand (qs.getD i 0) (qs.getD j 0) % 65536 = 0) : dsE qs i j = true := by unfold dsE dsD; simp [h2, h, -List.getD_eq_getElem?_getD]
theorem NoE_i : NoJ (dsE qs) i i := fun b hb => dsE_lt hb
end Go.Bp
/- Bp21. -/
set_option linter.unusedVariables false
set_option linter.unusedSimpArgs false
namespace Go.Bp
open Go.Sy
variable {n i j k q d : Nat} {l : List Ex}
def quoP (l : List Ex) (d q : Nat) : Bool := (memN q 16).all fun i => satP l (sor q d) i
def minQ (l : List Ex) (d : Nat) : List Nat := minW (quoP l d) (subs (sdif (fullS l.length) d))
theorem minQ_ne (h : q ∈ minQ l d) : ¬ q % 65536 = 0 := by
  obtain ⟨_, _, _, _, h⟩ := minA_mem h; exact h
theorem full_lt (hn : n ≤ 6) : ∀ i, bit (sdif (fullS n) d) i = true → i < n := fun i hi => by
  rw [bit_sdif, bit_full (by omega)] at hi
  simp only [Bool.and_eq_true, decide_eq_true_eq] at hi; exact hi.1
theorem minQ_len (h : l.length ≤ 6) : (minQ l d).length ≤ 448 := by
  refine Nat.le_trans minL_le ?_
  exact subs_448 (memL_6 h (full_lt h))
theorem subs_in (h : l.length ≤ 6) (hq : q ∈ subs (sdif (fullS l.length) d)) (hb : bit q i = true) : i < l.length := full_lt h i (subs_sub hq hb)
end Go.Bp
/- Bp22. -/
set_option linter.unusedVariables false
set_option linter.unusedSimpArgs false
set_option maxRecDepth 20000
namespace Go.Bp
open Go.Sy
variable {n i j k m q s d x : Nat}
def inC (s k x : Nat) : Bool := decide (sdif x s % 65536 = 0) && decide (memL x 16 = k)
def chA (s k : Nat) : Nat → List Nat
  | 0 => []
  | x + 1 => if inC s k x = true then chA s k x ++ [x] else chA s k x
def chN (s k n : Nat) : Nat := (chA s k n).length
def sbA (s : Nat) : Nat → List Nat
  | 0 => []
  | k + 1 => sbA s k ++ chA s k 65536
def sbN (s k : Nat) : Nat := (sbA s k).length
def sbC (s : Nat) : Nat → List Nat
  | 0 => []
  | k + 1 => sbC s k ++ chA s k (2 ^ 6)
theorem left_0 (hn : n ≤ 6) : sdif (fullS n) 0 = fullS n := by
  have : n = 0 ∨ n = 1 ∨ n = 2 ∨ n = 3 ∨ n = 4 ∨ n = 5 ∨ n = 6 := by omega
  rcases this with h | h | h | h | h | h | h <;> subst h <;> decide
theorem isQ_quo {l : List Ex} (h12 : l.length ≤ 12) (hq : ∀ i, bit q i = true → i < l.length) (h0 : ¬ q % 65536 = 0) : isQ l q = quoP l 0 q := by
  unfold isQ quoP
  have e : sor q 0 = q := Nat.or_zero q
  rw [e, decide_eq_false h0, Bool.not_false, Bool.and_true, Bool.eq_iff_iff, List.all_eq_true, List.all_eq_true]
  refine ⟨fun h i hi => ?_, fun h i hi => ?_⟩
  · have hm := memN_mem.1 hi
    have hb : bit q i = true := by unfold bit; rw [mod_bit hm.1]; exact hm.2
    have := h i (List.mem_range.2 (hq i hb))
    rw [hb] at this; simpa using this
  · cases hb : bit q i with
    | false => rfl
    | true =>
      have hm : i ∈ memN q 16 := memN_mem.2 ⟨bit_lt hb, by rw [← mod_bit (bit_lt hb)]; exact hb⟩
      rw [h i hm]; rfl
end Go.Bp
/- Bp23. -/
set_option linter.unusedVariables false
set_option linter.unusedSimpArgs false
namespace Go.Bp
variable {h hs : Int → Bool} {mk : Nd → List Int → Nd} {sub : List Nd → Nd → Option (List Nd)} {nodes out o e : List Nd} {Pn : Nd → Prop} {V A B : List Bool} {i j n : Nat}
theorem run_old (hj : j < out.length) : (runA h [] (out ++ e)).getD j false = (runA h [] out).getD j false := by
  rw [runA_app]
  obtain ⟨l, hl⟩ := runA_pre h (runA h [] out) e
  rw [hl, List.getD_eq_getElem?_getD, List.getElem?_append_left (by rw [runA_len]; simpa using hj), ← List.getD_eq_getElem?_getD]
theorem run_snoc {t : Nd} : (runA h [] (out ++ [t])).getD out.length false = evN h (runA h [] out) t := by
  rw [runA_app, runA, runA, List.getD_eq_getElem?_getD, List.getElem?_append_right (by rw [runA_len]; simp), runA_len]
  simp
theorem gotA_cong {a b : Nd} (hw : a.w = b.w) : ∀ (ks ks' : List Int) (c : Nat), ks.length = ks'.length → (∀ j, j < ks.length → A.getD (ks.getD j 0).toNat false = B.getD (ks'.getD j 0).toNat false) → gotA a A c ks = gotA b B c ks' := by
  intro ks
  induction ks with
  | nil => intro ks' c hl _; cases ks' with
    | nil => rfl
    | cons _ _ => simp at hl
  | cons x xs ih =>
    intro ks' c hl hg
    cases ks' with
    | nil => simp at hl
    | cons y ys =>
      have h0 := hg 0 (by simp)
      simp only [List.getD_cons_zero] at h0
      have e1 : wt a c = wt b c := by unfold wt; rw [hw]
      simp only [gotA, h0, e1]
      rw [ih ys (c + 1) (by simpa using hl) (fun j hj => by have := hg (j + 1) (by simpa using hj); simpa only [List.getD_cons_succ] using this)]
theorem getD_in {l : List Int} (hj : j < l.length) : l.getD j 0 ∈ l := by rw [List.getD_eq_getElem?_getD, List.getElem?_eq_getElem hj, Option.getD_some]; exact List.getElem_mem hj
theorem take_snocN (hi : i < nodes.length) : nodes.take (i + 1) = nodes.take i ++ [nodes.getD i default] := by rw [List.take_add_one]; simp [List.getD_eq_getElem?_getD, hi]
theorem run_at (hn : ∀ j, j < nodes.length → NOk (nodes.getD j default) j) (hi : i < nodes.length) : (runA h [] nodes).getD i false = evN h (runA h [] nodes) (nodes.getD i default) := by
  have e1 : nodes = nodes.take (i + 1) ++ nodes.drop (i + 1) := (List.take_append_drop _ _).symm
  have e2 : nodes = nodes.take i ++ nodes.drop i := (List.take_append_drop _ _).symm
  have hl : (nodes.take i).length = i := by simp; omega
  have e3 : (runA h [] nodes).getD i false = evN h (runA h [] (nodes.take i)) (nodes.getD i default) := by
    conv => lhs; rw [e1]
    rw [run_old (by simp; omega), take_snocN hi]
    have := run_snoc (h := h) (out := nodes.take i) (t := nodes.getD i default)
    rw [hl] at this; exact this
  rw [e3]
  unfold evN
  congr 2
  have e4 : ∀ m, m < i → (runA h [] nodes).getD m false = (runA h [] (nodes.take i)).getD m false := fun m hm => by
    conv => lhs; rw [e2]
    exact run_old (by rw [hl]; exact hm)
  rw [gotA_cong rfl _ (nodes.getD i default).k 0 rfl (fun j hj => ?_)]
  have := (hn i hi).ks _ (getD_in hj)
  rw [e4 _ (by omega)]
structure GOut (h : Int → Bool) (Pn : Nd → Prop) (out out' : List Nd) (v : Bool) : Prop where
  pre : ∃ e, out' = out ++ e
  lt : out.length < out'.length
  ok : ∀ j, out.length ≤ j → j < out'.length → NOk (out'.getD j default) j ∧ Pn (out'.getD j default)
  val : (runA h [] out').getD (out'.length - 1) false = v
structure GRel (h : Int → Bool) (V : List Bool) (out : List Nd) (a pk : List Int) : Prop where
  len : a.length = pk.length
  at_ : ∀ j, j < pk.length → 0 ≤ a.getD j 0 ∧ a.getD j 0 < out.length ∧ (runA h [] out).getD (a.getD j 0).toNat false = V.getD (pk.getD j 0).toNat false
theorem getD_app1 {α : Type} {a b : List α} {d : α} (hj : j < a.length) : (a ++ b).getD j d = a.getD j d := by
  simp only [List.getD_eq_getElem?_getD]; rw [List.getElem?_append_left hj]
theorem getD_app2 {α : Type} {a : List α} {x d : α} : (a ++ [x]).getD a.length d = x := by simp [List.getD_eq_getElem?_getD]
theorem gS_ok {g : Nat → List Nd → List Nd} (kk : List Int) (hg : ∀ k ∈ kk, ∀ o, GOut h Pn o (g k.toNat o) (V.getD k.toNat false)) : ∀ (out : List Nd) (a pk : List Int), GRel h V out a pk →
    (∃ e, (gS g kk (out, a)).1 = out ++ e) ∧ (∀ j, out.length ≤ j → j < (gS g kk (out, a)).1.length → NOk ((gS g kk (out, a)).1.getD j default) j ∧ Pn ((gS g kk (out, a)).1.getD j default)) ∧ GRel h V (gS g kk (out, a)).1 (gS g kk (out, a)).2 (pk ++ kk) := by
  induction kk with
  | nil => intro out a pk hr; exact ⟨⟨[], by simp [gS]⟩, fun j h1 h2 => by simp [gS] at h2; omega, by simpa [gS] using hr⟩
  | cons k kk ih =>
    intro out a pk hr
    have h1 := hg k (by simp) out
    obtain ⟨e1, he1⟩ := h1.pre
    have hlt := h1.lt
    have hr1 : GRel h V (g k.toNat out) (a ++ [((g k.toNat out).length : Int) - 1]) (pk ++ [k]) := by
      refine ⟨by simp [hr.len], fun j hj => ?_⟩
      rw [List.length_append, List.length_singleton] at hj
      by_cases ej : j = pk.length
      · subst ej
        rw [getD_app2, ← hr.len, getD_app2]
        have := h1.val
        refine ⟨by omega, by omega, ?_⟩
        rw [show (((g k.toNat out).length : Int) - 1).toNat = (g k.toNat out).length - 1 by omega]; exact this
      · have hj2 : j < pk.length := by omega
        have := hr.at_ j hj2
        rw [getD_app1 (by rw [hr.len]; exact hj2), getD_app1 hj2]
        refine ⟨this.1, by omega, ?_⟩
        rw [he1, run_old (by omega)]; exact this.2.2
    obtain ⟨⟨e2, he2⟩, h3, h4⟩ := ih (fun k hk => hg k (by simp [hk])) (g k.toNat out) _ _ hr1
    refine ⟨⟨e1 ++ e2, by show (gS g kk _).1 = _; rw [he2, he1, List.append_assoc]⟩, fun j hj1 hj2 => ?_, by rw [List.append_assoc] at h4; exact h4⟩
    by_cases hc : (g k.toNat out).length ≤ j
    · exact h3 j hc hj2
    · have := h1.ok j hj1 (by omega)
      show NOk ((gS g kk (g k.toNat out, a ++ [((g k.toNat out).length : Int) - 1])).1.getD j default) j ∧ _
      have e : (gS g kk (g k.toNat out, a ++ [((g k.toNat out).length : Int) - 1])).1.getD j default = (g k.toNat out).getD j default := by rw [he2, getD_app1 (by omega)]
      rw [e]
      refine ⟨this.1, ?_⟩
      show Pn ((gS g kk (g k.toNat out, a ++ [((g k.toNat out).length : Int) - 1])).1.getD j default)
      rw [e]; exact this.2
structure MkOk (mk : Nd → List Int → Nd) : Prop where
  kind : ∀ n ks, (mk n ks).kind = n.kind
  srv : ∀ n ks, (mk n ks).server = n.server
  need : ∀ n ks, (mk n ks).need = n.need
  w : ∀ n ks, (mk n ks).w = n.w
  k : ∀ n ks, (mk n ks).k = ks
theorem growG_ok (hm : MkOk mk) (hn : ∀ j, j < nodes.length → NOk (nodes.getD j default) j) (hP : ∀ j, j < nodes.length → ∀ ks, ks.length = (nodes.getD j default).k.length → Pn (mk (nodes.getD j default) ks))
    (hsub : ∀ j, j < nodes.length → ∀ out, (∀ o, sub out (nodes.getD j default) = some o → (nodes.getD j default).kind = 1 ∧ GOut h Pn out o (hs (nodes.getD j default).server)) ∧ (sub out (nodes.getD j default) = none → (nodes.getD j default).kind = 1 → hs (nodes.getD j default).server = h (nodes.getD j default).server)) :
    ∀ (f i : Nat) (out : List Nd), i < f → i < nodes.length → GOut h Pn out (growG mk sub nodes f i out) ((runA hs [] nodes).getD i false) := by
  intro f
  induction f with
  | zero => intro i out hi; omega
  | succ f ih =>
    intro i out hi hil
    have hN := hn i hil
    have hS := hsub i hil out
    have hPi := hP i hil
    have hV := run_at (h := hs) hn hil
    cases e : sub out (nodes.getD i default) with
    | some o =>
      rw [growG_sub _ _ _ _ _ _ _ e, hV]
      obtain ⟨h1, h2⟩ := hS.1 o e
      have e2 : evN hs (runA hs [] nodes) (nodes.getD i default) = hs (nodes.getD i default).server := by
        unfold evN; rw [h1]; simp
      rw [e2]; exact h2
    | none =>
      rw [growG_s _ _ _ _ _ _ e, hV]
      have hl := hS.2 e
      obtain ⟨h1, h2, h3⟩ := gS_ok (h := h) (Pn := Pn) (V := runA hs [] nodes) (g := growG mk sub nodes f) (nodes.getD i default).k (fun k hk o => ih k.toNat o (by have := hN.ks k hk; omega) (by have := hN.ks k hk; omega)) out [] [] ⟨rfl, fun j hj => absurd hj (by simp)⟩
      generalize hr : gS (growG mk sub nodes f) (nodes.getD i default).k (out, []) = r at *
      generalize nodes.getD i default = t at *
      obtain ⟨e1, he1⟩ := h1
      rw [List.nil_append] at h3
      have hlr : out.length ≤ r.1.length := by rw [he1]; simp
      have hga : gotA (mk t r.2) (runA h [] r.1) 0 r.2 = gotA t (runA hs [] nodes) 0 t.k := gotA_cong (hm.w t r.2) _ _ 0 h3.len (fun j hj => (h3.at_ j (by rw [← h3.len]; exact hj)).2.2)
      refine ⟨⟨e1 ++ [mk t r.2], by rw [he1, List.append_assoc]⟩, by simp; omega, fun j hj1 hj2 => ?_, ?_⟩
      · rw [List.length_append, List.length_singleton] at hj2
        by_cases ej : j = r.1.length
        · subst ej
          rw [getD_app2]
          refine ⟨⟨by rw [hm.kind]; exact hN.kind, by rw [hm.srv]; exact hN.srv, fun hk => ?_, fun hk => ?_, by rw [hm.need]; exact hN.need, by rw [hm.w]; exact hN.ws, fun hw => ?_, fun k hk => ?_⟩, hPi _ h3.len⟩
          · rw [hm.kind] at hk
            have := hN.leaf hk
            rw [hm.need, hm.w, hm.k]
            exact ⟨this.1, this.2.1, List.eq_nil_of_length_eq_zero (by rw [h3.len, this.2.2]; rfl)⟩
          · rw [hm.kind] at hk; rw [hm.srv]; exact hN.zero hk
          · rw [hm.w] at hw; rw [hm.w, hm.k, h3.len]; exact hN.wl hw
          · rw [hm.k] at hk
            obtain ⟨q, hq, rfl⟩ := List.getElem_of_mem hk
            have := h3.at_ q (by rw [← h3.len]; exact hq)
            rw [List.getD_eq_getElem?_getD, List.getElem?_eq_getElem hq, Option.getD_some] at this
            exact ⟨this.1, this.2.1⟩
        · rw [getD_app1 (by omega)]; exact h2 j hj1 (by omega)
      · rw [List.length_append, List.length_singleton, Nat.add_sub_cancel, run_snoc]
        unfold evN
        rw [hm.kind, hm.srv, hm.need, hm.k, hga]
        rcases hN.kind with hk | hk
        · rw [hl hk]
        · simp [hk]
theorem grow0_ok {x : Ex} (hm : MkOk mk) (hx : XOk x) (hP : ∀ j, j < x.nodes.length → ∀ ks, ks.length = (x.nodes.getD j default).k.length → Pn (mk (x.nodes.getD j default) ks)) (out : List Nd) :
    GOut h Pn out (grow0 mk x out) (hold h x) := by
  have hr := hx.root
  exact growG_ok (hs := h) hm hx.node hP (fun j hj out => ⟨fun o e => (by cases e), fun _ _ => rfl⟩) (x.root.toNat + 1) x.root.toNat out (by omega) (by omega)
def subH (h : Int → Bool) (l : List Ex) (s : Int) : Bool := if s < l.length then hold h (l.getD s.toNat default) else h s
theorem growX_ok {x : Ex} {l : List Ex} (hm : MkOk mk) (hx : XOk x) (hl : ∀ y ∈ l, XOk y) (hP : ∀ y, y = x ∨ y ∈ l → ∀ j, j < y.nodes.length → ∀ ks, ks.length = (y.nodes.getD j default).k.length → Pn (mk (y.nodes.getD j default) ks)) :
    GOut h Pn [] (growX mk x l) (hold (subH h l) x) := by
  have hr := hx.root
  refine growG_ok (hs := subH h l) hm hx.node (hP x (.inl rfl)) (fun j hj out => ⟨fun o e => ?_, fun e hk => ?_⟩) (x.root.toNat + 1) x.root.toNat [] (by omega) (by omega)
  · unfold subL at e
    split at e
    · rename_i hc
      have h0 := (hx.node j hj).srv.1
      have hmem : l.getD (x.nodes.getD j default).server.toNat default ∈ l := by
        rw [List.getD_eq_getElem?_getD, List.getElem?_eq_getElem (by omega), Option.getD_some]; exact List.getElem_mem _
      have hg := grow0_ok (h := h) (Pn := Pn) hm (hl _ hmem) (hP _ (.inr hmem)) out
      rw [← Option.some.inj e]
      refine ⟨hc.1, ?_⟩
      unfold subH; rw [if_pos hc.2]; exact hg
    · cases e
  · unfold subL at e
    split at e
    · cases e
    · rename_i hc
      unfold subH; rw [if_neg (fun h2 => hc ⟨hk, h2⟩)]
theorem nodeE_of {t : Nd} (h : NOk t i) : nodeE t i = 0 := by
  unfold nodeE
  rw [if_neg, if_neg, if_neg, if_neg, if_neg]
  · rw [List.any_eq_true]; rintro ⟨k, hk, hu⟩
    have := h.ks k hk
    simp [unk] at hu; omega
  · rintro ⟨h1, h2⟩; exact h2 (h.wl h1)
  · rw [List.any_eq_true]; rintro ⟨w, hw, hu⟩
    have := h.ws w hw
    simp [heavy] at hu; omega
  · have := h.srv; have := h.need; omega
  · rintro (h1 | h1 | h1)
    · rcases h.kind with h2 | h2
      · exact h1.1 h2
      · exact h1.2 h2
    · have := h.leaf h1.1
      rcases h1.2 with h2 | h2 | h2
      · exact h2 this.1
      · exact h2 this.2.1
      · exact h2 this.2.2
    · exact h1.2 (h.zero h1.1)
theorem nodesE_of {a : List Nd} (h : ∀ j, j < a.length → NOk (a.getD j default) j) : nodesE 0 a = 0 := by
  have key : ∀ j, j ≤ a.length → nodesE 0 (a.take j) = 0 := by
    intro j
    induction j with
    | zero => intro _; simp [nodesE]
    | succ j ih => intro hj; exact nodesE_s (by omega) (ih (by omega)) (nodeE_of (h j (by omega)))
  have := key a.length (Nat.le_refl _)
  rwa [List.take_length] at this
theorem validE_of {x : Ex} (h : XOk x) : validE x = 0 := by
  have h1 := h.pos; have h2 := h.few; have h3 := h.root
  unfold validE
  rw [if_neg (by omega), if_neg (by omega), if_neg (by rw [nodesE_of h.node]; simp), if_neg (by omega)]
end Go.Bp
/- Bp24. -/
set_option linter.unusedVariables false
set_option linter.unusedSimpArgs false
namespace Go.Bp
open Go.Sy
variable {n i j k m q s a b x y : Nat} {l : List Ex}
theorem sor_in (ha : ∀ i, bit a i = true → i < n) (hb : ∀ i, bit b i = true → i < n) : ∀ i, bit (sor a b) i = true → i < n := fun i h => by
  rw [bit_sor, Bool.or_eq_true] at h; exact h.elim (ha i) (hb i)
theorem sand_fulln (hn : n ≤ 16) : ∀ i, bit (sand s (fullS n)) i = true → i < n := fun i h => by
  rw [bit_sand, Bool.and_eq_true, bit_full hn] at h; exact of_decide_eq_true h.2
end Go.Bp
