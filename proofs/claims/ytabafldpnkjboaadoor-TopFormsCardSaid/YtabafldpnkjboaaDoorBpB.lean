/- BpB: Bp12 Bp13 Bp14 Bp15 Bp16 Bp17 Bp18 Bp19 Bp23, merged. No condition. -/
import Derived.Test.YtabafldpnkjboaaDoorBpA
import Derived.Test.YtabafldpnkjboaaDoorSymD
import Derived.Lib.TrailingZeros
/- Bp12. -/
set_option linter.unusedVariables false
set_option linter.unusedSectionVars false
set_option linter.unusedSimpArgs false
set_option maxRecDepth 20000
namespace Go.Bp
open Go.Sy
variable {s i j k n p : Nat}
def low (s : Nat) : Nat := Lib.ctz 16 (s % 65536)
def cutK (s k : Nat) : Nat := s % 65536 / 2 ^ k * 2 ^ k
theorem cutK_0 : cutK s 0 = s % 65536 := by simp [cutK]
theorem cutK_lt : cutK s k < 65536 := Nat.lt_of_le_of_lt (Nat.div_mul_le_self _ _) (Nat.mod_lt _ (by decide))
theorem cutK_bit : (cutK s k).testBit i = (decide (k ≤ i) && (s % 65536).testBit i) := by
  unfold cutK
  rw [Nat.testBit_mul_two_pow, Nat.testBit_div_two_pow]
  by_cases h : k ≤ i
  · simp [h]
  · simp [h]
theorem mod_bit (h : i < 16) : (s % 65536).testBit i = s.testBit i := by
  rw [show (65536 : Nat) = 2 ^ 16 by rfl, Nat.testBit_mod_two_pow]; simp [h]
theorem big_bit (h : 16 ≤ i) : (s % 65536).testBit i = false := by
  rw [show (65536 : Nat) = 2 ^ 16 by rfl, Nat.testBit_mod_two_pow]; simp; omega
theorem mem_gap (hk : k ≤ p) (h : ∀ i, k ≤ i → i < p → s.testBit i = false) : mem s p = mem s k := by
  induction p with
  | zero => have : k = 0 := by omega
            subst this; rfl
  | succ p ih =>
    by_cases e : k = p + 1
    · subst e; rfl
    · rw [mem_f (h p (by omega) (by omega))]
      exact ih (by omega) (fun i h1 h2 => h i h1 (by omega))
structure NextM (s k : Nat) (p : Nat) : Prop where
  ge : k ≤ p
  lt : p < 16
  mem : mem s (p + 1) = mem s k ++ [(p : Int)]
  len : memL s (p + 1) = memL s k + 1
  cut : U (sand (cutK s k) (cutK s k + 65535)) = U (cutK s (p + 1))
theorem next_mem (h : ¬ cutK s k % 65536 = 0) : NextM s k (low (cutK s k)) := by
  have hlt := cutK_lt (s := s) (k := k)
  generalize hr : cutK s k = r at *
  rw [Nat.mod_eq_of_lt hlt] at h
  obtain ⟨m, hm, hp⟩ := Lib.ctzFrom_spec 16 r (by omega) (by simpa using hlt)
  have e : low r = Lib.ctzFrom 16 r := by unfold low; rw [Nat.mod_eq_of_lt hlt]; simp [Lib.ctz, h]
  rw [e]
  generalize Lib.ctzFrom 16 r = p at *
  have hb : ∀ i, r.testBit i = (decide (p ≤ i) && (2 * m + 1).testBit (i - p)) := fun i => by
    rw [hm, Nat.mul_comm, Nat.testBit_mul_two_pow]
  have hbp : r.testBit p = true := by rw [hb]; simp
  have hk : k ≤ p ∧ (s % 65536).testBit p = true := by
    rw [← hr, cutK_bit] at hbp; simpa using hbp
  have hgap : ∀ i, k ≤ i → i < p → s.testBit i = false := fun i h1 h2 => by
    have h3 : r.testBit i = false := by rw [hb]; simp; omega
    rw [← hr, cutK_bit] at h3
    rw [← mod_bit (by omega)]
    simpa [h1] using h3
  have hsp : s.testBit p = true := by rw [← mod_bit hp]; exact hk.2
  have hmem : mem s (p + 1) = mem s k ++ [(p : Int)] := by rw [mem_t hsp, mem_gap hk.1 hgap]
  refine ⟨hk.1, hp, hmem, by unfold memL; rw [hmem]; simp, ?_⟩
  unfold U
  congr 1
  have e1 : (r + 65535) % 65536 = r - 1 := by omega
  unfold sand
  rw [mod_and, hr, e1, Nat.mod_eq_of_lt hlt, Nat.mod_eq_of_lt cutK_lt]
  refine Nat.eq_of_testBit_eq (fun i => ?_)
  have e2 : r - 1 = 2 ^ (p + 1) * m + (2 ^ p - 1) := by
    have h2 : 0 < 2 ^ p := Nat.two_pow_pos p
    rw [hm, Nat.pow_succ, Nat.mul_add, Nat.mul_one, ← Nat.mul_assoc]; omega
  have h2 : 2 ^ p - 1 < 2 ^ (p + 1) := by have h2 : 0 < 2 ^ p := Nat.two_pow_pos p; rw [Nat.pow_succ]; omega
  rw [Nat.testBit_and, e2, Nat.testBit_two_pow_mul_add _ h2, cutK_bit]
  have hs : r.testBit i = (decide (k ≤ i) && (s % 65536).testBit i) := by rw [← hr, cutK_bit]
  by_cases c : p + 1 ≤ i
  · have hk' : decide (k ≤ i) = true := by simp; omega
    rw [hk', Bool.true_and] at hs
    have hx : r.testBit i = m.testBit (i - (p + 1)) := by
      rw [hb]
      have : i - p = (i - (p + 1)) + 1 := by omega
      rw [this, Nat.testBit_succ, show (2 * m + 1) / 2 = m by omega]
      simp; omega
    rw [if_neg (by omega), ← hs, hx]
    simp [c]
  · rw [if_pos (by omega), Nat.testBit_two_pow_sub_one]
    have : decide (p + 1 ≤ i) = false := by simpa using c
    rw [this, Bool.false_and]
    by_cases c2 : i < p
    · have : r.testBit i = false := by rw [hb]; simp; omega
      rw [this]; simp
    · simp [c2]
theorem last_mem (h : cutK s k % 65536 = 0) (hk : k ≤ 16) : mem s 16 = mem s k ∧ memL s 16 = memL s k := by
  have e : mem s 16 = mem s k := by
    refine mem_gap hk (fun i h1 h2 => ?_)
    have h3 : (cutK s k).testBit i = false := by
      rw [Nat.mod_eq_of_lt cutK_lt] at h; rw [h]; simp
    rw [cutK_bit] at h3
    rw [← mod_bit h2]
    simpa [h1] using h3
  exact ⟨e, by unfold memL; rw [e]⟩
end Go.Bp
/- Bp13. -/
set_option linter.unusedVariables false
set_option linter.unusedSectionVars false
set_option linter.unusedSimpArgs false
set_option maxRecDepth 20000
namespace Go.Bp
variable {h : Int → Bool} {x : Ex} {t : Nd} {i j q n N : Nat} {A : List Bool} {s : Nat}
structure TabP (h : Int → Bool) (x : Ex) (i : Nat) (A : List Bool) : Prop where
  len : A.length = 60
  tk : A.take i = runA h [] (x.nodes.take i)
theorem TabP.zero : TabP h x 0 (List.replicate 60 false) := ⟨by simp, by simp [runA]⟩
theorem TabP.step (hA : TabP h x i A) (hi : i < x.nodes.length) (h60 : i < 60) {v : Bool} (hv : v = evN h (A.take i) (x.nodes.getD i default)) : TabP h x (i + 1) (A.set i v) := by
  refine ⟨by simp [hA.len], ?_⟩
  have e3 : x.nodes.take (i + 1) = x.nodes.take i ++ [x.nodes.getD i default] := by rw [List.take_add_one]; simp [List.getD_eq_getElem?_getD, hi]
  have e4 : (A.set i v).take (i + 1) = A.take i ++ [v] := by
    rw [List.take_add_one, List.take_set, List.set_eq_of_length_le (by simp; omega)]
    simp [hA.len, h60]
  rw [e3, runA_app, ← hA.tk, e4, hv]; rfl
theorem TabP.root {r : Nat} (hA : TabP h x (r + 1) A) (hr : x.root = (r : Nat)) (hl : r < x.nodes.length) : A.getD r default = hold h x := by
  have h1 := hA.tk
  have e : runA h [] x.nodes = runA h (runA h [] (x.nodes.take (r + 1))) (x.nodes.drop (r + 1)) := by rw [← runA_app, List.take_append_drop]
  obtain ⟨l, hl2⟩ := runA_pre h (runA h [] (x.nodes.take (r + 1))) (x.nodes.drop (r + 1))
  unfold hold
  rw [e, hl2, ← h1, hr, Int.toNat_natCast]
  have hn : (A.take (r + 1)).length = r + 1 := by rw [h1, runA_len, List.length_take]; simp; omega
  have hlA : r < A.length := by rw [List.length_take] at hn; omega
  simp only [List.getD_eq_getElem?_getD]
  rw [List.getElem?_append_left (by omega), List.getElem?_take_of_lt (by omega), List.getElem?_eq_getElem hlA]
  rfl
end Go.Bp
/- Bp14. -/
set_option linter.unusedVariables false
set_option linter.unusedSectionVars false
set_option linter.unusedSimpArgs false
set_option maxRecDepth 20000
namespace Go.Bp
open Go.Sy
variable {l : List Ex} {s q i j k n : Nat}
def fullS (n : Nat) : Nat := 2 ^ n - 1
def memN (s n : Nat) : List Nat := (List.range n).filter fun i => s.testBit i
theorem mem_N : mem s n = (memN s n).map fun (i : Nat) => (i : Int) := by
  induction n with
  | zero => rfl
  | succ n ih =>
    unfold memN at *
    rw [List.range_succ, List.filter_append, List.map_append, ← ih]
    cases h : s.testBit n with
    | true => rw [mem_t h]; simp [h]
    | false => rw [mem_f h]; simp [h]
theorem memL_N : memL s n = (memN s n).length := by unfold memL; rw [mem_N]; simp
theorem memN_mem : i ∈ memN s n ↔ i < n ∧ s.testBit i = true := by simp [memN]
end Go.Bp
/- Bp15. -/
set_option linter.unusedVariables false
set_option linter.unusedSectionVars false
set_option linter.unusedSimpArgs false
set_option maxRecDepth 20000
namespace Go.Bp
open Go.Sy
variable {s q x y i j k n : Nat}
theorem bit_big (h : 16 ≤ i) : bit x i = false := big_bit h
theorem bit_lt (h : bit x i = true) : i < 16 := by
  refine Classical.byContradiction fun hn => ?_
  rw [bit_big (by omega)] at h; cases h
theorem bit_mod : bit (x % 65536) i = bit x i := by unfold bit; rw [Nat.mod_mod]
theorem bit_sand : bit (sand x y) i = (bit x i && bit y i) := by unfold bit sand; rw [mod_and, Nat.testBit_and]
theorem bit_sor : bit (sor x y) i = (bit x i || bit y i) := by unfold bit sor; rw [mod_or, Nat.testBit_or]
theorem bit_sdif : bit (sdif x y) i = (bit x i && !bit y i) := by
  have h := nand_bit (x := x % 65536) (y := y) (j := i) (Nat.mod_lt _ (by decide))
  by_cases hi : i < 16
  · have e : sdif x y % 65536 = nand (x % 65536) y := by
      unfold sdif nand
      rw [mod_and]; congr 1; omega
    unfold bit
    rw [e, h, mod_bit hi (s := y)]
  · rw [bit_big (by omega), bit_big (x := x) (by omega)]; rfl
theorem bit_pow (hk : k < 16) : bit (2 ^ k) i = decide (i = k) := by
  have h : 2 ^ k < 65536 := by rw [show (65536 : Nat) = 2 ^ 16 by rfl]; exact Nat.pow_lt_pow_right (by decide) hk
  unfold bit
  rw [Nat.mod_eq_of_lt h, Nat.testBit_two_pow]
  simp only [decide_eq_decide]; exact ⟨fun h => h.symm, fun h => h.symm⟩
theorem bit_full (hn : n ≤ 16) : bit (fullS n) i = decide (i < n) := by
  have h : 2 ^ n ≤ 65536 := by rw [show (65536 : Nat) = 2 ^ 16 by rfl]; exact Nat.pow_le_pow_right (by decide) hn
  have h2 : 0 < 2 ^ n := Nat.two_pow_pos n
  unfold bit fullS
  rw [Nat.mod_eq_of_lt (by omega), Nat.testBit_two_pow_sub_one]
theorem bit_0 : bit 0 i = false := by simp [bit]
theorem ext_bit : x % 65536 = y % 65536 ↔ ∀ i, i < 16 → bit x i = bit y i := by
  refine ⟨fun h i _ => by unfold bit; rw [h], fun h => Nat.eq_of_testBit_eq fun i => ?_⟩
  by_cases hi : i < 16
  · exact h i hi
  · rw [big_bit (by omega), big_bit (by omega)]
theorem zero_bit : x % 65536 = 0 ↔ ∀ i, i < 16 → bit x i = false := by
  have := ext_bit (x := x) (y := 0)
  simp only [bit_0, Nat.zero_mod] at this
  exact this
theorem sub_bit : sdif x y % 65536 = 0 ↔ ∀ i, bit x i = true → bit y i = true := by
  rw [zero_bit]
  refine ⟨fun h i hx => ?_, fun h i _ => ?_⟩
  · have := h i (bit_lt hx)
    rw [bit_sdif, hx] at this
    simpa using this
  · rw [bit_sdif]
    cases hx : bit x i with
    | false => rfl
    | true => rw [h i hx]; rfl
theorem bits_lt (h : ∀ i, bit s i = true → i < n) : s % 65536 < 2 ^ n := by
  refine Nat.lt_of_not_le fun hge => ?_
  obtain ⟨k, hk1, hk2⟩ := Nat.exists_ge_and_testBit_of_ge_two_pow hge
  have := h k hk2
  omega
end Go.Bp
/- Bp16. -/
set_option linter.unusedVariables false
set_option linter.unusedSectionVars false
set_option linter.unusedSimpArgs false
set_option maxRecDepth 20000
namespace Go.Bp
open Go.Sy
variable {l : List Ex} {s q x y i j k n L : Nat} {h g : Int → Bool} {t : Nd}
theorem memL_sub (h : ∀ i, bit x i = true → bit y i = true) : memL x 16 ≤ memL y 16 := by
  have key : ∀ j, j ≤ 16 → memL x j ≤ memL y j := by
    intro j
    induction j with
    | zero => intro _; simp [memL_0]
    | succ j ih =>
      intro hj
      have := ih (by omega)
      have hx : bit x j = x.testBit j := mod_bit (by omega)
      have hy : bit y j = y.testBit j := mod_bit (by omega)
      cases hxb : x.testBit j with
      | true => rw [memL_t hxb, memL_t (by rw [← hy]; exact h j (by rw [hx]; exact hxb))]; omega
      | false =>
        rw [memL_f hxb]
        cases hyb : y.testBit j with
        | true => rw [memL_t hyb]; omega
        | false => rw [memL_f hyb]; exact this
  exact key 16 (by omega)
end Go.Bp
/- Bp17. -/
set_option linter.unusedVariables false
set_option linter.unusedSectionVars false
set_option linter.unusedSimpArgs false
set_option maxRecDepth 20000
namespace Go.Bp
open Go.Sy
variable {s q x y i j k n m : Nat} {go : Nat → Bool}
def fd (go : Nat → Bool) (j : Nat) : Nat → Nat × Bool
  | 0 => (j, true)
  | n + 1 => if go (j + 1) = true then fd go (j + 1) n else (j + 1, false)
theorem fd_t (h : go (j + 1) = true) : fd go j (n + 1) = fd go (j + 1) n := by simp [fd, h]
theorem fd_f (h : go (j + 1) = false) : fd go j (n + 1) = (j + 1, false) := by simp [fd, h]
theorem fd_go (h0 : go j = true) (h : (fd go j n).2 = true) : go (fd go j n).1 = true ∧ (fd go j n).1 = j + n := by
  induction n generalizing j with
  | zero => exact ⟨h0, rfl⟩
  | succ n ih =>
    by_cases hg : go (j + 1) = true
    · rw [fd_t hg] at h ⊢
      have := ih hg h
      exact ⟨this.1, by rw [this.2]; omega⟩
    · rw [fd_f (by simpa using hg)] at h; cases h
theorem fd_add (h : (fd go j n).2 = true) : fd go j (n + m) = fd go (j + n) m := by
  induction n generalizing j with
  | zero => rw [Nat.zero_add]; rfl
  | succ n ih =>
    by_cases hg : go (j + 1) = true
    · rw [fd_t hg] at h
      rw [show n + 1 + m = n + m + 1 by omega, fd_t hg, ih h, show j + 1 + n = j + (n + 1) by omega]
    · rw [fd_f (by simpa using hg)] at h; cases h
theorem fd_add_f (h : (fd go j n).2 = false) : fd go j (n + m) = fd go j n := by
  induction n generalizing j with
  | zero => cases h
  | succ n ih =>
    by_cases hg : go (j + 1) = true
    · rw [fd_t hg] at h ⊢
      rw [show n + 1 + m = n + m + 1 by omega, fd_t hg, ih h]
    · have hg : go (j + 1) = false := by simpa using hg
      rw [fd_f hg, show n + 1 + m = n + m + 1 by omega, fd_f hg]
def comb (m k : Nat) : List Nat := (List.range (2 ^ m)).filter fun n => decide ((memL n 16) = k)
def lowV (n : Nat) : Nat := sand n (vneg n)
def upV (n : Nat) : Nat := n + lowV n
def nxtV (n : Nat) : Nat := sor (upV n) (vquo (sxor n (upV n)) (lowV n) % 4294967296 / 2 ^ 2)
def combOk (m k : Nat) : Bool :=
  let l := comb m k
  decide (0 < l.length) && decide (l.length ≤ 64) && decide (l.getD 0 0 = 2 ^ k - 1) && (List.range l.length).all fun j =>
    let n := l.getD j 0
    decide (n < 2 ^ m) && (if n = 0 then decide (j + 1 = l.length) else decide (lowV n % 4294967296 ≠ 0) && (if j + 1 < l.length then decide (nxtV n % 4294967296 = l.getD (j + 1) 0) else !decide (nxtV n % 4294967296 < 2 ^ m)))
theorem comb_ok : ∀ m, m < 7 → ∀ k, k < m + 1 → combOk m k = true := by decide +kernel
structure CombN (m k j n : Nat) : Prop where
  lt : n < 2 ^ m
  zero : n = 0 → j + 1 = (comb m k).length
  low : n ≠ 0 → lowV n % 4294967296 ≠ 0
  next : n ≠ 0 → j + 1 < (comb m k).length → nxtV n % 4294967296 = (comb m k).getD (j + 1) 0
  last : n ≠ 0 → ¬ j + 1 < (comb m k).length → ¬ nxtV n % 4294967296 < 2 ^ m
theorem comb_at (hm : m < 7) (hk : k ≤ m) (hj : j < (comb m k).length) : CombN m k j ((comb m k).getD j 0) := by
  have h := comb_ok m hm k (by omega)
  unfold combOk at h
  simp only [Bool.and_eq_true, decide_eq_true_eq, List.all_eq_true, List.mem_range] at h
  obtain ⟨_, h⟩ := h
  obtain ⟨h1, h2⟩ := h j hj
  refine ⟨h1, fun e => ?_, fun e => ?_, fun e e2 => ?_, fun e e2 => ?_⟩
  · rw [if_pos e] at h2; simpa using h2
  · rw [if_neg e] at h2; simp only [Bool.and_eq_true, decide_eq_true_eq] at h2; exact h2.1
  · rw [if_neg e] at h2; simp only [Bool.and_eq_true, decide_eq_true_eq] at h2; rw [if_pos e2] at h2; simpa using h2.2
  · rw [if_neg e] at h2; simp only [Bool.and_eq_true, decide_eq_true_eq] at h2; rw [if_neg e2] at h2; simpa using h2.2
theorem comb_first (hm : m < 7) (hk : k ≤ m) : 0 < (comb m k).length ∧ (comb m k).length ≤ 64 ∧ (comb m k).getD 0 0 = 2 ^ k - 1 := by
  have h := comb_ok m hm k (by omega)
  unfold combOk at h
  simp only [Bool.and_eq_true, decide_eq_true_eq] at h
  exact ⟨h.1.1.1, h.1.1.2, h.1.2⟩
def pickA (ms : List Nat) (n : Nat) : Nat → Nat
  | 0 => 0
  | i + 1 => if vbit n i = true then sor (pickA ms n i) (2 ^ ms.getD i 0) else pickA ms n i
def pick (s n : Nat) : Nat := pickA (memN s 16) n (memL s 16)
def chs (s k : Nat) : List Nat := (comb (memL s 16) k).map (pick s)
def subsA (s : Nat) : Nat → List Nat
  | 0 => []
  | k + 1 => subsA s k ++ chs s k
def subs (s : Nat) : List Nat := subsA s (memL s 16 + 1)
end Go.Bp
/- Bp18. -/
set_option linter.unusedVariables false
namespace Go.Bp
open Go.Sy
variable {n i j k m s N : Nat} {go : Nat → Bool}
def sbL (s k : Nat) : Nat := (subsA s k).length
theorem sbL_succ : sbL s (k + 1) = sbL s k + (comb (memL s 16) k).length := by unfold sbL; simp [subsA, chs]
theorem sbL_0 : sbL s 0 = 0 := rfl
theorem subsA_app : ∃ r, subsA s (k + n) = subsA s k ++ r := by
  induction n with
  | zero => exact ⟨[], by simp⟩
  | succ n ih =>
    obtain ⟨r, hr⟩ := ih
    exact ⟨r ++ chs s (k + n), by show subsA s (k + n) ++ chs s (k + n) = _; rw [hr, List.append_assoc]⟩
theorem sbL_le (h : k ≤ m) : sbL s k ≤ sbL s m := by
  obtain ⟨r, hr⟩ := subsA_app (s := s) (k := k) (n := m - k)
  rw [show k + (m - k) = m by omega] at hr
  unfold sbL; rw [hr, List.length_append]; omega
theorem subs_at (hk : k ≤ memL s 16) (hi : i < (comb (memL s 16) k).length) : (subs s).getD (sbL s k + i) 0 = pick s ((comb (memL s 16) k).getD i 0) := by
  obtain ⟨r, hr⟩ := subsA_app (s := s) (k := k + 1) (n := memL s 16 - k)
  rw [show k + 1 + (memL s 16 - k) = memL s 16 + 1 by omega] at hr
  unfold subs sbL; rw [hr, show subsA s (k + 1) = subsA s k ++ chs s k from rfl, List.append_assoc]
  have hc : i < (chs s k).length := by unfold chs; simpa using hi
  simp only [List.getD_eq_getElem?_getD]
  rw [List.getElem?_append_right (by omega), Nat.add_sub_cancel_left, List.getElem?_append_left hc]
  unfold chs; simp [List.getElem?_eq_getElem hi]
structure SG (s : Nat) (go : Nat → Bool) (k : Nat) : Prop where
  hle : k ≤ memL s 16 + 1
  hgo : go (sbL s k) = true
  hfd : fd go 0 (subs s).length = fd go (sbL s k) ((subs s).length - sbL s k)
theorem SG.zero (h : go 0 = true) : SG s go 0 := ⟨by omega, h, by rw [sbL_0]; rfl⟩
theorem subs_sb : (subs s).length = sbL s (memL s 16 + 1) := rfl
theorem SG.t (h : SG s go k) (hk : k ≤ memL s 16) (hb : (fd go (sbL s k) (comb (memL s 16) k).length).2 = true) : SG s go (k + 1) ∧ (fd go (sbL s k) (comb (memL s 16) k).length).1 = sbL s (k + 1) := by
  have h1 := fd_go h.hgo hb
  have hl := sbL_le (s := s) (k := k + 1) (m := memL s 16 + 1) (by omega)
  rw [← subs_sb] at hl
  have hs := sbL_succ (s := s) (k := k)
  rw [← hs] at h1
  refine ⟨⟨by omega, by rw [← h1.2]; exact h1.1, ?_⟩, h1.2⟩
  rw [h.hfd, show (subs s).length - sbL s k = (comb (memL s 16) k).length + ((subs s).length - sbL s (k + 1)) by omega, fd_add hb, ← hs]
theorem SG.f (h : SG s go k) (hk : k ≤ memL s 16) (hb : (fd go (sbL s k) (comb (memL s 16) k).length).2 = false) : fd go 0 (subs s).length = fd go (sbL s k) (comb (memL s 16) k).length := by
  have hl := sbL_le (s := s) (k := k + 1) (m := memL s 16 + 1) (by omega)
  rw [← subs_sb] at hl
  have hs := sbL_succ (s := s) (k := k)
  rw [h.hfd, show (subs s).length - sbL s k = (comb (memL s 16) k).length + ((subs s).length - sbL s (k + 1)) by omega, fd_add_f hb]
theorem SG.e (h : SG s go k) (hk : k = memL s 16 + 1) : (fd go 0 (subs s).length).1 = sbL s k := by
  rw [h.hfd, subs_sb, hk, Nat.sub_self]; rfl
end Go.Bp
/- Bp19. -/
set_option linter.unusedVariables false
set_option linter.unusedSimpArgs false
namespace Go.Bp
open Go.Sy
variable {n i j k m s q d x N L : Nat} {p : Nat → Bool} {xs : List Nat}
def hasA (acc : List Nat) (q : Nat) : Bool := acc.any fun m => decide (sdif m q % 65536 = 0)
theorem pickA_sub {ms : List Nat} (hm : ∀ a ∈ ms, a < 16 ∧ bit s a = true) (hj : j ≤ ms.length) (h : bit (pickA ms n j) i = true) : bit s i = true := by
  induction j with
  | zero => rw [show pickA ms n 0 = 0 from rfl, bit_0] at h; cases h
  | succ j ih =>
    have ih := ih (by omega)
    have hg : ms.getD j 0 ∈ ms := by rw [List.getD_eq_getElem?_getD, List.getElem?_eq_getElem (by omega), Option.getD_some]; exact List.getElem_mem _
    by_cases hv : vbit n j = true
    · rw [show pickA ms n (j + 1) = sor (pickA ms n j) (2 ^ ms.getD j 0) by simp [pickA, hv], bit_sor, bit_pow (hm _ hg).1] at h
      rcases Bool.or_eq_true _ _ ▸ h with h | h
      · exact ih h
      · rw [of_decide_eq_true h]; exact (hm _ hg).2
    · rw [show pickA ms n (j + 1) = pickA ms n j by simp [pickA, hv]] at h; exact ih h
theorem pick_sub (h : bit (pick s n) i = true) : bit s i = true := by
  unfold pick at h
  refine pickA_sub (s := s) (fun a ha => ?_) (by rw [memL_N]; exact Nat.le_refl _) h
  have := memN_mem.1 ha
  exact ⟨this.1, by unfold bit; rw [mod_bit this.1]; exact this.2⟩
theorem subsA_sub (hq : q ∈ subsA s k) (h : bit q i = true) : bit s i = true := by
  induction k with
  | zero => cases hq
  | succ k ih =>
    rcases List.mem_append.1 (show q ∈ subsA s k ++ chs s k from hq) with hq | hq
    · exact ih hq
    · unfold chs at hq
      obtain ⟨c, _, rfl⟩ := List.mem_map.1 hq
      exact pick_sub h
theorem subs_sub (hq : q ∈ subs s) (h : bit q i = true) : bit s i = true := subsA_sub hq h
theorem comb_len (hm : memL s 16 < 7) (hk : k ≤ memL s 16) : (comb (memL s 16) k).length ≤ 64 := (comb_first hm hk).2.1
theorem sbL_64 (hm : memL s 16 < 7) (hk : k ≤ memL s 16 + 1) : sbL s k ≤ 64 * k := by
  induction k with
  | zero => exact Nat.le_refl _
  | succ k ih =>
    have := ih (by omega)
    have := comb_len hm (k := k) (by omega)
    rw [sbL_succ]; omega
theorem subs_448 (hm : memL s 16 < 7) : (subs s).length ≤ 448 := by
  have := sbL_64 hm (k := memL s 16 + 1) (by omega)
  rw [subs_sb]; omega
theorem memL_full6 (hn : n ≤ 6) : memL (fullS n) 16 ≤ 6 := by
  have : n = 0 ∨ n = 1 ∨ n = 2 ∨ n = 3 ∨ n = 4 ∨ n = 5 ∨ n = 6 := by omega
  rcases this with h | h | h | h | h | h | h <;> subst h <;> decide +kernel
theorem memL_6 (hn : n ≤ 6) (h : ∀ i, bit s i = true → i < n) : memL s 16 < 7 := by
  have h1 := memL_sub (x := s) (y := fullS n) (fun i hi => by rw [bit_full (by omega)]; exact decide_eq_true (h i hi))
  have := memL_full6 hn
  omega
end Go.Bp
/- Bp23. -/
set_option linter.unusedVariables false
set_option linter.unusedSimpArgs false
namespace Go.Bp
variable {h hs : Int → Bool} {mk : Nd → List Int → Nd} {sub : List Nd → Nd → Option (List Nd)} {nodes out o e : List Nd} {Pn : Nd → Prop} {V A B : List Bool} {i j n : Nat}
theorem nodeE_of {t : Nd} (h : NOk t i) : nodeE t i = 0 := by
  unfold nodeE
  rw [if_neg, if_neg, if_neg, if_neg, if_neg]
  · rw [List.any_eq_true]; rintro ⟨k, hk, hu⟩
    have := h.ks k hk
    simp [unk] at hu; omega
  · rintro ⟨h1, h2⟩; exact h2 (h.wl h1)
  · rw [List.any_eq_true]; rintro ⟨w, hw, hu⟩
    have := h.ws w hw
    simp [heavy] at hu; omega
  · have := h.srv; have := h.need; omega
  · rintro (h1 | h1 | h1)
    · rcases h.kind with h2 | h2
      · exact h1.1 h2
      · exact h1.2 h2
    · have := h.leaf h1.1
      rcases h1.2 with h2 | h2 | h2
      · exact h2 this.1
      · exact h2 this.2.1
      · exact h2 this.2.2
    · exact h1.2 (h.zero h1.1)
theorem nodesE_of {a : List Nd} (h : ∀ j, j < a.length → NOk (a.getD j default) j) : nodesE 0 a = 0 := by
  have key : ∀ j, j ≤ a.length → nodesE 0 (a.take j) = 0 := by
    intro j
    induction j with
    | zero => intro _; simp [nodesE]
    | succ j ih => intro hj; exact nodesE_s (by omega) (ih (by omega)) (nodeE_of (h j (by omega)))
  have := key a.length (Nat.le_refl _)
  rwa [List.take_length] at this
theorem validE_of {x : Ex} (h : XOk x) : validE x = 0 := by
  have h1 := h.pos; have h2 := h.few; have h3 := h.root
  unfold validE
  rw [if_neg (by omega), if_neg (by omega), if_neg (by rw [nodesE_of h.node]; simp), if_neg (by omega)]
end Go.Bp
