/-
  The symbolic walk: lists of records in the cells of memory. No condition.
-/
import Derived.Test.YtphpjgfhdoobjaaSym21
set_option linter.unusedVariables false
set_option linter.unusedSectionVars false
set_option linter.unusedSimpArgs false
namespace Go.Sy

/-- One cell that names no object of the call's own. -/
def AV.plain : AV → Bool
  | .val _ | .isl _ _ _ | .ipt _ _ => true
  | _ => false
/-- A record that names no object of the call's own: its cells. -/
class Cells (α : Type) (w : outParam Nat) where
  cells : α → List AV
  len : ∀ a, (cells a).length = w
  sc : ∀ a, (cells a).all AV.scalar = true
  pl : ∀ a, (cells a).all AV.plain = true

def cR {α : Type} {w : Nat} [Cells α w] (l : List α) : List AV := l.flatMap Cells.cells

theorem closed_ren (τ : Nat → Nat) : ∀ (x : AV), bnd 0 x → ren τ x = x
  | .val v, _ => by simp [ren]
  | .isl z cs n, _ => by simp [ren]
  | .ipt cs n, _ => by simp [ren]
  | .any, _ => by simp [ren]
  | .sl id _ _ _, h => by simp [bnd] at h
  | .pt id _, h => by simp [bnd] at h
  | .mp id, h => by simp [bnd] at h
  | .agg cs, h => by
    simp only [bnd] at h
    simp only [ren, AV.agg.injEq]
    exact (List.map_congr_left (fun x hx => closed_ren τ x (h x hx))).trans (List.map_id' cs)
  | .tup cs, h => by
    simp only [bnd] at h
    simp only [ren, AV.tup.injEq]
    exact (List.map_congr_left (fun x hx => closed_ren τ x (h x hx))).trans (List.map_id' cs)
  | .fn f cs, h => by
    simp only [bnd] at h
    simp only [ren, AV.fn.injEq, true_and]
    exact (List.map_congr_left (fun x hx => closed_ren τ x (h x hx))).trans (List.map_id' cs)
theorem closed_frz (id : Nat) (cs : List AV) : ∀ (x : AV), bnd 0 x → frzV id cs x = x
  | .val v, _ => by simp [frzV]
  | .isl z cs n, _ => by simp [frzV]
  | .ipt cs n, _ => by simp [frzV]
  | .any, _ => by simp [frzV]
  | .sl id _ _ _, h => by simp [bnd] at h
  | .pt id _, h => by simp [bnd] at h
  | .mp id, h => by simp [bnd] at h
  | .agg l, h => by
    simp only [bnd] at h
    simp only [frzV, AV.agg.injEq]
    exact (List.map_congr_left (fun x hx => closed_frz id cs x (h x hx))).trans (List.map_id' l)
  | .tup l, h => by
    simp only [bnd] at h
    simp only [frzV, AV.tup.injEq]
    exact (List.map_congr_left (fun x hx => closed_frz id cs x (h x hx))).trans (List.map_id' l)
  | .fn f l, h => by
    simp only [bnd] at h
    simp only [frzV, AV.fn.injEq, true_and]
    exact (List.map_congr_left (fun x hx => closed_frz id cs x (h x hx))).trans (List.map_id' l)
theorem closed_bnd (n : Nat) : ∀ (x : AV), bnd 0 x → bnd n x
  | .val v, _ => by simp [bnd]
  | .isl z cs n, _ => by simp [bnd]
  | .ipt cs n, _ => by simp [bnd]
  | .any, _ => by simp [bnd]
  | .sl id _ _ _, h => by simp [bnd] at h
  | .pt id _, h => by simp [bnd] at h
  | .mp id, h => by simp [bnd] at h
  | .agg l, h => by simp only [bnd] at h ⊢; exact fun x hx => closed_bnd n x (h x hx)
  | .tup l, h => by simp only [bnd] at h ⊢; exact fun x hx => closed_bnd n x (h x hx)
  | .fn f l, h => by simp only [bnd] at h ⊢; exact fun x hx => closed_bnd n x (h x hx)

theorem plain_toA {st : St} {σ : List Nat} {fz : Bool} {n : Nat} (h : 0 < n) : ∀ (x : AV), x.plain = true → toA st σ fz n x = x
  | .val v, _ => toA_val h
  | .isl z cs n, _ => toA_isl h
  | .ipt cs n, _ => toA_ipt h
  | .any, h | .sl _ _ _ _, h | .pt _ _, h | .mp _, h | .agg _, h | .tup _, h | .fn _ _, h => by simp [AV.plain] at h
theorem plain_dfz {st : St} {σ : List Nat} {n : Nat} (h : 0 < n) : ∀ (x : AV), x.plain = true → dfz st σ n x = x
  | .val v, _ => dfz_val h
  | .isl z cs n, _ => dfz_isl h
  | .ipt cs n, _ => dfz_ipt h
  | .any, h | .sl _ _ _ _, h | .pt _ _, h | .mp _, h | .agg _, h | .tup _, h | .fn _ _, h => by simp [AV.plain] at h
theorem plain_bnd : ∀ (x : AV), x.plain = true → bnd 0 x
  | .val v, _ => by simp [bnd]
  | .isl z cs n, _ => by simp [bnd]
  | .ipt cs n, _ => by simp [bnd]
  | .any, h | .sl _ _ _ _, h | .pt _ _, h | .mp _, h | .agg _, h | .tup _, h | .fn _ _, h => by simp [AV.plain] at h
theorem Cells.cl {α : Type} {w : Nat} [C : Cells α w] (a : α) (x : AV) (hx : x ∈ Cells.cells a) : bnd 0 x := plain_bnd x (List.all_eq_true.1 (C.pl a) x hx)
section
variable {α : Type} {w : Nat} [C : Cells α w] [Inhabited α] {l m : List α} {j k i : Nat}
theorem cR_cons {a : α} : cR (a :: l) = Cells.cells a ++ cR l := by simp [cR]
theorem cR_nil : cR ([] : List α) = [] := rfl
theorem cR_len : (cR l).length = l.length * w := by
  induction l with
  | nil => simp [cR]
  | cons a l ih => rw [cR_cons, List.length_append, ih, C.len, List.length_cons, Nat.add_mul]; omega
theorem cR_app : cR l ++ cR m = cR (l ++ m) := by simp [cR]
theorem cR_snoc' {a : α} : cR l ++ Cells.cells a = cR (l ++ [a]) := by simp [cR]
theorem cR_drop : (cR l).drop (k * w) = cR (l.drop k) := by
  induction l generalizing k with
  | nil => simp [cR]
  | cons a l ih =>
    cases k with
    | zero => simp
    | succ k => rw [cR_cons, List.drop_append, C.len, List.drop_eq_nil_of_le (by rw [C.len, Nat.add_mul]; omega), List.nil_append, show (k + 1) * w - w = k * w by rw [Nat.add_mul]; omega, ih, List.drop_succ_cons]
theorem cR_take : (cR l).take (k * w) = cR (l.take k) := by
  induction l generalizing k with
  | nil => simp [cR]
  | cons a l ih =>
    cases k with
    | zero => simp [cR]
    | succ k => rw [cR_cons, List.take_append, C.len, List.take_of_length_le (by rw [C.len, Nat.add_mul]; omega), show (k + 1) * w - w = k * w by rw [Nat.add_mul]; omega, ih, List.take_succ_cons, cR_cons]
theorem cR_drop1 : (cR l).drop w = cR (l.drop 1) := by have := cR_drop (l := l) (k := 1); rwa [Nat.one_mul] at this
theorem cR_take1 (h : 0 < l.length) : (cR l).take w = Cells.cells (l.getD 0 default) := by
  cases l with
  | nil => simp at h
  | cons a l => rw [cR_cons, List.take_append, C.len, List.take_of_length_le (by rw [C.len]; exact Nat.le_refl _)]; simp
theorem cR_load (h : j < l.length) : ((cR l).drop (j * w)).take w = Cells.cells (l.getD j default) := by
  rw [cR_drop, cR_take1 (by simp; omega)]
  simp [List.getD_eq_getElem?_getD]
theorem cR_get (h : j < l.length) (hi : i < w) : (cR l)[j * w + i]? = (Cells.cells (l.getD j default))[i]? := by
  rw [← cR_load h, List.getElem?_take, if_pos hi, List.getElem?_drop]
theorem cR_get' (h : j < l.length) (hi : 0 < w) : (cR l)[j * w]? = (Cells.cells (l.getD j default))[0]? := cR_get h hi
theorem cR_get0 (hi : i < w) (h : 0 < l.length) : (cR l)[i]? = (Cells.cells (l.getD 0 default))[i]? := by
  have := cR_get h hi; rwa [Nat.zero_mul, Nat.zero_add] at this
theorem cR_ren (τ : Nat → Nat) : (cR l).map (ren τ) = cR l := by
  refine (List.map_congr_left (fun x hx => closed_ren τ x ?_)).trans (List.map_id' _)
  obtain ⟨a, _, ha⟩ := List.mem_flatMap.1 hx
  exact Cells.cl a x ha
theorem cR_frz (id : Nat) (cs : List AV) : (cR l).map (frzV id cs) = cR l := by
  refine (List.map_congr_left (fun x hx => closed_frz id cs x ?_)).trans (List.map_id' _)
  obtain ⟨a, _, ha⟩ := List.mem_flatMap.1 hx
  exact Cells.cl a x ha
theorem cR_toA {st : St} {σ : List Nat} {fz : Bool} {n : Nat} (h : 0 < n) : (cR l).map (toA st σ fz n) = cR l := by
  refine (List.map_congr_left (fun x hx => ?_)).trans (List.map_id' _)
  obtain ⟨a, _, ha⟩ := List.mem_flatMap.1 hx
  exact plain_toA h x (List.all_eq_true.1 (C.pl a) x ha)
theorem cR_dfz {st : St} {σ : List Nat} {n : Nat} (h : 0 < n) : (cR l).map (dfz st σ n) = cR l := by
  refine (List.map_congr_left (fun x hx => ?_)).trans (List.map_id' _)
  obtain ⟨a, _, ha⟩ := List.mem_flatMap.1 hx
  exact plain_dfz h x (List.all_eq_true.1 (C.pl a) x ha)
theorem cR_bnd (n : Nat) : (∀ x ∈ cR l, bnd n x) = True := by
  refine eq_true (fun x hx => closed_bnd n x ?_)
  obtain ⟨a, _, ha⟩ := List.mem_flatMap.1 hx
  exact Cells.cl a x ha
theorem cR_all : (cR l).all AV.scalar = true := by
  rw [List.all_eq_true]
  intro x hx
  obtain ⟨a, _, ha⟩ := List.mem_flatMap.1 hx
  exact List.all_eq_true.1 (C.sc a) x ha
theorem cR_spl (h : m.length = l.length) : spl (cR l) 0 (cR m) = cR m := spl_full (by rw [cR_len, cR_len, h])
theorem cR_one {a : α} : cR [a] = Cells.cells a := by simp [cR]
/-- Some records put over others. -/
def splR (l : List α) (k : Nat) (m : List α) : List α := l.take k ++ (m ++ l.drop (k + m.length))
theorem cR_splR : spl (cR l) (k * w) (cR m) = cR (splR l k m) := by
  unfold spl splR
  rw [cR_len, ← Nat.add_mul, cR_take, cR_drop, cR_app, cR_app]
theorem cR_splR1 {a : α} : spl (cR l) (k * w) (Cells.cells a) = cR (splR l k [a]) := by
  have := cR_splR (l := l) (k := k) (m := [a])
  rwa [show cR [a] = Cells.cells a by simp [cR]] at this
theorem splR_set {a : α} (h : k < l.length) : splR l k [a] = l.set k a := by
  unfold splR; rw [List.set_eq_take_append_cons_drop, if_pos h]; rfl
theorem cR_rep {a : α} {n : Nat} {zs : List Value} (h : zs.map ofV = Cells.cells a) : zrow zs n = cR (List.replicate n a) := by
  unfold zrow cR
  rw [h]
  induction n with
  | zero => rfl
  | succ n ih => simp [List.replicate_succ, ih]
/-- One cell of one record changed. -/
theorem cR_setc {a : α} {v : AV} (h : j < l.length) (hi : i < w) (ha : (Cells.cells (l.getD j default)).set i v = Cells.cells a) : (cR l).set (j * w + i) v = cR (l.set j a) := by
  induction l generalizing j with
  | nil => simp at h
  | cons b l ih =>
    cases j with
    | zero =>
      simp only [List.getD_cons_zero] at ha
      rw [Nat.zero_mul, Nat.zero_add, cR_cons, List.set_append, if_pos (by rw [C.len]; exact hi), ha, List.set_cons_zero, cR_cons]
    | succ j =>
      rw [cR_cons, List.set_append, if_neg (by rw [C.len, Nat.add_mul]; omega), C.len, show (j + 1) * w + i - w = j * w + i by rw [Nat.add_mul]; omega, ih (by simpa using h) (by simpa using ha), List.set_cons_succ, cR_cons]
theorem cR_setc0 {a : α} {v : AV} (h : j < l.length) (hi : 0 < w) (ha : (Cells.cells (l.getD j default)).set 0 v = Cells.cells a) : (cR l).set (j * w) v = cR (l.set j a) := cR_setc (i := 0) h hi ha
theorem drop_getD {d : α} : (l.drop k).getD i d = l.getD (k + i) d := by simp [List.getD_eq_getElem?_getD]
theorem take_getD {d : α} (h : i < k) : (l.take k).getD i d = l.getD i d := by simp [List.getD_eq_getElem?_getD, List.getElem?_take_of_lt h]
end
theorem splR_len {α : Type} {l m : List α} {k : Nat} (h : k + m.length ≤ l.length) : (splR l k m).length = l.length := by
  unfold splR; simp; omega
theorem splR_length {α : Type} {l m : List α} {k : Nat} : (splR l k m).length = min k l.length + (m.length + (l.length - (k + m.length))) := by
  unfold splR; simp
theorem take_splR {α : Type} {l m : List α} {k j : Nat} (h : j ≤ k) (hk : k ≤ l.length) : (splR l k m).take j = l.take j := by
  unfold splR
  rw [List.take_append, List.take_take, Nat.min_eq_left h, List.length_take, show j - min k l.length = 0 by omega, List.take_zero, List.append_nil]
theorem take_splR2 {α : Type} {l m : List α} {k j : Nat} (hk : k ≤ l.length) (h : j = k + m.length) : (splR l k m).take j = l.take k ++ m := by
  subst h
  unfold splR
  rw [List.take_append, List.take_take, List.length_take, Nat.min_eq_right (by omega), Nat.min_eq_left hk, show k + m.length - k = m.length by omega, List.take_append, List.take_length, Nat.sub_self, List.take_zero, List.append_nil]
theorem tn_1 {a b c : Nat} (h : c ≤ b) : ((a : Int) + ((b : Int) - (c : Int))).toNat = a + (b - c) := by omega
theorem tn_2 {b c : Nat} : ((b : Int) - (c : Int)).toNat = b - c := by omega
theorem tn_3 {a b : Nat} : ((a : Int) + (b : Int)).toNat = a + b := by omega
theorem tn_4 {a : Nat} : ((a : Int) + 1).toNat = a + 1 := by omega
theorem tn_5 {a : Nat} : ((a : Int) - 1).toNat = a - 1 := by omega
theorem tn_6 {a b : Nat} : ((a : Int) + (b : Int) + 1).toNat = a + b + 1 := by omega
theorem tn_7 {a b c : Nat} (h : c ≤ a + b) : ((a : Int) + (b : Int) - (c : Int)).toNat = a + b - c := by omega
theorem tn_8 {a c : Nat} (h : c ≤ a + 1) : ((a : Int) + 1 - (c : Int)).toNat = a + 1 - c := by omega
theorem ax_1 {a b : Int} : a + (b - a) = b := by omega
theorem ax_2 {a b : Nat} (h : a ≤ b) : a + (b - a) = b := by omega
theorem ax_3 {a : Nat} {α : Type} {x : α} : List.replicate (a - a) x = [] := by simp
theorem ax_4 {a b : Nat} (h : a ≤ b) : min a b = a := Nat.min_eq_left h
theorem ax_5 {a b : Nat} (h : b ≤ a) : min a b = b := Nat.min_eq_right h
theorem zrow_1 {zs : List Value} : zrow zs 1 = zs.map ofV ++ zrow zs 0 := rfl
theorem zrow_2 {zs : List Value} : zrow zs 2 = zs.map ofV ++ zrow zs 1 := rfl
theorem zrow_3 {zs : List Value} : zrow zs 3 = zs.map ofV ++ zrow zs 2 := rfl
theorem zrow_4 {zs : List Value} : zrow zs 4 = zs.map ofV ++ zrow zs 3 := rfl
theorem zrow_5 {zs : List Value} : zrow zs 5 = zs.map ofV ++ zrow zs 4 := rfl
theorem zrow_6 {zs : List Value} : zrow zs 6 = zs.map ofV ++ zrow zs 5 := rfl
theorem zrow_7 {zs : List Value} : zrow zs 7 = zs.map ofV ++ zrow zs 6 := rfl
theorem zrow_8 {zs : List Value} : zrow zs 8 = zs.map ofV ++ zrow zs 7 := rfl
theorem zrow_9 {zs : List Value} : zrow zs 9 = zs.map ofV ++ zrow zs 8 := rfl
theorem zrow_10 {zs : List Value} : zrow zs 10 = zs.map ofV ++ zrow zs 9 := rfl
theorem zrow_11 {zs : List Value} : zrow zs 11 = zs.map ofV ++ zrow zs 10 := rfl
theorem zrow_12 {zs : List Value} : zrow zs 12 = zs.map ofV ++ zrow zs 11 := rfl
theorem zrow_zero {zs : List Value} : zrow zs 0 = [] := rfl
theorem cR_takeA {α : Type} {w : Nat} [Cells α w] [Inhabited α] {l : List α} {R : List AV} {k : Nat} (h : k = l.length) : (cR l ++ R).take (k * w) = cR l := by
  subst h; rw [List.take_append, cR_len, Nat.sub_self, List.take_zero, List.append_nil, List.take_of_length_le (by rw [cR_len]; exact Nat.le_refl _)]
theorem cR_splA {α : Type} {w : Nat} [Cells α w] [Inhabited α] {l m : List α} {R : List AV} {k : Nat} (h : k + m.length ≤ l.length) : spl (cR l ++ R) (k * w) (cR m) = cR (splR l k m) ++ R := by
  have h1 : (k + m.length) * w ≤ l.length * w := Nat.mul_le_mul_right _ h
  rw [Nat.add_mul] at h1
  unfold spl splR
  rw [cR_len, List.take_append, List.drop_append, cR_len, ← Nat.add_mul, cR_take, cR_drop, show k * w - l.length * w = 0 by omega, show (k + m.length) * w - l.length * w = 0 by rw [Nat.add_mul]; omega, List.take_zero, List.drop_zero, List.append_nil, ← cR_app, ← cR_app]
  simp only [List.append_assoc]
theorem ACall.le {P : Program} {f : FuncId} {args : List AV} {objs objs' : List AObj} {m k : Nat} {r : AV} (h : ACall P f args objs m r objs') (hk : k ≤ m) : ACall P f args objs k r objs' := by
  intro w A I ρ vs h1 h2 h3 h4 h5 h6 h7
  refine (h w A I ρ vs h1 h2 h3 h4 h5 h6 h7).mono ?_
  rintro e w' ⟨v, ρ', J', g1, g2, g3, g4, g5, g6⟩
  exact ⟨v, ρ', J', g1, g2, g3, g4, fun j hj => g5 j (by omega), g6⟩

def AV.isVal : AV → Bool
  | .val _ => true
  | _ => false
class CellsV (α : Type) {w : Nat} [Cells α w] : Prop where nv : ∀ a : α, (Cells.cells a).all AV.isVal = true
theorem cR_noImm {α : Type} {w : Nat} [Cells α w] [C : CellsV α] (l : List α) : (∀ x ∈ cR l, noImm x) = True := by
  refine eq_true (fun x hx => ?_)
  obtain ⟨a, _, ha⟩ := List.mem_flatMap.1 hx
  have := List.all_eq_true.1 (C.nv a) x ha
  cases x <;> simp [AV.isVal] at this
  simp [noImm]
theorem spl_nil {α : Type} {cs : List α} {off : Nat} : spl cs off [] = cs := by unfold spl; simp
attribute [push_cast] cR_noImm cR_one cR_len cR_app cR_drop cR_take cR_drop1 cR_take1 cR_get cR_get' cR_get0 cR_ren cR_frz cR_toA cR_dfz cR_bnd cR_all cR_nil cR_splR drop_getD spl_nil
attribute [push_cast] zrow_1 zrow_2 zrow_3 zrow_4 zrow_5 zrow_6 zrow_7 zrow_8 zrow_9 zrow_10 zrow_11 zrow_12
attribute [push_cast] ax_1 ax_2 ax_3 ax_4 ax_5 tn_1 tn_2 tn_3 tn_4 tn_5 tn_6 tn_7 tn_8 zrow_zero splR_len take_splR take_splR2
attribute [push_cast] cR_load
attribute [push_cast] List.length_drop List.length_take Nat.sub_zero Int.sub_zero
end Go.Sy
