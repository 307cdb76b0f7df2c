/-
  The symbolic walk: equal structs and arrays of whole numbers; parts of structs that are structs; min and max; capacities. No condition.
-/
import Derived.Test.YtphpjgfhdoobjaaSym18
import Derived.Laws.StructEq
import Derived.Lib.Overlaps
set_option linter.unusedVariables false
set_option linter.unusedSectionVars false
set_option linter.unusedSimpArgs false
namespace Go.Sy

/-! ### flat types -/
def flatFields (P : Program) : Nat → List Field → Option (List IntKind)
  | _, [] => some []
  | i, f :: fs => match kindOf P f.type, flatFields P (i + 1) fs with
    | some k, some ks => if f.offset = i ∧ f.name ≠ "_" then some (k :: ks) else none
    | _, _ => none
def flatKs (P : Program) (t : TypeId) : Option (List IntKind) := match P.underlying t with
  | some (.struct fs) => if P.stoodInHeld t then none else flatFields P 0 fs.toList
  | some (.array n e) => match kindOf P e, siz P e with
    | some k, some 1 => some (List.replicate n k)
    | _, _ => none
  | _ => none

def mkInts (ks : List IntKind) (a : List Int) : List Value := List.zipWith (fun k n => .int k n) ks a

theorem part_int {P : Program} {w : World} {t : TypeId} {k : IntKind} (h : kindOf P t = some k) {cs : Array Value} {i : Nat} {v : Value} (hv : cs[i]? = some v) : (part t cs i).run P w = .ok v w := by
  have ha : isAggB P t = some false := by unfold isAggB; rw [run_kindOf h]; rfl
  obtain ⟨hlt, rfl⟩ := Array.getElem?_eq_some_iff.1 hv
  simp [part, run_isAggB ha, hlt]

theorem eqFields_flat {P : Program} {d : Nat} {xs ys : Array Value} : ∀ (fs : List Field) (i : Nat) (ks : List IntKind) (a b : List Int) (w : World), flatFields P i fs = some ks → a.length = ks.length → b.length = ks.length →
    (∀ j k n, ks[j]? = some k → a[j]? = some n → xs[i + j]? = some (.int k n)) → (∀ j k n, ks[j]? = some k → b[j]? = some n → ys[i + j]? = some (.int k n)) →
    (Op.eqFields (d + 1) xs ys fs).run P w = .ok (decide (a = b)) w := by
  intro fs
  induction fs with
  | nil =>
    intro i ks a b w h ha hb _ _
    simp [flatFields] at h; subst h
    have : a = [] := List.length_eq_zero_iff.1 ha
    have : b = [] := List.length_eq_zero_iff.1 hb
    subst a; subst b
    simp [Op.eqFields]
  | cons f fs ih =>
    intro i ks a b w h ha hb hx hy
    unfold flatFields at h
    split at h
    · rename_i k ks' hk hks
      split at h
      · rename_i hc
        cases h
        obtain ⟨x, a, rfl⟩ : ∃ x l, a = x :: l := by cases a with | nil => simp at ha | cons x l => exact ⟨x, l, rfl⟩
        obtain ⟨y, b, rfl⟩ : ∃ x l, b = x :: l := by cases b with | nil => simp at hb | cons x l => exact ⟨x, l, rfl⟩
        have e1 := part_int (w := w) hk (hx 0 k x rfl rfl)
        have e2 := part_int (w := w) hk (hy 0 k y rfl rfl)
        simp only [Nat.add_zero] at e1 e2
        have e3 := ih (i + 1) ks' a b w hks (by simpa using ha) (by simpa using hb) (fun j k n h1 h2 => by have := hx (j + 1) k n (by simpa using h1) (by simpa using h2); rwa [show i + (j + 1) = i + 1 + j by omega] at this)
          (fun j k n h1 h2 => by have := hy (j + 1) k n (by simpa using h1) (by simpa using h2); rwa [show i + (j + 1) = i + 1 + j by omega] at this)
        have e4 : (Op.equalIn (d + 1) f.type (.int k x) (.int k y)).run P w = .ok (x == y) w := run_equalIn_int w d f.type k k x y (run_kindOf hk)
        simp only [Op.eqFields, if_pos hc.2, Sem.run_bind, hc.1, e1, e2, Result.andThen_ok, e4]
        by_cases hxy : x = y
        · subst hxy; simp [e3]
        · simp [hxy]
      · cases h
    · cases h

theorem loop_flat {P : Program} {d : Nat} {e : TypeId} {k : IntKind} (hk : kindOf P e = some k) {xs ys : Array Value} (w : World) : ∀ (n i : Nat) (a b : List Int), a.length = n → b.length = n →
    (∀ j n, a[j]? = some n → xs[i + j]? = some (.int k n)) → (∀ j n, b[j]? = some n → ys[i + j]? = some (.int k n)) →
    (forIn (m := Sem) (List.range' i n 1) ((none, ()) : Option Bool × Unit) (fun i _ => do
        let x ← part e xs (i * 1)
        let y ← part e ys (i * 1)
        let r ← Op.equalIn (d + 1) e x y
        if (!r) = true then pure (ForInStep.done (some false, ())) else pure (ForInStep.yield (none, ())))).run P w = .ok (if a = b then (none, ()) else (some false, ())) w := by
  intro n
  induction n with
  | zero =>
    intro i a b ha hb _ _
    have : a = [] := List.length_eq_zero_iff.1 ha
    have : b = [] := List.length_eq_zero_iff.1 hb
    subst a; subst b
    simp [List.range']
  | succ n ih =>
    intro i a b ha hb hx hy
    obtain ⟨x, a, rfl⟩ : ∃ x l, a = x :: l := by cases a with | nil => simp at ha | cons x l => exact ⟨x, l, rfl⟩
    obtain ⟨y, b, rfl⟩ : ∃ x l, b = x :: l := by cases b with | nil => simp at hb | cons x l => exact ⟨x, l, rfl⟩
    have e1 := part_int (w := w) hk (hx 0 x rfl)
    have e2 := part_int (w := w) hk (hy 0 y rfl)
    simp only [Nat.add_zero] at e1 e2
    have e4 : (Op.equalIn (d + 1) e (.int k x) (.int k y)).run P w = .ok (x == y) w := run_equalIn_int w d e k k x y (run_kindOf hk)
    have e3 := ih (i + 1) a b (by simpa using ha) (by simpa using hb) (fun j n h2 => by have := hx (j + 1) n (by simpa using h2); rwa [show i + (j + 1) = i + 1 + j by omega] at this)
          (fun j n h2 => by have := hy (j + 1) n (by simpa using h2); rwa [show i + (j + 1) = i + 1 + j by omega] at this)
    rw [List.range', List.forIn_cons]
    simp only [Nat.mul_one] at e3 ⊢
    simp only [Sem.run_bind, e1, e2, Result.andThen_ok, e4]
    by_cases hxy : x = y
    · subst hxy
      simp only [beq_self_eq_true, Bool.not_true, Bool.false_eq_true, if_false, Sem.run_pure, Result.andThen_ok, e3, List.cons.injEq, true_and]
    · simp [hxy]

theorem ints_get {ks : List IntKind} {a : List Int} (hl : a.length = ks.length) (j : Nat) (k : IntKind) (n : Int) (h1 : ks[j]? = some k) (h2 : a[j]? = some n) : (mkInts ks a).toArray[0 + j]? = some (.int k n) := by
  simp [mkInts, List.getElem?_zipWith, h1, h2]

theorem equal_flat {P : Program} {t : TypeId} {ks : List IntKind} (h : flatKs P t = some ks) {a b : List Int} (ha : a.length = ks.length) (hb : b.length = ks.length) (w : World) :
    (Op.equal t (.agg (mkInts ks a).toArray) (.agg (mkInts ks b).toArray)).run P w = .ok (decide (a = b)) w := by
  show (Op.equalIn (9998 + 1 + 1) t _ _).run P w = _
  unfold flatKs at h
  split at h
  · rename_i fs hu
    split at h
    · cases h
    · rename_i hst
      have hst' : P.stoodInHeld t = false := by simpa using hst
      have hf : P.fieldsOf t = fs := by unfold Program.fieldsOf; rw [hu]
      rw [run_equalIn_struct w (9998 + 1) t _ _ (by rw [hf]; exact hu) hst', hf]
      exact eqFields_flat fs.toList 0 ks a b w h ha hb (ints_get ha) (ints_get hb)
  · rename_i n e hu
    split at h
    · rename_i k hk hz
      cases h
      simp only [List.length_replicate] at ha hb
      have hr : ∀ {a : List Int}, a.length = n → ∀ j m, a[j]? = some m → (mkInts (List.replicate n k) a).toArray[0 + j]? = some (.int k m) := fun {a} ha j m hm =>
        ints_get (ks := List.replicate n k) (by simpa using ha) j k m (by have := (List.getElem?_eq_some_iff.1 hm).1; rw [List.getElem?_replicate, if_pos (by omega)]) hm
      have := loop_flat (d := 9998) hk w n 0 a b ha hb (hr ha) (hr hb)
      rw [Op.equalIn]
      simp only [Sem.run_bind, run_underlying hu, Result.andThen_ok, run_siz hz, Std.Legacy.Range.forIn_eq_forIn_range', Std.Legacy.Range.size, Nat.sub_zero, Nat.add_sub_cancel, Nat.div_one]
      rw [this]
      by_cases hab : a = b <;> simp [hab]
    · cases h
  · cases h

class TFlat (P : Program) (t : TypeId) (ks : outParam (List IntKind)) : Prop where
  out : flatKs P t = some ks
  gd : P.eqGuardType P.depth t = false

def intsL : List AV → Option (List (IntKind × Int))
  | [] => some []
  | x :: l => match intkAV x, intsL l with
    | some p, some ps => some (p :: ps)
    | _, _ => none
def intsAV : AV → Option (List (IntKind × Int))
  | .agg cs => intsL cs
  | _ => none
theorem e_intsAV {cs : List AV} : intsAV (.agg cs) = intsL cs := rfl
theorem e_intsL0 : intsL [] = some [] := rfl
theorem e_intsL1 {k : IntKind} {n : Int} {l : List AV} : intsL (.val (.int k n) :: l) = (intsL l).map (fun ps => (k, n) :: ps) := by
  show (match some (k, n), intsL l with | some p, some ps => some (p :: ps) | _, _ => none) = _
  cases intsL l <;> rfl

theorem intsL_eq : ∀ {cs : List AV} {ps : List (IntKind × Int)}, intsL cs = some ps → cs = ps.map (fun p => .val (.int p.1 p.2))
  | [], ps, h => by simp [intsL] at h; subst h; rfl
  | x :: l, ps, h => by
    unfold intsL at h
    split at h
    · rename_i p qs h1 h2
      cases h
      rw [intsL_eq h2, intkAV_eq h1]; rfl
    · cases h

theorem rep_ints {w : World} {J : Nat → Prop} {ρ : Rho} {v : Value} {ps : List (IntKind × Int)} {ks : List IntKind} (h : Rep w J ρ v (.agg (ps.map fun p => .val (.int p.1 p.2)))) (hk : ps.map (·.1) = ks) : v = .agg (mkInts ks (ps.map (·.2))).toArray := by
  subst hk
  cases h with
  | agg vs _ hs h =>
    congr 1
    apply Array.ext_getElem?
    intro j
    by_cases hj : j < ps.length
    · have := h j (by simpa using hj)
      have e := rep_val_inv (by simpa using this)
      have hj' : j < vs.size := by rw [hs]; simpa using hj
      have e2 : vs[j]? = some (Value.int ps[j].1 ps[j].2) := by
        rw [Array.getElem?_eq_getElem hj']
        simpa [Array.getD, hj'] using e
      rw [e2]
      simp [mkInts, hj]
    · rw [Array.getElem?_eq_none (by rw [hs]; simpa using hj)]
      simp [mkInts, List.getElem?_zipWith, List.getElem?_eq_none (Nat.le_of_not_lt hj)]

theorem intsAV_eq {x : AV} {ps : List (IntKind × Int)} (h : intsAV x = some ps) : x = .agg (ps.map fun p => .val (.int p.1 p.2)) := by
  unfold intsAV at h
  split at h
  · rw [intsL_eq h]
  · cases h

def eqI : List Int → List Int → Bool
  | [], [] => true
  | a :: l, b :: m => decide (a = b) && eqI l m
  | _, _ => false
theorem eqI_eq : ∀ (a b : List Int), eqI a b = decide (a = b)
  | [], [] => by simp [eqI]
  | a :: l, b :: m => by simp [eqI, eqI_eq l m]
  | [], _ :: _ => by simp [eqI]
  | _ :: _, [] => by simp [eqI]
theorem e_eqI0 : eqI [] [] = true := rfl
theorem e_eqI1 {a b : Int} {l m : List Int} : eqI (a :: l) (b :: m) = (decide (a = b) && eqI l m) := rfl

section
variable {P : Program} {Q : Exit → Nat → St → Prop} {nid : Nat} {st : St} {dst : Option Nat} {ty : TypeId} {pos : String} {af : Array Edge} {g : Option (Nat × Bool)} {K : Nat → Eff → Prop}

theorem Q_eqAgg {ks : List IntKind} (t : TypeId) (x y : Operand) (t' : TypeId) [ht : TFlat P t ks] (h : bindK (intsAV (st.op x)) fun xs => bindK (intsAV (st.op y)) fun ys => xs.map (·.1) = ks ∧ ys.map (·.1) = ks ∧ K 0 ⟨.val (.bool (eqI (xs.map (·.2)) (ys.map (·.2)))), []⟩) :
    AO P ⟨dst, .binOp .eql t x y t', ty, pos, af, g⟩ nid st K := by
  obtain ⟨xs, h1, ys, h2, h3, h4, h5⟩ := h
  refine ⟨0, _, .pure fun c ρ D J a w hs => ?_, h5⟩
  have e1 := hs.op x; have e2 := hs.op y
  have k1 := intsAV_eq h1
  have k2 := intsAV_eq h2
  rw [k1] at e1; rw [k2] at e2
  refine ⟨_, ?_, .val _⟩
  simp only [execOp, rep_ints e1 h3, rep_ints e2 h4, Sem.run_bind, run_eqGuard_agg w _ t x y _ _ ht.gd, Result.andThen_ok, binOp, Op.equal]
  have := equal_flat ht.out (a := xs.map (·.2)) (b := ys.map (·.2)) (by rw [← h3]; simp) (by rw [← h4]; simp) w
  unfold Op.equal at this
  simp [this, eqI_eq]

theorem Q_neqAgg {ks : List IntKind} (t : TypeId) (x y : Operand) (t' : TypeId) [ht : TFlat P t ks] (h : bindK (intsAV (st.op x)) fun xs => bindK (intsAV (st.op y)) fun ys => xs.map (·.1) = ks ∧ ys.map (·.1) = ks ∧ K 0 ⟨.val (.bool !(eqI (xs.map (·.2)) (ys.map (·.2)))), []⟩) :
    AO P ⟨dst, .binOp .neq t x y t', ty, pos, af, g⟩ nid st K := by
  obtain ⟨xs, h1, ys, h2, h3, h4, h5⟩ := h
  refine ⟨0, _, .pure fun c ρ D J a w hs => ?_, h5⟩
  have e1 := hs.op x; have e2 := hs.op y
  have k1 := intsAV_eq h1
  have k2 := intsAV_eq h2
  rw [k1] at e1; rw [k2] at e2
  refine ⟨_, ?_, .val _⟩
  simp only [execOp, rep_ints e1 h3, rep_ints e2 h4, Sem.run_bind, run_eqGuard_agg w _ t x y _ _ ht.gd, Result.andThen_ok, binOp, Op.equal]
  have := equal_flat ht.out (a := xs.map (·.2)) (b := ys.map (·.2)) (by rw [← h3]; simp) (by rw [← h4]; simp) w
  unfold Op.equal at this
  simp [this, eqI_eq]

/-- A part of a struct that is a struct or an array itself. -/
theorem Q_fieldAgg {fo n : Nat} {ft : TypeId} (s : TypeId) (x : Operand) (f : Nat) [hf : TField P s f fo ft] [ha : TAgg P ft true] [hz : TSiz P ft n] (h : bindK (aggAV (st.op x)) fun cs => fo + n ≤ cs.length ∧ K 0 ⟨.agg ((cs.drop fo).take n), []⟩) :
    AO P ⟨dst, .field s x f, ty, pos, af, g⟩ nid st K := by
  obtain ⟨cs, h1, h2, h3⟩ := h
  refine ⟨0, _, .pure fun c ρ D J a w hs => ?_, h3⟩
  have e1 := hs.op x
  rw [aggAV_eq h1] at e1
  obtain ⟨fs, fd, hu, hfs, rfl, rfl⟩ := run_fieldOf hf.out
  generalize hv : a.eval x = v at e1
  cases e1 with
  | agg vs _ hs' hr =>
    refine ⟨.agg (vs.extract fd.offset (fd.offset + n)), by simp [execOp, hv, Instr.field, run_underlying hu, hfs, asAgg, part, run_isAggB ha.out, run_siz hz.out], .agg _ _ (by simp; omega) (fun j hj => ?_)⟩
    have hj' : fd.offset + j < cs.length := by simp at hj; omega
    have := hr (fd.offset + j) hj'
    have hj2 : fd.offset + j < vs.size := by omega
    have hj3 : j < n := by simp at hj; omega
    have e2 : (vs.extract fd.offset (fd.offset + n)).getD j undef = vs.getD (fd.offset + j) undef := by
      have h1 : j < min (fd.offset + n) vs.size - fd.offset := by omega
      simp [Array.getD_eq_getD_getElem?, Array.getElem?_extract, h1, hj2]
    rw [e2]
    simpa using this

theorem Q_max (x y : Operand) (t1 t2 : TypeId) (h : bindK (intkAV (st.op x)) fun p => bindK (intkAV (st.op y)) fun q => K 0 ⟨.val (.int p.1 (max p.2 q.2)), []⟩) :
    AO P ⟨dst, .call ⟨.builtin .max, #[x, y], #[t1, t2]⟩, ty, pos, af, g⟩ nid st K := by
  obtain ⟨p, h1, q, h2, h3⟩ := h
  refine ⟨0, _, .pure fun c ρ D J a w hs => ?_, h3⟩
  have e1 := hs.op x; have e2 := hs.op y
  rw [intkAV_eq h1] at e1; rw [intkAV_eq h2] at e2
  refine ⟨_, ?_, .val _⟩
  have hm : (if q.2 > p.2 then q.2 else p.2) = max p.2 q.2 := by split <;> omega
  simp [execOp, resolve, invoke, builtin, rep_val_inv e1, rep_val_inv e2, Builtin.max_, Builtin.max2, hm]
theorem Q_min (x y : Operand) (t1 t2 : TypeId) (h : bindK (intkAV (st.op x)) fun p => bindK (intkAV (st.op y)) fun q => K 0 ⟨.val (.int p.1 (min p.2 q.2)), []⟩) :
    AO P ⟨dst, .call ⟨.builtin .min, #[x, y], #[t1, t2]⟩, ty, pos, af, g⟩ nid st K := by
  obtain ⟨p, h1, q, h2, h3⟩ := h
  refine ⟨0, _, .pure fun c ρ D J a w hs => ?_, h3⟩
  have e1 := hs.op x; have e2 := hs.op y
  rw [intkAV_eq h1] at e1; rw [intkAV_eq h2] at e2
  refine ⟨_, ?_, .val _⟩
  have hm : (if q.2 < p.2 then q.2 else p.2) = min p.2 q.2 := by split <;> omega
  simp [execOp, resolve, invoke, builtin, rep_val_inv e1, rep_val_inv e2, Builtin.min_, Builtin.min2, hm]

/-- An element of an array that is a value. -/
theorem Q_indexV {n : Nat} {e : TypeId} (t : TypeId) (x ix : Operand) [ht : TArr P t n e] [ha : TAgg P e false] [hz : TSiz P e 1] (h : bindK (aggAV (st.op x)) fun cs => bindK (intAV (st.op ix)) fun i => (0 ≤ i ∧ i < n) ∧ bindK cs[i.toNat]? fun y => K 0 ⟨y, []⟩) :
    AO P ⟨dst, .index t x ix, ty, pos, af, g⟩ nid st K := by
  obtain ⟨cs, h1, i, h2, h3, y, h4, h5⟩ := h
  refine ⟨0, _, .pure fun c ρ D J a w hs => ?_, h5⟩
  have e1 := hs.op x; have e2 := hs.op ix
  rw [aggAV_eq h1] at e1
  obtain ⟨k, hk⟩ := intAV_eq h2
  rw [hk] at e2
  have e2 := rep_val_inv e2
  obtain ⟨hlt, rfl⟩ := List.getElem?_eq_some_iff.1 h4
  generalize hv : a.eval x = v at e1
  cases e1 with
  | agg vs _ hs' hr =>
    have hj : i.toNat < vs.size := by omega
    exact ⟨vs.getD i.toNat undef, by simp [execOp, hv, e2, Instr.index, asIntOf, run_underlying (run_arrOf ht.out), h3, run_siz hz.out, part, run_isAggB ha.out, hj, Array.getD], hr _ hlt⟩
theorem Q_indexVA {n m : Nat} {e : TypeId} (t : TypeId) (x ix : Operand) [ht : TArr P t n e] [ha : TAgg P e true] [hz : TSiz P e m] (h : bindK (aggAV (st.op x)) fun cs => bindK (intAV (st.op ix)) fun i => (0 ≤ i ∧ i < n) ∧ i.toNat * m + m ≤ cs.length ∧ K 0 ⟨.agg ((cs.drop (i.toNat * m)).take m), []⟩) :
    AO P ⟨dst, .index t x ix, ty, pos, af, g⟩ nid st K := by
  obtain ⟨cs, h1, i, h2, h3, h4, h5⟩ := h
  refine ⟨0, _, .pure fun c ρ D J a w hs => ?_, h5⟩
  have e1 := hs.op x; have e2 := hs.op ix
  rw [aggAV_eq h1] at e1
  obtain ⟨k, hk⟩ := intAV_eq h2
  rw [hk] at e2
  have e2 := rep_val_inv e2
  generalize hv : a.eval x = v at e1
  cases e1 with
  | agg vs _ hs' hr =>
    refine ⟨.agg (vs.extract (i.toNat * m) (i.toNat * m + m)), by simp [execOp, hv, e2, Instr.index, asIntOf, run_underlying (run_arrOf ht.out), h3, run_siz hz.out, part, run_isAggB ha.out], .agg _ _ (by simp; omega) (fun j hj => ?_)⟩
    have hj' : i.toNat * m + j < cs.length := by simp at hj; omega
    have := hr (i.toNat * m + j) hj'
    have hj2 : i.toNat * m + j < vs.size := by omega
    have hj3 : j < m := by simp at hj; omega
    have e2 : (vs.extract (i.toNat * m) (i.toNat * m + m)).getD j undef = vs.getD (i.toNat * m + j) undef := by
      have h1 : j < min (i.toNat * m + m) vs.size - i.toNat * m := by omega
      simp [Array.getD_eq_getD_getElem?, Array.getElem?_extract, h1, hj2]
    rw [e2]
    simpa using this
/-- A byte of a string. -/
theorem Q_indexS (t : TypeId) (x ix : Operand) [ht : TStr P t] (h : bindK (strAV (st.op x)) fun s => bindK (intAV (st.op ix)) fun i => (0 ≤ i ∧ i < s.size) ∧ K 0 ⟨.val (.int .u8 (s.get! i.toNat).toNat), []⟩) :
    AO P ⟨dst, .index t x ix, ty, pos, af, g⟩ nid st K := by
  obtain ⟨s, h1, i, h2, h3, h5⟩ := h
  refine ⟨0, _, .pure fun c ρ D J a w hs => ?_, h5⟩
  have e1 := hs.op x; have e2 := hs.op ix
  rw [strAV_eq h1] at e1
  have e1 := rep_val_inv e1
  obtain ⟨k, hk⟩ := intAV_eq h2
  rw [hk] at e2
  have e2 := rep_val_inv e2
  have hj : i.toNat < s.size := by omega
  refine ⟨_, ?_, .val _⟩
  have e3 : s[i.toNat]? = some (s.get! i.toNat) := by
    rw [getElem?_pos s i.toNat hj]
    congr 1
    simp [ByteArray.get!, ByteArray.getElem_eq_getElem_data]
    rw [getElem!_pos]
  simp [execOp, e1, e2, Instr.index, asIntOf, run_underlying (run_isStrB ht.out), h3.1, e3]

end
end Go.Sy
