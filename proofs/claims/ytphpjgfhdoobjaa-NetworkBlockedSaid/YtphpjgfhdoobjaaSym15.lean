/-
  The symbolic walk: the rules for operations once more, told so that simp reckons one thing after the other and never looks behind what it does not know yet. No condition.
-/
import Derived.Test.YtphpjgfhdoobjaaSym14
set_option linter.unusedVariables false
set_option linter.unusedSectionVars false
set_option linter.unusedSimpArgs false
namespace Go.Sy

/-- 'o' is known, and what follows of it. -/
structure Ph {α : Type} (k : α → Prop) : Type where
def bindK {α : Type} (o : Option α) (k : α → Prop) (_ : Ph k := ⟨⟩) : Prop := ∃ a, o = some a ∧ k a
theorem bindK_some {α : Type} {a : α} {k : α → Prop} {h} : bindK (some a) k h = k a := by simp [bindK]
theorem bindK_map {α β : Type} {o : Option α} {f : α → β} {k : β → Prop} {h} : bindK (o.map f) k h = bindK o (fun a => k (f a)) := by cases o <;> simp [bindK]
theorem bindK_get {α : Type} [Inhabited α] {l : List α} {i : Nat} {k : α → Prop} {p} (h : i < l.length) : bindK l[i]? k p = k (l.getD i default) := by
  simp [bindK, List.getD_eq_getElem?_getD, List.getElem?_eq_getElem h]
theorem bindK_if {α : Type} {p : Prop} [Decidable p] {a : α} {k : α → Prop} {q} (h : p) : bindK (if p then some a else none) k q = k a := by simp [bindK, h]
theorem bindK_if' {α : Type} {p : Prop} [Decidable p] {a : α} {k : α → Prop} {q} (h : ¬ p) : bindK (if p then none else some a) k q = k a := by simp [bindK, h]

def boolAV : AV → Option Bool
  | .val (.bool b) => some b
  | _ => none
def intkAV : AV → Option (IntKind × Int)
  | .val (.int k n) => some (k, n)
  | _ => none
def strAV : AV → Option ByteArray
  | .val (.string s) => some s
  | _ => none
def ptAV : AV → Option (Nat × Nat)
  | .pt id off => some (id, off)
  | _ => none
def islAV : AV → Option (Bool × List AV × Nat)
  | .isl z cs n => some (z, cs, n)
  | _ => none
def slAV : AV → Option (Nat × Nat × Nat × Nat)
  | .sl id off n es => some (id, off, n, es)
  | _ => none
def aggAV : AV → Option (List AV)
  | .agg cs => some cs
  | _ => none
def tupAV : AV → Option (List AV)
  | .tup cs => some cs
  | _ => none
def clOb : Option AObj → Option (List AV × TypeId)
  | some (.cells cs e) => some (cs, e)
  | _ => none

theorem boolAV_eq {x : AV} {b : Bool} (h : boolAV x = some b) : x = .val (.bool b) := by unfold boolAV at h; split at h <;> simp_all
theorem intkAV_eq {x : AV} {p : IntKind × Int} (h : intkAV x = some p) : x = .val (.int p.1 p.2) := by unfold intkAV at h; split at h <;> simp_all [Prod.ext_iff]
theorem strAV_eq {x : AV} {b : ByteArray} (h : strAV x = some b) : x = .val (.string b) := by unfold strAV at h; split at h <;> simp_all
theorem ptAV_eq {x : AV} {p : Nat × Nat} (h : ptAV x = some p) : x = .pt p.1 p.2 := by unfold ptAV at h; split at h <;> simp_all [Prod.ext_iff]
theorem islAV_eq {x : AV} {p : Bool × List AV × Nat} (h : islAV x = some p) : x = .isl p.1 p.2.1 p.2.2 := by unfold islAV at h; split at h <;> simp_all [Prod.ext_iff]
theorem slAV_eq {x : AV} {p : Nat × Nat × Nat × Nat} (h : slAV x = some p) : x = .sl p.1 p.2.1 p.2.2.1 p.2.2.2 := by unfold slAV at h; split at h <;> simp_all [Prod.ext_iff]
theorem aggAV_eq {x : AV} {p : List AV} (h : aggAV x = some p) : x = .agg p := by unfold aggAV at h; split at h <;> simp_all
theorem tupAV_eq {x : AV} {p : List AV} (h : tupAV x = some p) : x = .tup p := by unfold tupAV at h; split at h <;> simp_all
theorem clOb_eq {x : Option AObj} {p : List AV × TypeId} (h : clOb x = some p) : x = some (.cells p.1 p.2) := by unfold clOb at h; split at h <;> simp_all [Prod.ext_iff]
theorem intAV_eq {x : AV} {n : Int} (h : intAV x = some n) : ∃ k, x = .val (.int k n) := by unfold intAV at h; split at h <;> simp_all

section
variable {P : Program} {Q : Exit → Nat → St → Prop} {nid : Nat} {st : St} {dst : Option Nat} {ty : TypeId} {pos : String} {af : Array Edge} {g : Option (Nat × Bool)} {K : Nat → Eff → Prop}

theorem Q_pick (x y z : Operand) (h : bindK (boolAV (st.op x)) fun b => K 0 ⟨pickAV b (st.op y) (st.op z), []⟩) : AO P ⟨dst, .pick x y z, ty, pos, af, g⟩ nid st K := by
  obtain ⟨b, h1, h2⟩ := h; exact R_pick x y z ⟨b, boolAV_eq h1, h2⟩
theorem Q_not (t : TypeId) (x : Operand) (h : bindK (boolAV (st.op x)) fun b => K 0 ⟨.val (.bool !b), []⟩) : AO P ⟨dst, .unOp .not t x, ty, pos, af, g⟩ nid st K := by
  obtain ⟨b, h1, h2⟩ := h; exact R_not t x ⟨b, boolAV_eq h1, h2⟩
theorem Q_neg (t : TypeId) (x : Operand) (h : bindK (intkAV (st.op x)) fun p => K 0 ⟨.val (.int p.1 (p.1.wrap (0 - p.2))), []⟩) : AO P ⟨dst, .unOp .neg t x, ty, pos, af, g⟩ nid st K := by
  obtain ⟨b, h1, h2⟩ := h; exact R_neg t x ⟨_, _, intkAV_eq h1, h2⟩
theorem Q_convert {ks k : IntKind} (s t : TypeId) (x : Operand) [hs : TKind P s ks] [ht : TKind P t k] (h : bindK (intAV (st.op x)) fun n => K 0 ⟨.val (.int k (k.wrap n)), []⟩) : AO P ⟨dst, .convert s t x, ty, pos, af, g⟩ nid st K := by
  obtain ⟨n, h1, h2⟩ := h; obtain ⟨k', hk⟩ := intAV_eq h1; exact R_convert s t x ⟨k', n, hk, h2⟩
theorem Q_bin (bo : BinOp) (t : TypeId) (x y : Operand) (t' : TypeId) (h : bindK (binAV P bo t (st.op x) (st.op y)) fun r => K 0 ⟨r, []⟩) : AO P ⟨dst, .binOp bo t x y t', ty, pos, af, g⟩ nid st K := R_bin bo t x y t' h
theorem Q_eqnil (t : TypeId) (x y : Operand) (t' : TypeId) (h : bindK (eqAV P t (st.op x) (st.op y)) fun b => K 0 ⟨.val (.bool b), []⟩) : AO P ⟨dst, .binOp .eql t x y t', ty, pos, af, g⟩ nid st K := R_eqnil t x y t' h
theorem Q_neqnil (t : TypeId) (x y : Operand) (t' : TypeId) (h : bindK (eqAV P t (st.op x) (st.op y)) fun b => K 0 ⟨.val (.bool !b), []⟩) : AO P ⟨dst, .binOp .neq t x y t', ty, pos, af, g⟩ nid st K := R_neqnil t x y t' h
theorem Q_fieldAddr {fo n : Nat} {ft : TypeId} (s : TypeId) (x : Operand) (f : Nat) [hf : TField P s f fo ft] [hz : TSiz P ft (n + 1)] (h : bindK (addPt fo (st.op x)) fun y => K 0 ⟨y, []⟩) : AO P ⟨dst, .fieldAddr s x f, ty, pos, af, g⟩ nid st K := R_fieldAddr s x f h
theorem Q_indexAddr {e : TypeId} {es : Nat} (t : TypeId) (x ix : Operand) [he : TElem P t e] [hz : TSiz P e es] (h : bindK (intAV (st.op ix)) fun i => bindK (idxAV i.toNat es (st.op x)) fun p => (0 ≤ i ∧ i < p.2) ∧ K 0 ⟨p.1, []⟩) : AO P ⟨dst, .indexAddr t x ix, ty, pos, af, g⟩ nid st K := by
  obtain ⟨i, h1, p, h2, h3, h4⟩ := h; obtain ⟨k, hk⟩ := intAV_eq h1; exact R_indexAddr t x ix ⟨k, i, p.1, p.2, hk, h2, h3, h4⟩
theorem Q_indexArr {e : TypeId} {n es : Nat} (t : TypeId) (x ix : Operand) [he : TArr P t n e] [hz : TSiz P e es] (h : bindK (intAV (st.op ix)) fun i => bindK (addPt (i.toNat * es) (st.op x)) fun y => (0 ≤ i ∧ i < n) ∧ K 0 ⟨y, []⟩) : AO P ⟨dst, .indexAddr t x ix, ty, pos, af, g⟩ nid st K := by
  obtain ⟨i, h1, p, h2, h3, h4⟩ := h; obtain ⟨k, hk⟩ := intAV_eq h1; exact R_indexArr t x ix ⟨k, i, p, hk, h2, h3, h4⟩
theorem Q_load (t : TypeId) (x : Operand) [ha : TAgg P t false] (h : bindK (cellsAt st (st.op x)) fun p => bindK p.1[p.2]? fun y => K 0 ⟨y, []⟩) : AO P ⟨dst, .load t x, ty, pos, af, g⟩ nid st K := by
  obtain ⟨p, h1, y, h2, h3⟩ := h; exact R_load t x ⟨p.1, p.2, y, h1, h2, h3⟩
theorem Q_loadAgg {n : Nat} (t : TypeId) (x : Operand) [ha : TAgg P t true] [hz : TSiz P t n] (h : bindK (cellsAt st (st.op x)) fun p => p.2 + n ≤ p.1.length ∧ K 0 ⟨.agg ((p.1.drop p.2).take n), []⟩) : AO P ⟨dst, .load t x, ty, pos, af, g⟩ nid st K := by
  obtain ⟨p, h1, h2, h3⟩ := h; exact R_loadAgg t x ⟨p.1, p.2, h1, h2, h3⟩
theorem Q_field {fo : Nat} {ft : TypeId} (s : TypeId) (x : Operand) (f : Nat) [hf : TField P s f fo ft] [ha : TAgg P ft false] (h : bindK (aggAV (st.op x)) fun cs => bindK cs[fo]? fun y => K 0 ⟨y, []⟩) : AO P ⟨dst, .field s x f, ty, pos, af, g⟩ nid st K := by
  obtain ⟨cs, h1, y, h2, h3⟩ := h; exact R_field s x f ⟨cs, y, aggAV_eq h1, h2, h3⟩
theorem Q_extract (x : Operand) (i : Nat) (h : bindK (tupAV (st.op x)) fun cs => bindK cs[i]? fun y => K 0 ⟨y, []⟩) : AO P ⟨dst, .extract x i, ty, pos, af, g⟩ nid st K := by
  obtain ⟨cs, h1, y, h2, h3⟩ := h; exact R_extract x i ⟨cs, y, tupAV_eq h1, h2, h3⟩
theorem Q_lenStr (t : TypeId) (x : Operand) [ht : TStr P t] (h : bindK (strAV (st.op x)) fun s => K 0 ⟨.val (.int .i64 s.size), []⟩) : AO P ⟨dst, .call ⟨.builtin .len, #[x], #[t]⟩, ty, pos, af, g⟩ nid st K := by
  obtain ⟨s, h1, h2⟩ := h; exact R_lenStr t x ⟨s, strAV_eq h1, h2⟩
theorem Q_len {e : TypeId} (t : TypeId) (x : Operand) [ht : TElem P t e] (h : bindK (lenSl (st.op x)) fun n => K 0 ⟨.val (.int .i64 n), []⟩) : AO P ⟨dst, .call ⟨.builtin .len, #[x], #[t]⟩, ty, pos, af, g⟩ nid st K := R_len t x h
theorem Q_box (e : TypeId) (x : Operand) (h : bindK (st.op x).parts fun cs => cs.all AV.scalar = true ∧ K 1 ⟨.pt nid 0, [(nid, some (.cells cs e))]⟩) : AO P ⟨dst, .box e x, ty, pos, af, g⟩ nid st K := R_box e x h
theorem Q_store {n : Nat} (t : TypeId) (x y : Operand) [hz : TSiz P t n] (h : bindK (ptAV (st.op x)) fun p => bindK (clOb (st.ob p.1)) fun q => bindK (st.op y).parts fun vs => vs.all AV.scalar = true ∧ vs.length = n ∧ p.2 + n ≤ q.1.length ∧
      K 0 ⟨.any, [(p.1, some (.cells (putAV q.1 p.2 vs) q.2))]⟩) : AO P ⟨dst, .store t x y, ty, pos, af, g⟩ nid st K := by
  obtain ⟨p, h1, q, h2, vs, h3, h4, h5, h6, h7⟩ := h; exact R_store t x y ⟨_, _, _, _, vs, ptAV_eq h1, clOb_eq h2, h3, h4, h5, h6, h7⟩
theorem Q_build {zs : List Value} {pl : List (Nat × Nat)} (t : TypeId) (ps : Array (Nat × Operand)) [hz : TZero P t zs] [hp : TPlaces P t pl]
    (h : bindK (fillAV (pl[·]?) (zs.map ofV) (ps.toList.map fun p => (p.1, st.op p.2))) fun out => K 0 ⟨.agg out, []⟩) : AO P ⟨dst, .build t ps, ty, pos, af, g⟩ nid st K := R_build t ps h
theorem Q_buildSlice {e : TypeId} {es : Nat} {zs : List Value} (t : TypeId) (len : Nat) (ps : Array (Nat × Operand)) [he : TElem P t e] [hs : TSiz P e es] [hz : TZero P e zs]
    (h : bindK (fillAV (fun i => some (i * es, es)) (zrow zs len) (ps.toList.map fun p => (p.1, st.op p.2))) fun out => zs.length = es ∧ zs.all Value.oneCell' = true ∧ len * es ≤ 16777216 ∧ out.all AV.scalar = true ∧ out.length = len * es ∧
      K 1 ⟨.sl nid 0 len es, [(nid, some (.cells out e))]⟩) : AO P ⟨dst, .buildSlice t len ps, ty, pos, af, g⟩ nid st K := R_buildSlice t len ps h
theorem Q_makeSlice {e : TypeId} {es by' : Nat} {zs : List Value} (t : TypeId) (l c : Operand) [he : TElem P t e] [hs : TSiz P e es] [hb : TByt P e by'] [hz : TZero P e zs]
    (h : bindK (intAV (st.op l)) fun n => bindK (intAV (st.op c)) fun n' => n' = n ∧ zs.length = es ∧ zs.all Value.oneCell' = true ∧ 0 ≤ n ∧ n ≤ 9223372036854775807 ∧ (by' : Int) * n ≤ 281474976710656 ∧
      K 1 ⟨.sl nid 0 n.toNat es, [(nid, some (.cells (zrow zs n.toNat) e))]⟩) : AO P ⟨dst, .makeSlice t l c, ty, pos, af, g⟩ nid st K := by
  obtain ⟨n, h1, n', h2, rfl, h3⟩ := h
  obtain ⟨k1, hk1⟩ := intAV_eq h1; obtain ⟨k2, hk2⟩ := intAV_eq h2
  exact R_makeSlice t l c ⟨k1, k2, _, hk1, hk2, h3⟩
theorem Q_sliceStr (t : TypeId) (x : Operand) (lo hi : Option Operand) [ht : TStr P t] (h : bindK (strAV (st.op x)) fun s => bindK (boundAV st 0 lo) fun l => bindK (boundAV st s.size hi) fun u => (0 ≤ l ∧ l ≤ u ∧ u ≤ s.size) ∧ K 0 ⟨.val (.string (s.extract l.toNat u.toNat)), []⟩) :
    AO P ⟨dst, .slice t x lo hi none, ty, pos, af, g⟩ nid st K := by
  obtain ⟨s, h1, l, h2, u, h3, h4, h5⟩ := h; exact R_sliceStr t x lo hi ⟨s, l, u, strAV_eq h1, h2, h3, h4, h5⟩
theorem Q_sliceI {e : TypeId} {es : Nat} (t : TypeId) (x : Operand) (lo hi : Option Operand) [ht : TElem P t e] [hs : TSiz P e es] (h : bindK (islAV (st.op x)) fun p => bindK (boundAV st 0 lo) fun l => bindK (boundAV st p.2.2 hi) fun u => (0 ≤ l ∧ l ≤ u ∧ u ≤ p.2.2) ∧
      K 0 ⟨.isl p.1 ((p.2.1.drop (l.toNat * es)).take ((u.toNat - l.toNat) * es)) (u.toNat - l.toNat), []⟩) : AO P ⟨dst, .slice t x lo hi none, ty, pos, af, g⟩ nid st K := by
  obtain ⟨p, h1, l, h2, u, h3, h4, h5⟩ := h; exact R_sliceI t x lo hi ⟨_, _, _, l, u, islAV_eq h1, h2, h3, h4, h5⟩
theorem Q_slice {e : TypeId} {es : Nat} (t : TypeId) (x : Operand) (lo hi : Option Operand) [ht : TElem P t e] [hs : TSiz P e es] (h : bindK (slAV (st.op x)) fun p => bindK (boundAV st 0 lo) fun l => bindK (boundAV st p.2.2.1 hi) fun u => p.2.2.2 = es ∧ (0 ≤ l ∧ l ≤ u ∧ u ≤ p.2.2.1) ∧
      (l < p.2.2.1 ∨ l = 0) ∧ K 0 ⟨.sl p.1 (p.2.1 + l.toNat * es) (u.toNat - l.toNat) es, []⟩) : AO P ⟨dst, .slice t x lo hi none, ty, pos, af, g⟩ nid st K := by
  obtain ⟨p, h1, l, h2, u, h3, h4, h5, h6, h7⟩ := h; exact R_slice t x lo hi ⟨_, _, _, _, l, u, slAV_eq h1, h4, h2, h3, h5, h6, h7⟩
theorem Q_sliceEnd {e : TypeId} {es : Nat} (t : TypeId) (x : Operand) (lo hi : Option Operand) [ht : TElem P t e] [hs : TSiz P e es] (h : bindK (slAV (st.op x)) fun p => bindK (boundAV st 0 lo) fun l => bindK (boundAV st p.2.2.1 hi) fun u => p.2.2.2 = es ∧ (0 ≤ l ∧ l = u ∧ u ≤ p.2.2.1) ∧
      K 0 ⟨.isl false [] 0, []⟩) : AO P ⟨dst, .slice t x lo hi none, ty, pos, af, g⟩ nid st K := by
  obtain ⟨p, h1, l, h2, u, h3, h4, h5, h6⟩ := h; exact R_sliceEnd t x lo hi ⟨_, _, _, _, l, u, slAV_eq h1, h4, h2, h3, h5, h6⟩
theorem Q_appendNil {e : TypeId} {es by' : Nat} {zs : List Value} (t : TypeId) (x y : Operand) [he : TElem P t e] [hs : TSiz P e es] [hb : TByt P e by'] [hz : TZero P e zs]
    (h : bindK (islAV (st.op x)) fun p => bindK (srcOf st (st.op y)) fun q => p = (true, [], 0) ∧ zs.length = es ∧ zs.all Value.oneCell' = true ∧ q.1.length = q.2 * es ∧ 0 < q.2 ∧ q.2 * by' ≤ 140737488355328 ∧ q.2 ≤ 9223372036854775807 ∧ K 1 ⟨.sl nid 0 q.2 es, [(nid, some (.cells q.1 e))]⟩) :
    AO P ⟨dst, .call ⟨.builtin .append, #[x, y], #[t, t]⟩, ty, pos, af, g⟩ nid st K := by
  obtain ⟨p, h1, q, h2, rfl, h3⟩ := h; exact R_appendNil t x y ⟨_, _, islAV_eq h1, h2, h3⟩
theorem Q_append {e : TypeId} {es by' : Nat} {zs : List Value} (t : TypeId) (x y : Operand) [he : TElem P t e] [hs : TSiz P e es] [hb : TByt P e by'] [hz : TZero P e zs]
    (h : bindK (slAV (st.op x)) fun p => bindK (clOb (st.ob p.1)) fun o => bindK (srcOf st (st.op y)) fun q => p.2.1 = 0 ∧ p.2.2.2 = es ∧ o.2 = e ∧ zs.length = es ∧ zs.all Value.oneCell' = true ∧ o.1.length = p.2.2.1 * es ∧ q.1.length = q.2 * es ∧ (p.2.2.1 + q.2) * by' ≤ 140737488355328 ∧ p.2.2.1 + q.2 ≤ 9223372036854775807 ∧
      K 1 ⟨.sl nid 0 (p.2.2.1 + q.2) es, [(nid, some (.cells (o.1 ++ q.1) e)), (p.1, none)]⟩) :
    AO P ⟨dst, .call ⟨.builtin .append, #[x, y], #[t, t]⟩, ty, pos, af, g⟩ nid st K := by
  obtain ⟨⟨id, off, n, es'⟩, h1, ⟨cs, e'⟩, h2, q, h3, h4, h5, h6, h7⟩ := h
  dsimp only at h4 h5 h6 h7
  subst h4; subst h5; subst h6
  exact R_append t x y ⟨_, _, _, _, _, slAV_eq h1, clOb_eq h2, h3, h7⟩
theorem Q_copy {e : TypeId} {es : Nat} (t : TypeId) (x y : Operand) [he : TElem P t e] [hs : TSiz P e es]
    (h : bindK (slAV (st.op x)) fun p => bindK (clOb (st.ob p.1)) fun o => bindK (srcOf st (st.op y)) fun q => p.2.2.2 = es ∧ o.2 = e ∧ q.1.length = q.2 * es ∧ p.2.1 + p.2.2.1 * es ≤ o.1.length ∧
      K 0 ⟨.val (.int .i64 (min q.2 p.2.2.1 : Nat)), [(p.1, some (.cells (spl o.1 p.2.1 (q.1.take (min q.2 p.2.2.1 * es))) e))]⟩) :
    AO P ⟨dst, .call ⟨.builtin .copy, #[x, y], #[t, t]⟩, ty, pos, af, g⟩ nid st K := by
  obtain ⟨⟨id, off, n, es'⟩, h1, ⟨cs, e'⟩, h2, q, h3, h5, h6, h7⟩ := h
  dsimp only at h5 h6 h7
  subst h5
  exact R_copy t x y ⟨_, _, _, _, _, _, _, slAV_eq h1, clOb_eq h2, h3, h6, h7⟩
theorem Q_clear {e : TypeId} {es : Nat} {zs : List Value} (t : TypeId) (x : Operand) [he : TElem P t e] [hs : TSiz P e es] [hz : TZero P e zs]
    (h : bindK (slAV (st.op x)) fun p => bindK (clOb (st.ob p.1)) fun o => p.2.2.2 = es ∧ o.2 = e ∧ zs.length = es ∧ zs.all Value.oneCell' = true ∧ p.2.1 + p.2.2.1 * es ≤ o.1.length ∧
      K 0 ⟨.any, [(p.1, some (.cells (spl o.1 p.2.1 (zrow zs p.2.2.1)) e))]⟩) : AO P ⟨dst, .call ⟨.builtin .clear, #[x], #[t]⟩, ty, pos, af, g⟩ nid st K := by
  obtain ⟨⟨id, off, n, es'⟩, h1, ⟨cs, e'⟩, h2, h5, h6, h7⟩ := h
  dsimp only at h5 h6 h7
  subst h5
  exact R_clear t x ⟨_, _, _, _, _, slAV_eq h1, clOb_eq h2, h6, h7⟩
end

/-- A cut of a whole. -/
theorem putAV_one {cs : List AV} {off : Nat} {v : AV} : putAV cs off [v] = cs.set off v := rfl
theorem spl_full {α : Type} {cs vs : List α} (h : vs.length = cs.length) : spl cs 0 vs = vs := by unfold spl; simp [h]
theorem zrow_one {v : Value} {n : Nat} : zrow [v] n = List.replicate n (ofV v) := by
  unfold zrow
  induction n with
  | zero => rfl
  | succ n ih => simp only [List.map_cons, List.map_nil] at ih; simp [List.replicate_succ, ih]
theorem take_self {α : Type} {l : List α} {n : Nat} (h : l.length ≤ n) : l.take n = l := List.take_of_length_le h

/-- One of two. -/
def sel {α : Type} (z : Bool) (a b : α) : α := if z then a else b
theorem sel_dt {α : Type} {a b : α} {p : Prop} [Decidable p] (h : p) : sel (decide p) a b = a := by simp [sel, h]
theorem sel_df {α : Type} {a b : α} {p : Prop} [Decidable p] (h : ¬ p) : sel (decide p) a b = b := by simp [sel, h]
theorem sel_t {α : Type} {a b : α} {z : Bool} (h : z = true) : sel z a b = a := by simp [sel, h]
theorem sel_f {α : Type} {a b : α} {z : Bool} (h : z = false) : sel z a b = b := by simp [sel, h]
theorem sel_true {α : Type} {a b : α} : sel true a b = a := rfl
theorem sel_false {α : Type} {a b : α} : sel false a b = b := rfl

/-! ### what simp reckons with: equations that wait until their argument is known -/

section
variable {id off n es k i t : Nat} {cs : List AV} {z b : Bool} {s : ByteArray} {m : Int} {kd : IntKind} {v : Value} {x y : AV} {st : St} {o : AObj} {e : TypeId} {env : List (Nat × AV)} {objs : List (Nat × Option AObj)} {β : Type} {u : β} {l : List (Nat × β)}
theorem e_look : look ((i, u) :: l) t = if t = i then some u else look l t := rfl
theorem e_look0 : look ([] : List (Nat × β)) t = none := rfl
theorem e_hit : look ((i, u) :: l) i = some u := by simp [look]
theorem e_ev : St.ev ⟨n, k, env, objs⟩ t = (look env t).getD .any := rfl
theorem e_ob : St.ob ⟨n, k, env, objs⟩ t = (look objs t).join := rfl
theorem e_opt : St.op st (.tmp t) = st.ev t := rfl
theorem e_opc : St.op st (.const v) = ofV v := rfl
theorem e_pt : ptAV (.pt id off) = some (id, off) := rfl
theorem e_bool : boolAV (.val (.bool b)) = some b := rfl
theorem e_intk : intkAV (.val (.int kd m)) = some (kd, m) := rfl
theorem e_int : intAV (.val (.int kd m)) = some m := rfl
theorem e_str : strAV (.val (.string s)) = some s := rfl
theorem e_isl : islAV (.isl z cs n) = some (z, cs, n) := rfl
theorem e_sl : slAV (.sl id off n es) = some (id, off, n, es) := rfl
theorem e_agg : aggAV (.agg cs) = some cs := rfl
theorem e_tup : tupAV (.tup cs) = some cs := rfl
theorem e_cl : clOb (some (.cells cs e)) = some (cs, e) := rfl
theorem e_addPt : addPt k (.pt id off) = some (.pt id (off + k)) := rfl
theorem e_addPt' : addPt k (.ipt cs off) = some (.ipt cs (off + k)) := rfl
theorem e_idx : idxAV i es (.sl id off n k) = some (.pt id (off + i * es), n) := rfl
theorem e_idx' : idxAV i es (.isl z cs n) = some (.ipt cs (i * es), n) := rfl
theorem e_cellsAt : cellsAt ⟨n, k, env, objs⟩ (.pt id off) = cellsOb off (look objs id).join := rfl
theorem e_cellsAt' : cellsAt st (.ipt cs off) = some (cs, off) := rfl
theorem e_cellsOb : cellsOb off (some (.cells cs e)) = some (cs, off) := rfl
theorem e_lenSl : lenSl (.sl id off n es) = some n := rfl
theorem e_lenSl' : lenSl (.isl z cs n) = some n := rfl
theorem e_srcOf : srcOf ⟨n, k, env, objs⟩ (.sl id off i es) = srcOb off i es (look objs id).join := rfl
theorem e_srcOf' : srcOf st (.isl z cs n) = some (cs, n) := rfl
theorem e_srcOb : srcOb off i es (some (.cells cs e)) = some ((cs.drop off).take (i * es), i) := rfl
theorem e_srcObF : srcOb off i es (some (.full cs e)) = some ((cs.drop off).take (i * es), i) := rfl
theorem e_bound0 : boundAV st k none = some (k : Int) := rfl
theorem e_bound1 {x : Operand} : boundAV st k (some x) = intAV (st.op x) := rfl
theorem e_parts1 : AV.parts (.agg cs) = some cs := rfl
theorem e_parts2 : AV.parts (.isl z cs n) = some [.isl z cs n] := rfl
theorem e_parts3 : AV.parts (.ipt cs n) = some [.ipt cs n] := rfl
theorem e_parts4 : AV.parts (.sl id off n es) = some [.sl id off n es] := rfl
theorem e_parts5 : AV.parts (.pt id off) = some [.pt id off] := rfl
theorem e_parts6 : AV.parts (.mp id) = some [.mp id] := rfl
theorem e_parts7 {f : Nat} : AV.parts (.fn f cs) = some [.fn f cs] := rfl
theorem e_parts8 : AV.parts (.val (.int kd m)) = some [.val (.int kd m)] := rfl
theorem e_parts9 : AV.parts (.val (.bool b)) = some [.val (.bool b)] := rfl
theorem e_parts10 : AV.parts (.val (.string s)) = some [.val (.string s)] := rfl
theorem e_parts11 {ad : Option Addr} : AV.parts (.val (.pointer ad)) = some [.val (.pointer ad)] := rfl
theorem e_parts12 {ad : Option Nat} : AV.parts (.val (.map ad)) = some [.val (.map ad)] := rfl
theorem e_sc1 : AV.scalar (.isl z cs n) = true := rfl
theorem e_sc2 : AV.scalar (.ipt cs n) = true := rfl
theorem e_sc3 : AV.scalar (.sl id off n es) = true := rfl
theorem e_sc4 : AV.scalar (.pt id off) = true := rfl
theorem e_sc5 : AV.scalar (.mp id) = true := rfl
theorem e_sc6 {f : Nat} : AV.scalar (.fn f cs) = true := rfl
theorem e_sc7 : AV.scalar (.val v) = v.oneCell' := rfl
theorem e_nn1 : AV.notNil (.pt id off) = true := rfl
theorem e_nn2 : AV.notNil (.ipt cs off) = true := rfl
theorem e_nn3 {f : Nat} : AV.notNil (.fn f cs) = true := rfl
theorem e_nn4 : AV.notNil (.mp id) = true := rfl
theorem e_pick1 {p q : Bool} : pickAV z (.val (.bool p)) (.val (.bool q)) = .val (.bool (sel z p q)) := rfl
theorem e_pick2 {p q : Int} {kd' : IntKind} : pickAV z (.val (.int kd p)) (.val (.int kd' q)) = sel z (.val (.int kd p)) (.val (.int kd' q)) := rfl
theorem e_pick3 : pickAV z .any x = sel z .any x := by cases x <;> rfl
theorem e_pick5 : pickAV z noV x = sel z noV x := by cases x <;> rfl
theorem e_pick6 : pickAV z x noV = sel z x noV := by cases x <;> first | rfl | (rename_i v; cases v <;> rfl)
theorem e_pick4 : pickAV z x .any = sel z x .any := by cases x <;> first | rfl | (rename_i v; cases v <;> rfl)
end

/-! ### lists of plain cells -/

def cS (l : List ByteArray) : List AV := l.map fun s => .val (.string s)
def cB (l : List Bool) : List AV := l.map fun b => .val (.bool b)
def cI (k : IntKind) (l : List Int) : List AV := l.map fun n => .val (.int k n)

section
variable {k : IntKind}
theorem cS_len (l : List ByteArray) : (cS l).length = l.length := by simp [cS]
theorem cB_len (l : List Bool) : (cB l).length = l.length := by simp [cB]
theorem cI_len (l : List Int) : (cI k l).length = l.length := by simp [cI]
theorem cS_set (l : List ByteArray) (i : Nat) (s : ByteArray) : (cS l).set i (.val (.string s)) = cS (l.set i s) := by simp [cS, List.map_set]
theorem cB_set (l : List Bool) (i : Nat) (s : Bool) : (cB l).set i (.val (.bool s)) = cB (l.set i s) := by simp [cB, List.map_set]
theorem cI_set (l : List Int) (i : Nat) (s : Int) : (cI k l).set i (.val (.int k s)) = cI k (l.set i s) := by simp [cI, List.map_set]
theorem cS_get (l : List ByteArray) (i : Nat) : (cS l)[i]? = l[i]?.map fun s => .val (.string s) := by simp [cS]
theorem cB_get (l : List Bool) (i : Nat) : (cB l)[i]? = l[i]?.map fun s => .val (.bool s) := by simp [cB]
theorem cI_get (l : List Int) (i : Nat) : (cI k l)[i]? = l[i]?.map fun s => .val (.int k s) := by simp [cI]
theorem cS_app (l m : List ByteArray) : cS l ++ cS m = cS (l ++ m) := by simp [cS]
theorem cB_app (l m : List Bool) : cB l ++ cB m = cB (l ++ m) := by simp [cB]
theorem cI_app (l m : List Int) : cI k l ++ cI k m = cI k (l ++ m) := by simp [cI]
theorem cS_snoc (l : List ByteArray) (s : ByteArray) : cS l ++ [.val (.string s)] = cS (l ++ [s]) := by simp [cS]
theorem cB_snoc (l : List Bool) (s : Bool) : cB l ++ [.val (.bool s)] = cB (l ++ [s]) := by simp [cB]
theorem cI_snoc (l : List Int) (s : Int) : cI k l ++ [.val (.int k s)] = cI k (l ++ [s]) := by simp [cI]
theorem cS_take (l : List ByteArray) (n : Nat) : (cS l).take n = cS (l.take n) := by simp [cS, List.map_take]
theorem cB_take (l : List Bool) (n : Nat) : (cB l).take n = cB (l.take n) := by simp [cB, List.map_take]
theorem cI_take (l : List Int) (n : Nat) : (cI k l).take n = cI k (l.take n) := by simp [cI, List.map_take]
theorem cS_drop (l : List ByteArray) (n : Nat) : (cS l).drop n = cS (l.drop n) := by simp [cS, List.map_drop]
theorem cB_drop (l : List Bool) (n : Nat) : (cB l).drop n = cB (l.drop n) := by simp [cB, List.map_drop]
theorem cI_drop (l : List Int) (n : Nat) : (cI k l).drop n = cI k (l.drop n) := by simp [cI, List.map_drop]
theorem cS_zrow (s : ByteArray) (n : Nat) : zrow [.string s] n = cS (List.replicate n s) := by simp [zrow_one, cS, ofV]
theorem cB_zrow (s : Bool) (n : Nat) : zrow [.bool s] n = cB (List.replicate n s) := by simp [zrow_one, cB, ofV]
theorem cI_zrow (s : Int) (n : Nat) : zrow [.int k s] n = cI k (List.replicate n s) := by simp [zrow_one, cI, ofV]
theorem cS_ren (τ : Nat → Nat) (l : List ByteArray) : (cS l).map (ren τ) = cS l := by simp [cS, ren]
theorem cB_ren (τ : Nat → Nat) (l : List Bool) : (cB l).map (ren τ) = cB l := by simp [cB, ren]
theorem cI_ren (τ : Nat → Nat) (l : List Int) : (cI k l).map (ren τ) = cI k l := by simp [cI, ren]
theorem cS_frz (id : Nat) (cs : List AV) (l : List ByteArray) : (cS l).map (frzV id cs) = cS l := by simp [cS, frzV]
theorem cB_frz (id : Nat) (cs : List AV) (l : List Bool) : (cB l).map (frzV id cs) = cB l := by simp [cB, frzV]
theorem cI_frz (id : Nat) (cs : List AV) (l : List Int) : (cI k l).map (frzV id cs) = cI k l := by simp [cI, frzV]
theorem cS_bnd (n : Nat) (l : List ByteArray) : (∀ x ∈ cS l, bnd n x) = True := by simp [cS, bnd]
theorem cB_bnd (n : Nat) (l : List Bool) : (∀ x ∈ cB l, bnd n x) = True := by simp only [cB, List.forall_mem_map]; simp [bnd]
theorem cI_bnd (n : Nat) (l : List Int) : (∀ x ∈ cI k l, bnd n x) = True := by simp [cI, bnd]
theorem cS_noImm (l : List ByteArray) : (∀ x ∈ cS l, noImm x) = True := by simp [cS, noImm]
theorem cB_noImm (l : List Bool) : (∀ x ∈ cB l, noImm x) = True := by simp only [cB, List.forall_mem_map]; simp [noImm]
theorem cI_noImm (l : List Int) : (∀ x ∈ cI k l, noImm x) = True := by simp [cI, noImm]
theorem cS_all (l : List ByteArray) : (cS l).all AV.scalar = true := by simp [cS, AV.scalar, Value.oneCell']
theorem cB_all (l : List Bool) : (cB l).all AV.scalar = true := by simp [cB, AV.scalar, Value.oneCell']
theorem cI_all (l : List Int) : (cI k l).all AV.scalar = true := by simp [cI, AV.scalar, Value.oneCell']
theorem cS_spl (l m : List ByteArray) (h : m.length = l.length) : spl (cS l) 0 (cS m) = cS m := spl_full (by simpa [cS] using h)
theorem cB_spl (l m : List Bool) (h : m.length = l.length) : spl (cB l) 0 (cB m) = cB m := spl_full (by simpa [cB] using h)
theorem cI_spl (l m : List Int) (h : m.length = l.length) : spl (cI k l) 0 (cI k m) = cI k m := spl_full (by simpa [cI] using h)
theorem cS_one {s : ByteArray} : cS [s] = [.val (.string s)] := rfl
theorem cB_one {s : Bool} : cB [s] = [.val (.bool s)] := rfl
theorem cI_one {s : Int} : cI k [s] = [.val (.int k s)] := rfl
theorem cS_nil : cS [] = [] := rfl
theorem cB_nil : cB [] = [] := rfl
theorem cI_nil : cI k [] = [] := rfl
end

/-! ### results in cells -/
theorem putAV_more {cs vs : List AV} {off : Nat} {a b : AV} : putAV cs off (a :: b :: vs) = spl cs off (a :: b :: vs) := rfl
theorem spl_lit {α : Type} {cs vs : List α} {off : Nat} {a c : α} : spl (c :: cs) off (a :: vs) = (c :: cs).take off ++ (a :: vs ++ (c :: cs).drop (off + (a :: vs).length)) := rfl
def cellResO (n off : Nat) : Option AObj → Option AV
  | some (.cells cs _) => if off + n ≤ cs.length then some (.agg ((cs.drop off).take n)) else none
  | _ => none
def cellResS (off : Nat) : Option AObj → Option AV
  | some (.cells cs _) => cs[off]?
  | _ => none
def cellRes (n : Nat) (st : St) : AV → Option AV
  | .pt id off => cellResO n off (st.ob id)
  | _ => none
def cellRes1 (st : St) : AV → Option AV
  | .pt id off => cellResS off (st.ob id)
  | _ => none
theorem resAV_tmp {P : Program} {st : St} {t : Nat} : resAV P st (.tmp t) = some (st.ev t) := rfl
theorem resAV_cellA {P : Program} {st : St} {x t n : Nat} [ha : TAgg P t true] [hs : TSiz P t n] : resAV P st (.cell x t) = cellRes n st (st.ev x) := by
  simp only [resAV, ha.out, hs.out]
  cases st.ev x with
  | pt id off =>
    cases ho : st.ob id with
    | none => simp [cellRes, cellResO, ho]
    | some o => cases o <;> simp [cellRes, cellResO, ho]
  | _ => rfl
theorem resAV_cellS {P : Program} {st : St} {x t : Nat} [ha : TAgg P t false] : resAV P st (.cell x t) = cellRes1 st (st.ev x) := by
  simp only [resAV, ha.out]
  cases st.ev x with
  | pt id off =>
    cases ho : st.ob id with
    | none => simp [cellRes1, cellResS, ho]
    | some o => cases o <;> simp [cellRes1, cellResS, ho]
  | _ => rfl
theorem e_cellRes {n k id off : Nat} {m : Nat} {env : List (Nat × AV)} {objs : List (Nat × Option AObj)} : cellRes n ⟨k, m, env, objs⟩ (.pt id off) = cellResO n off (look objs id).join := rfl
theorem e_cellRes1 {k id off : Nat} {m : Nat} {env : List (Nat × AV)} {objs : List (Nat × Option AObj)} : cellRes1 ⟨k, m, env, objs⟩ (.pt id off) = cellResS off (look objs id).join := rfl
theorem e_cellResO {n off : Nat} {cs : List AV} {e : TypeId} : cellResO n off (some (.cells cs e)) = if off + n ≤ cs.length then some (.agg ((cs.drop off).take n)) else none := rfl
theorem e_cellResS {off : Nat} {cs : List AV} {e : TypeId} : cellResS off (some (.cells cs e)) = cs[off]? := rfl

/-! ### a slice that is nil as long as it is empty -/
def nilOr (n id es : Nat) : AV := if n = 0 then .isl true [] 0 else .sl id 0 n es
def nilOb (n id : Nat) (cs : List AV) (e : TypeId) : List (Nat × Option AObj) := if n = 0 then [] else [(id, some (.cells cs e))]
def islN (n : Nat) (cs : List AV) : AV := .isl (n == 0) cs n
theorem nilOr_z {n id es : Nat} (h : n = 0) : nilOr n id es = .isl true [] 0 := by unfold nilOr; rw [if_pos h]
theorem nilOr_s {n id es : Nat} (h : 0 < n) : nilOr n id es = .sl id 0 n es := by unfold nilOr; rw [if_neg (by omega)]
theorem nilOb_z {n id : Nat} {cs : List AV} {e : TypeId} (h : n = 0) : nilOb n id cs e = [] := by unfold nilOb; rw [if_pos h]
theorem nilOb_s {n id : Nat} {cs : List AV} {e : TypeId} (h : 0 < n) : nilOb n id cs e = [(id, some (.cells cs e))] := by unfold nilOb; rw [if_neg (by omega)]
theorem islN_z {cs : List AV} {n : Nat} (h : n = 0) (hc : cs.length = 0) : islN n cs = .isl true [] 0 := by
  unfold islN; subst h; rw [List.length_eq_zero_iff.1 hc]; rfl
theorem islN_s {cs : List AV} {n : Nat} (h : 0 < n) : islN n cs = .isl false cs n := by
  unfold islN; congr 1; simp; omega

/-- The end of a round: the state is again one of the form. -/
def Nxt {ι : Type} (I : ι → St) (μ : ι → Nat) (m : Nat) (i : ι) (s : St) : Prop := ∃ (σ' : List Nat) (j : ι), σ'.length = m ∧ Sub σ' (I j) s ∧ μ j < μ i
theorem Nxt.mk {ι : Type} {I : ι → St} {μ : ι → Nat} {m : Nat} {i : ι} {s : St} (σ : List Nat) (j : ι) (h1 : σ.length = m) (h2 : Sub σ (I j) s) (h3 : μ j < μ i) : Nxt I μ m i s := ⟨σ, j, h1, h2, h3⟩
theorem AC_loop' {P : Program} {Q : Exit → Nat → St → Prop} {nid : Nat} {st : St} {code : Code} {ι : Type} (σ : List Nat) (m : Nat) (I : ι → St) (μ : ι → Nat) (i0 : ι) (hm : σ.length = m) (h0 : Sub σ (I i0) st)
    (round : ∀ i, AC P code (Thn (fun _ s => Nxt I μ m i s) Q) m (I i)) : AC P (.loop code) Q nid st := AC_loop σ m I μ i0 hm h0 round

/-! ### whole numbers that fit -/
theorem w_i64 {n : Int} (h : -9223372036854775808 ≤ n ∧ n ≤ 9223372036854775807) : IntKind.i64.wrap n = n := by unfold IntKind.wrap; simp only [IntKind.bits, IntKind.signed]; simp; omega
theorem w_i32 {n : Int} (h : -2147483648 ≤ n ∧ n ≤ 2147483647) : IntKind.i32.wrap n = n := by unfold IntKind.wrap; simp only [IntKind.bits, IntKind.signed]; simp; omega
theorem w_u8 {n : Int} (h : 0 ≤ n ∧ n ≤ 255) : IntKind.u8.wrap n = n := by unfold IntKind.wrap; simp only [IntKind.bits, IntKind.signed]; simp; omega
theorem w_u16 {n : Int} (h : 0 ≤ n ∧ n ≤ 65535) : IntKind.u16.wrap n = n := by unfold IntKind.wrap; simp only [IntKind.bits, IntKind.signed]; simp; omega
theorem w_u32 {n : Int} (h : 0 ≤ n ∧ n ≤ 4294967295) : IntKind.u32.wrap n = n := by unfold IntKind.wrap; simp only [IntKind.bits, IntKind.signed]; simp; omega
theorem w_u64 {n : Int} (h : 0 ≤ n ∧ n ≤ 18446744073709551615) : IntKind.u64.wrap n = n := by unfold IntKind.wrap; simp only [IntKind.bits, IntKind.signed]; simp; omega

theorem AC_loop_id {P : Program} {Q : Exit → Nat → St → Prop} {nid : Nat} {st : St} {code : Code} (h : AC P (.loop code) Q nid st) : AC P (.loop code) Q nid st := h
theorem Nxt_id {ι : Type} {I : ι → St} {μ : ι → Nat} {m : Nat} {i : ι} {s : St} (h : Nxt I μ m i s) : Nxt I μ m i s := h

theorem islN_all {n : Nat} {cs : List AV} : islN n cs = .isl (n == 0) cs n := rfl
theorem tmod_nonneg {a b : Int} (h : 0 ≤ a) : a.tmod b = a % b := Int.tmod_eq_emod_of_nonneg h
theorem tdiv_nonneg {a b : Int} (h : 0 ≤ a) : a.tdiv b = a / b := Int.tdiv_eq_ediv_of_nonneg h

/-! ### one equation for each form -/
section
variable {τ : Nat → Nat} {σ : List Nat} {st : St} {id i off len es n k f : Nat} {z : Bool} {cs l : List AV} {v : Value} {e : TypeId}
theorem ren_no : ren τ noV = noV := by simp [noV, ren]
theorem ren_val : ren τ (.val v) = .val v := by simp [ren]
theorem ren_isl : ren τ (.isl z cs n) = .isl z cs n := by simp [ren]
theorem ren_ipt : ren τ (.ipt cs k) = .ipt cs k := by simp [ren]
theorem ren_sl : ren τ (.sl id off len es) = .sl (τ id) off len es := by simp [ren]
theorem ren_pt : ren τ (.pt id off) = .pt (τ id) off := by simp [ren]
theorem ren_mp : ren τ (.mp id) = .mp (τ id) := by simp [ren]
theorem ren_agg : ren τ (.agg cs) = .agg (cs.map (ren τ)) := by simp [ren]
theorem ren_tup : ren τ (.tup cs) = .tup (cs.map (ren τ)) := by simp [ren]
theorem ren_fn : ren τ (.fn f cs) = .fn f (cs.map (ren τ)) := by simp [ren]
theorem ren_any : ren τ .any = .any := by simp [ren]
theorem renO_full : renO τ (.full cs e) = .full (cs.map (ren τ)) e := rfl
theorem renO_cells : renO τ (.cells cs e) = .cells (cs.map (ren τ)) e := rfl
theorem frz_sl : frzV id cs (.sl i off len es) = if i = id then .isl false ((cs.drop off).take (len * es)) len else .sl i off len es := by simp [frzV]
theorem frz_pt : frzV id cs (.pt i off) = if i = id then .ipt cs off else .pt i off := by simp [frzV]
theorem frz_agg : frzV id cs (.agg l) = .agg (l.map (frzV id cs)) := by simp [frzV]
theorem frz_tup : frzV id cs (.tup l) = .tup (l.map (frzV id cs)) := by simp [frzV]
theorem frz_fn : frzV id cs (.fn f l) = .fn f (l.map (frzV id cs)) := by simp [frzV]
theorem frz_no : frzV id cs noV = noV := by simp [noV, frzV]
theorem frz_val : frzV id cs (.val v) = .val v := by simp [frzV]
theorem frz_isl : frzV id cs (.isl z l n) = .isl z l n := by simp [frzV]
theorem frz_ipt : frzV id cs (.ipt l k) = .ipt l k := by simp [frzV]
theorem frz_mp : frzV id cs (.mp i) = .mp i := by simp [frzV]
theorem frz_any : frzV id cs .any = .any := by simp [frzV]
theorem frzO_cells : frzO id cs (.cells l e) = .cells (l.map (frzV id cs)) e := rfl
def dfzS (st : St) (σ : List Nat) (k off len es : Nat) : Option AObj → AV
  | some (.cells cs _) => .isl false (((cs.drop off).take (len * es)).map (dfz st σ k)) len
  | _ => .any
def dfzP (st : St) (σ : List Nat) (k off : Nat) : Option AObj → AV
  | some (.cells cs _) => .ipt (cs.map (dfz st σ k)) off
  | _ => .any
theorem e_dfzS : dfzS st σ k off len es (some (.cells cs e)) = .isl false (((cs.drop off).take (len * es)).map (dfz st σ k)) len := rfl
theorem e_dfzP : dfzP st σ k off (some (.cells cs e)) = .ipt (cs.map (dfz st σ k)) off := rfl
theorem dfz_sl (h : 0 < k) : dfz st σ k (.sl id off len es) = if hasN σ id = true then .any else dfzS st σ (k - 1) off len es (look st.objs id).join := by
  obtain ⟨k, rfl⟩ : ∃ j, k = j + 1 := ⟨k - 1, by omega⟩
  rw [dfz]; split
  · rfl
  · cases (look st.objs id).join with
    | none => rfl
    | some o => cases o <;> rfl
theorem dfz_pt (h : 0 < k) : dfz st σ k (.pt id off) = if hasN σ id = true then .any else dfzP st σ (k - 1) off (look st.objs id).join := by
  obtain ⟨k, rfl⟩ : ∃ j, k = j + 1 := ⟨k - 1, by omega⟩
  rw [dfz]; split
  · rfl
  · cases (look st.objs id).join with
    | none => rfl
    | some o => cases o <;> rfl
theorem dfz_agg (h : 0 < k) : dfz st σ k (.agg l) = .agg (l.map (dfz st σ (k - 1))) := by obtain ⟨k, rfl⟩ : ∃ j, k = j + 1 := ⟨k - 1, by omega⟩; rw [dfz]; rfl
theorem dfz_tup (h : 0 < k) : dfz st σ k (.tup l) = .tup (l.map (dfz st σ (k - 1))) := by obtain ⟨k, rfl⟩ : ∃ j, k = j + 1 := ⟨k - 1, by omega⟩; rw [dfz]; rfl
theorem dfz_fn (h : 0 < k) : dfz st σ k (.fn f l) = .fn f (l.map (dfz st σ (k - 1))) := by obtain ⟨k, rfl⟩ : ∃ j, k = j + 1 := ⟨k - 1, by omega⟩; rw [dfz]; rfl
theorem dfz_val (h : 0 < k) : dfz st σ k (.val v) = .val v := by obtain ⟨k, rfl⟩ : ∃ j, k = j + 1 := ⟨k - 1, by omega⟩; rw [dfz]
theorem dfz_isl (h : 0 < k) : dfz st σ k (.isl z l n) = .isl z l n := by obtain ⟨k, rfl⟩ : ∃ j, k = j + 1 := ⟨k - 1, by omega⟩; rw [dfz]
theorem dfz_ipt (h : 0 < k) : dfz st σ k (.ipt l n) = .ipt l n := by obtain ⟨k, rfl⟩ : ∃ j, k = j + 1 := ⟨k - 1, by omega⟩; rw [dfz]
theorem dfz_mp : dfz st σ k (.mp id) = .any := by cases k <;> rw [dfz]
theorem dfz_any : dfz st σ k .any = .any := by cases k <;> rw [dfz]
variable {fz : Bool}
theorem toA_sl (h : 0 < k) : toA st σ fz k (.sl id off len es) = if hasN σ id = true then .sl (npos σ id) off len es else if fz = true then dfz st σ (k - 1) (.sl id off len es) else .any := by obtain ⟨k, rfl⟩ : ∃ j, k = j + 1 := ⟨k - 1, by omega⟩; rw [toA]; rfl
theorem toA_pt (h : 0 < k) : toA st σ fz k (.pt id off) = if hasN σ id = true then .pt (npos σ id) off else if fz = true then dfz st σ (k - 1) (.pt id off) else .any := by obtain ⟨k, rfl⟩ : ∃ j, k = j + 1 := ⟨k - 1, by omega⟩; rw [toA]; rfl
theorem toA_mp (h : 0 < k) : toA st σ fz k (.mp id) = if hasN σ id = true then .mp (npos σ id) else .any := by obtain ⟨k, rfl⟩ : ∃ j, k = j + 1 := ⟨k - 1, by omega⟩; rw [toA]
theorem toA_agg (h : 0 < k) : toA st σ fz k (.agg l) = .agg (l.map (toA st σ fz (k - 1))) := by obtain ⟨k, rfl⟩ : ∃ j, k = j + 1 := ⟨k - 1, by omega⟩; rw [toA]; rfl
theorem toA_tup (h : 0 < k) : toA st σ fz k (.tup l) = .tup (l.map (toA st σ fz (k - 1))) := by obtain ⟨k, rfl⟩ : ∃ j, k = j + 1 := ⟨k - 1, by omega⟩; rw [toA]; rfl
theorem toA_fn (h : 0 < k) : toA st σ fz k (.fn f l) = .fn f (l.map (toA st σ fz (k - 1))) := by obtain ⟨k, rfl⟩ : ∃ j, k = j + 1 := ⟨k - 1, by omega⟩; rw [toA]; rfl
theorem toA_val (h : 0 < k) : toA st σ fz k (.val v) = .val v := by obtain ⟨k, rfl⟩ : ∃ j, k = j + 1 := ⟨k - 1, by omega⟩; rw [toA]
theorem toA_isl (h : 0 < k) : toA st σ fz k (.isl z l n) = .isl z l n := by obtain ⟨k, rfl⟩ : ∃ j, k = j + 1 := ⟨k - 1, by omega⟩; rw [toA]
theorem toA_ipt (h : 0 < k) : toA st σ fz k (.ipt l n) = .ipt l n := by obtain ⟨k, rfl⟩ : ∃ j, k = j + 1 := ⟨k - 1, by omega⟩; rw [toA]
theorem toA_any : toA st σ fz k .any = .any := by cases k <;> rw [toA]
theorem toO_cells : toO st σ fz (.cells cs e) = .cells (cs.map (toA st σ fz 8)) e := rfl
theorem toO_map {ag : Bool} {lm : List (List Int × AV)} : toO st σ fz (.map ag n lm) = .map ag n (lm.map fun x => (x.1, toA st σ fz 8 x.2)) := rfl
theorem toO_full : toO st σ fz (.full cs e) = .full (cs.map (toA st σ fz 8)) e := rfl
theorem e_obOf {o : AObj} : obOf st σ fz (some o) = toO st σ fz o := rfl
theorem toObj_eq : toObj st σ fz id = obOf st σ fz (look st.objs id).join := rfl
end

/-! closed cells -/
section
variable {st : St} {σ : List Nat} {fz : Bool} {n : Nat} {kd : IntKind}
theorem cS_dfz {l : List ByteArray} (h : 0 < n) : (cS l).map (dfz st σ n) = cS l := by
  unfold cS; rw [List.map_map]; exact List.map_congr_left (fun x _ => dfz_val h)
theorem cB_dfz {l : List Bool} (h : 0 < n) : (cB l).map (dfz st σ n) = cB l := by
  unfold cB; rw [List.map_map]; exact List.map_congr_left (fun x _ => dfz_val h)
theorem cI_dfz {l : List Int} (h : 0 < n) : (cI kd l).map (dfz st σ n) = cI kd l := by
  unfold cI; rw [List.map_map]; exact List.map_congr_left (fun x _ => dfz_val h)
theorem cS_toA {l : List ByteArray} (h : 0 < n) : (cS l).map (toA st σ fz n) = cS l := by
  unfold cS; rw [List.map_map]; exact List.map_congr_left (fun x _ => toA_val h)
theorem cB_toA {l : List Bool} (h : 0 < n) : (cB l).map (toA st σ fz n) = cB l := by
  unfold cB; rw [List.map_map]; exact List.map_congr_left (fun x _ => toA_val h)
theorem cI_toA {l : List Int} (h : 0 < n) : (cI kd l).map (toA st σ fz n) = cI kd l := by
  unfold cI; rw [List.map_map]; exact List.map_congr_left (fun x _ => toA_val h)
end

/-- A state is one of a form, told in one sentence. -/
theorem Sub.mk2 {σ : List Nat} {n m : Nat} {env env' : List (Nat × AV)} {objs objs' : List (Nat × Option AObj)} (h : σ.Nodup ∧ σ.take m = List.range m ∧ subObj σ ⟨n, m, env, objs⟩ objs' ∧ subEnv σ ⟨n, m, env, objs⟩ env') :
    Sub σ ⟨n, m, env', objs'⟩ ⟨n, m, env, objs⟩ := Sub.mk' h.2.2.2 h.2.2.1 h.1 h.2.1
end Go.Sy

/-! ### what simp reckons with -/
namespace Go.Sy
/-- A part of a code. -/
def cAt : List Nat → Code → Code
  | 0 :: p, .seq a _ => cAt p a
  | 1 :: p, .seq _ b => cAt p b
  | 0 :: p, .block _ c => cAt p c
  | 0 :: p, .loop c => cAt p c
  | 0 :: p, .cond _ x _ => cAt p x
  | 1 :: p, .cond _ _ y => cAt p y
  | _, c => c
attribute [push_cast] ofV_int ofV_bool ofV_str ofV_ptr ofV_nil ofV_map fillAV fillOne
attribute [push_cast] entry idx bin_add bin_sub bin_mul bin_quo bin_rem bin_and
attribute [push_cast] bin_or bin_xor bin_andNot bin_shl bin_shr bin_eql bin_neq bin_lss
attribute [push_cast] bin_leq bin_gtr bin_geq bin_eqlS bin_neqS bin_addS bin_eqlB bin_neqB
attribute [push_cast] bin_eqlP bin_neqP eq_isl eq_sl eq_pt eq_ipt keepE dedupO
attribute [push_cast] dropKey subEnv subObj ren_val ren_isl ren_ipt ren_sl ren_pt
attribute [push_cast] ren_mp ren_agg ren_tup ren_fn ren_any renO_cells bnd_val bnd_isl
attribute [push_cast] bnd_ipt bnd_any bnd_sl bnd_pt bnd_mp bnd_agg bnd_tup bnd_fn
attribute [push_cast] bndO_cells bndO_map noImm_val noImm_isl noImm_ipt noImm_any noImm_sl noImm_pt
attribute [push_cast] noImm_mp noImm_agg noImm_tup noImm_fn noImmO_cells tmod_nonneg tdiv_nonneg w_i64
attribute [push_cast] w_i32 w_u8 w_u16 w_u32 w_u64 nilOr_z nilOr_s nilOb_z
attribute [push_cast] nilOb_s islN_z islN_s resAV_tmp resAV_cellA resAV_cellS e_cellRes e_cellRes1
attribute [push_cast] e_cellResO e_cellResS putAV_more spl_lit resultAV_0 resultAV_1 resultAV_2 resultAV_3
attribute [push_cast] resultAV_4 npos hasN toA_sl toA_pt toA_mp toA_agg toA_tup toA_fn toA_val toA_isl toA_ipt toA_any
attribute [push_cast] dfz_sl dfz_pt dfz_mp dfz_agg dfz_tup dfz_fn dfz_val dfz_isl dfz_ipt dfz_any e_dfzS e_dfzP
attribute [push_cast] cS_dfz cB_dfz cI_dfz cS_toA cB_toA cI_toA toO_cells toO_map toO_full e_obOf toObj_eq
attribute [push_cast] e_pick5 e_pick6 ren_no frz_no g_bool g_no
attribute [push_cast] obsOk callUpd outName keysOk
attribute [push_cast] frz_sl frz_pt frz_agg frz_tup frz_fn frz_val frz_isl frz_ipt
attribute [push_cast] frz_mp frz_any frzO_cells redEnv redObjs_nil redObjs_cons red1 keepLt
attribute [push_cast] bindK_some bindK_map bindK_get bindK_if putAV_one spl_full cS_spl cB_spl
attribute [push_cast] cI_spl take_self cS_len cS_set cS_get cS_app cS_snoc cS_take
attribute [push_cast] cS_one cB_one cI_one cS_drop cS_zrow cS_ren cS_frz cS_bnd cS_noImm cS_all cS_nil
attribute [push_cast] cB_len cB_set cB_get cB_app cB_snoc cB_take cB_drop cB_zrow
attribute [push_cast] cB_ren cB_frz cB_bnd cB_noImm cB_all cB_nil cI_len cI_set
attribute [push_cast] cI_get cI_app cI_snoc cI_take cI_drop cI_zrow cI_ren cI_frz
attribute [push_cast] cI_bnd cI_noImm cI_all cI_nil e_hit e_look e_look0 e_ev
attribute [push_cast] e_ob e_opt e_opc e_pt e_bool e_intk e_int e_str
attribute [push_cast] e_isl e_sl e_agg e_tup e_cl e_addPt e_addPt' e_idx
attribute [push_cast] e_idx' e_cellsAt e_cellsAt' e_cellsOb e_lenSl e_lenSl' e_srcOf e_srcOf'
attribute [push_cast] e_srcObF e_srcOb e_bound0 e_bound1 e_parts1 e_parts2 e_parts3 e_parts4 e_parts5
attribute [push_cast] e_parts6 e_parts7 e_parts8 e_parts9 e_parts10 e_parts11 e_parts12 e_sc1
attribute [push_cast] e_sc2 e_sc3 e_sc4 e_sc5 e_sc6 e_sc7 e_nn1 e_nn2
attribute [push_cast] e_nn3 e_nn4 e_pick1 e_pick2 e_pick3 e_pick4 sel_true sel_false
attribute [push_cast] sel_dt sel_df sel_t sel_f Go.Value.oneCell' List.map_cons List.map_nil List.nil_append
attribute [push_cast] List.cons_append List.append_nil Nat.add_zero Nat.zero_add Nat.mul_one Nat.zero_mul Int.toNat_natCast Int.toNat_zero
attribute [push_cast] if_true if_false Option.getD_some Option.getD_none Option.join_some Option.join_none Option.bind_some Option.map_some
attribute [push_cast] Option.some.injEq Prod.mk.injEq AV.val.injEq Value.int.injEq Value.bool.injEq Value.string.injEq AV.pt.injEq AV.ipt.injEq
attribute [push_cast] AV.sl.injEq AV.isl.injEq AV.agg.injEq AV.tup.injEq AObj.cells.injEq exists_eq_left' exists_eq_left exists_and_left
attribute [push_cast] exists_and_right and_assoc true_and and_true and_self exists_const false_and and_false
attribute [push_cast] false_or or_false true_or or_true exists_false ne_eq not_true_eq_false not_false_eq_true
attribute [push_cast] List.getElem?_cons_zero List.getElem?_cons_succ List.length_cons List.length_nil List.length_map List.length_append List.length_set List.length_replicate
attribute [push_cast] List.all_cons List.all_nil Bool.and_true Bool.true_and Bool.and_self List.drop_zero List.take_succ_cons List.drop_succ_cons
attribute [push_cast] List.take_zero List.drop_nil List.take_nil List.set_cons_zero List.set_cons_succ Bool.not_true Bool.not_false Bool.false_eq_true
attribute [push_cast] Bool.true_eq_false decide_eq_true_eq decide_eq_false_iff_not Bool.not_eq_true' Bool.not_eq_false' false_implies true_implies Bool.not_eq_true
attribute [push_cast] Bool.not_eq_false Bool.not_not decide_true decide_false Int.natCast_zero Int.natCast_add Int.natCast_one eq_self
attribute [push_cast] List.mem_cons forall_eq_or_imp forall_eq List.not_mem_nil implies_true List.map_map Function.comp_def List.getD_cons_zero
attribute [push_cast] List.getD_cons_succ List.forall_mem_map List.forall_mem_append List.nodup_cons List.nodup_nil List.Nodup.eq_1 or_self not_or
attribute [push_cast] List.range_succ List.range_zero List.contains_cons List.contains_nil Bool.or_false Bool.false_or Bool.or_true Bool.true_or
attribute [push_cast] Option.isSome_some Option.isSome_none Nat.le_refl
end Go.Sy
