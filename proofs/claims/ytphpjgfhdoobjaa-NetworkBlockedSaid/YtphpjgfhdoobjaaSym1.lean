/-
  The states of the symbolic walk: abstract values, the relation between them and a world, and how an effect carries the relation on. No condition.
-/
import Derived.WalkKit
set_option linter.unusedVariables false
set_option linter.unusedSectionVars false
set_option linter.unusedSimpArgs false
namespace Go.Sy

inductive AV where
  | val (v : Value)
  | isl (z : Bool) (cells : List AV) (len : Nat)
  | ipt (cells : List AV) (off : Nat)
  | sl (id off len es : Nat)
  | pt (id off : Nat)
  | mp (id : Nat)
  | agg (cs : List AV)
  | tup (cs : List AV)
  | fn (f : FuncId) (cs : List AV)
  | any

abbrev Rho := Nat → Option (Nat × Nat)

inductive Rep (w : World) (J : Nat → Prop) : Rho → Value → AV → Prop
  | val {ρ : Rho} (v : Value) : Rep w J ρ v (.val v)
  | any {ρ : Rho} (v : Value) : Rep w J ρ v .any
  | inil {ρ : Rho} : Rep w J ρ (.slice none 0 0) (.isl true [] 0)
  | iemp {ρ : Rho} (a : Addr) (cap : Nat) : Rep w J ρ (.slice (some a) 0 cap) (.isl false [] 0)
  | isl {ρ : Rho} (b off len cap : Nat) (cells : List AV) (u : Nat → Value) (hb : cells ≠ [] → J b ∧ b < w.heap.size) (hc : len ≤ cap)
      (h0 : ∀ j, j < cells.length → (u j).oneCell' = true)
      (h1 : ∀ j, j < cells.length → w.cell? ⟨b, off + j, none⟩ = some (u j)) (h2 : ∀ j (h : j < cells.length), Rep w J (fun _ => none) (u j) cells[j]) :
      Rep w J ρ (.slice (some ⟨b, off, none⟩) len cap) (.isl false cells len)
  | ipt {ρ : Rho} (b off k : Nat) (cells : List AV) (u : Nat → Value) (hb : cells ≠ [] → J b ∧ b < w.heap.size)
      (h0 : ∀ j, j < cells.length → (u j).oneCell' = true)
      (h1 : ∀ j, j < cells.length → w.cell? ⟨b, off + j, none⟩ = some (u j)) (h2 : ∀ j (h : j < cells.length), Rep w J (fun _ => none) (u j) cells[j]) :
      Rep w J ρ (.pointer (some ⟨b, off + k, none⟩)) (.ipt cells k)
  | sl {ρ : Rho} (b s id off len es cap : Nat) (h : ρ id = some (b, s)) (hc : len ≤ cap) (hs : off + cap * es = s) : Rep w J ρ (.slice (some ⟨b, off, none⟩) len cap) (.sl id off len es)
  | pt {ρ : Rho} (b s id off : Nat) (h : ρ id = some (b, s)) : Rep w J ρ (.pointer (some ⟨b, off, none⟩)) (.pt id off)
  | mp {ρ : Rho} (b s id : Nat) (h : ρ id = some (b, s)) : Rep w J ρ (.map (some b)) (.mp id)
  | agg {ρ : Rho} (vs : Array Value) (cs : List AV) (hs : vs.size = cs.length) (h : ∀ j (h : j < cs.length), Rep w J ρ (vs.getD j undef) cs[j]) : Rep w J ρ (.agg vs) (.agg cs)
  | tup {ρ : Rho} (vs : Array Value) (cs : List AV) (hs : vs.size = cs.length) (h : ∀ j (h : j < cs.length), Rep w J ρ (vs.getD j undef) cs[j]) : Rep w J ρ (.tuple vs) (.tup cs)
  | fn {ρ : Rho} (f : FuncId) (vs : Array Value) (cs : List AV) (hs : vs.size = cs.length) (h : ∀ j (h : j < cs.length), Rep w J ρ (vs.getD j undef) cs[j]) : Rep w J ρ (.func (.func f) #[] vs) (.fn f cs)

/-- What may stand in one cell. -/
def AV.scalar : AV → Bool
  | .val v => v.oneCell'
  | .agg _ | .tup _ | .any => false
  | _ => true

theorem Rep.oneCell {w : World} {J : Nat → Prop} {ρ : Rho} {v : Value} {x : AV} (h : Rep w J ρ v x) (hx : x.scalar = true) : v.oneCell' = true := by
  cases h <;> first | rfl | exact hx | cases hx

theorem Rep.mono {w w' : World} {J J' : Nat → Prop} (hJ : ∀ b, J b → b < w.heap.size → J' b ∧ w'.heap[b]? = w.heap[b]?) (hs : w.heap.size ≤ w'.heap.size)
    {ρ ρ' : Rho} (hρ : ∀ id p, ρ id = some p → ρ' id = some p) {v : Value} {x : AV} (h : Rep w J ρ v x) : Rep w' J' ρ' v x := by
  induction h generalizing ρ' with
  | val v => exact .val v
  | any v => exact .any v
  | inil => exact .inil
  | iemp a cap => exact .iemp a cap
  | isl b off len cap cells u hb hc h0 h1 h2 ih =>
    refine .isl b off len cap cells u (fun hne => ?_) hc h0 (fun j hj => ?_) (fun j hj => ih j hj (fun _ _ h => by cases h))
    · obtain ⟨a, c⟩ := hb hne; exact ⟨(hJ b a c).1, by omega⟩
    · have hne : cells ≠ [] := by intro e; subst e; simp at hj
      obtain ⟨a, c⟩ := hb hne
      rw [World.cell?_of_block (w := w) (a := ⟨b, off + j, none⟩) (hJ b a c).2]; exact h1 j hj
  | ipt b off k cells u hb h0 h1 h2 ih =>
    refine .ipt b off k cells u (fun hne => ?_) h0 (fun j hj => ?_) (fun j hj => ih j hj (fun _ _ h => by cases h))
    · obtain ⟨a, c⟩ := hb hne; exact ⟨(hJ b a c).1, by omega⟩
    · have hne : cells ≠ [] := by intro e; subst e; simp at hj
      obtain ⟨a, c⟩ := hb hne
      rw [World.cell?_of_block (w := w) (a := ⟨b, off + j, none⟩) (hJ b a c).2]; exact h1 j hj
  | sl b s id off len es cap h hc hs => exact .sl b s id off len es cap (hρ _ _ h) hc hs
  | pt b s id off h => exact .pt b s id off (hρ _ _ h)
  | mp b s id h => exact .mp b s id (hρ _ _ h)
  | agg vs cs hs h ih => exact .agg vs cs hs (fun j hj => ih j hj hρ)
  | tup vs cs hs h ih => exact .tup vs cs hs (fun j hj => ih j hj hρ)
  | fn f vs cs hs h ih => exact .fn f vs cs hs (fun j hj => ih j hj hρ)

/-- What names nothing of the call's own reads so whatever the names. -/
theorem Rep.up {w : World} {J : Nat → Prop} {ρ : Rho} {v : Value} {x : AV} (h : Rep w J (fun _ => none) v x) : Rep w J ρ v x := by
  refine h.mono (J := J) (J' := J) ?_ (Nat.le_refl _) ?_
  · exact fun b hb _ => ⟨hb, rfl⟩
  · exact fun _ _ h => by cases h

/-- A map's key of 64-bit numbers: 'ag': a struct or an array of them. -/
def keyV (ag : Bool) (ks : List Int) : Value := if ag then .agg (ks.map fun n => Value.int .i64 n).toArray else .int .i64 (ks.headD 0)

/-- An object of the call's own, or one that was handed in to be changed. -/
inductive AObj where
  | cells (cs : List AV) (elem : TypeId)
  | map (ag : Bool) (n : Nat) (l : List (List Int × AV))
  | full (cs : List AV) (elem : TypeId)

def ObjRep (w : World) (J : Nat → Prop) (ρ : Rho) (b s : Nat) : AObj → Prop
  | .cells cs e => ∃ c, w.heap[b]? = some (.cells c e (0, 0)) ∧ c.size = s ∧ cs.length ≤ s ∧ (∀ j (h : j < cs.length), (c.getD j undef).oneCell' = true ∧ Rep w J ρ (c.getD j undef) cs[j]) ∧ c.all Value.oneCell' = true
  | .map ag n l => ∃ (ms : Array MapEntry) (clock : Nat), w.heap[b]? = some (.map ms clock) ∧ (ms.size = l.length ∧ clock = l.length) ∧
      ∀ j (h : j < l.length), ((ms.getD j default).key = keyV ag l[j].1 ∧ l[j].1.length = n ∧ (ms.getD j default).born = j) ∧ Rep w J ρ ((ms.getD j default).val) l[j].2
  | .full cs e => ∃ c, w.heap[b]? = some (.cells c e (0, 0)) ∧ c.size = s ∧ cs.length = s ∧ (∀ j (h : j < cs.length), (c.getD j undef).oneCell' = true ∧ Rep w J ρ (c.getD j undef) cs[j]) ∧ c.all Value.oneCell' = true

theorem ObjRep.lt {w : World} {J : Nat → Prop} {ρ : Rho} {b s : Nat} {o : AObj} (h : ObjRep w J ρ b s o) : b < w.heap.size := by
  cases o with
  | cells cs e => obtain ⟨c, hc, _⟩ := h; exact (Array.getElem?_eq_some_iff.1 hc).1
  | map ag n l => obtain ⟨ms, k, hc, _⟩ := h; exact (Array.getElem?_eq_some_iff.1 hc).1
  | full cs e => obtain ⟨c, hc, _⟩ := h; exact (Array.getElem?_eq_some_iff.1 hc).1

theorem ObjRep.mono {w w' : World} {J J' : Nat → Prop} {ρ ρ' : Rho} (hJ : ∀ b, J b → b < w.heap.size → J' b ∧ w'.heap[b]? = w.heap[b]?) (hs : w.heap.size ≤ w'.heap.size)
    (hρ : ∀ id p, ρ id = some p → ρ' id = some p) {b s : Nat} {o : AObj} (hb : w'.heap[b]? = w.heap[b]?) (h : ObjRep w J ρ b s o) : ObjRep w' J' ρ' b s o := by
  cases o with
  | cells cs e =>
    obtain ⟨c, hc, h1, h2, h3, h4⟩ := h
    exact ⟨c, hb.trans hc, h1, h2, fun j hj => ⟨(h3 j hj).1, (h3 j hj).2.mono hJ hs hρ⟩, h4⟩
  | map ag n l =>
    obtain ⟨ms, k, hc, h1, h2⟩ := h
    exact ⟨ms, k, hb.trans hc, h1, fun j hj => ⟨(h2 j hj).1, (h2 j hj).2.mono hJ hs hρ⟩⟩
  | full cs e =>
    obtain ⟨c, hc, h1, h2, h3, h4⟩ := h
    exact ⟨c, hb.trans hc, h1, h2, fun j hj => ⟨(h3 j hj).1, (h3 j hj).2.mono hJ hs hρ⟩, h4⟩

def look {α : Type} : List (Nat × α) → Nat → Option α
  | [], _ => none
  | (k, v) :: l, t => if t = k then some v else look l t

theorem look_append {α : Type} (l m : List (Nat × α)) (t : Nat) : look (l ++ m) t = (look l t).or (look m t) := by
  induction l with
  | nil => simp [look]
  | cons x l ih => obtain ⟨k, v⟩ := x; simp only [List.cons_append, look]; split <;> simp [ih]

theorem look_none {α : Type} {l : List (Nat × α)} {t : Nat} : look l t = none ↔ t ∉ l.map (·.1) := by
  induction l with
  | nil => simp [look]
  | cons x l ih => obtain ⟨k, v⟩ := x; simp only [look, List.map_cons, List.mem_cons]; split <;> simp_all

/-- A state: what the slots hold; the objects that the call may change. 'n': how many slots there are; the objects 0, .., m - 1 are those behind the pointers that came in. -/
structure St where
  n : Nat
  m : Nat
  env : List (Nat × AV)
  objs : List (Nat × Option AObj)

def St.ev (st : St) (t : Nat) : AV := (look st.env t).getD .any
def St.ob (st : St) (id : Nat) : Option AObj := (look st.objs id).join

def ofV : Value → AV
  | .slice none 0 0 => .isl true [] 0
  | v => .val v

theorem ofV_int (k : IntKind) (n : Int) : ofV (.int k n) = .val (.int k n) := rfl
theorem ofV_bool (b : Bool) : ofV (.bool b) = .val (.bool b) := rfl
theorem ofV_str (s : ByteArray) : ofV (.string s) = .val (.string s) := rfl
theorem ofV_ptr (a : Option Addr) : ofV (.pointer a) = .val (.pointer a) := rfl
theorem ofV_nil : ofV (.slice none 0 0) = .isl true [] 0 := rfl
theorem ofV_map (a : Option Nat) : ofV (.map a) = .val (.map a) := rfl

def St.op (st : St) : Operand → AV
  | .tmp t => st.ev t
  | .const v => ofV v
  | .global g => .val (.pointer (some ⟨g, 0, none⟩))
  | .func f => .fn f []

theorem rep_ofV {w : World} {J : Nat → Prop} {ρ : Rho} (v : Value) : Rep w J ρ v (ofV v) := by
  unfold ofV
  split
  · exact .inil
  · exact .val _

/-- What one operation does: its value; the objects that it makes, changes or takes away. -/
structure Eff where
  v : AV
  upd : List (Nat × Option AObj)

def Eff.keys (e : Eff) : List Nat := e.upd.map (·.1)

def St.put (st : St) (dst : Option Nat) (v : AV) : St := match dst with
  | some d => { st with env := (d, v) :: st.env }
  | none => st
def St.app (st : St) (dst : Option Nat) (e : Eff) : St := { st.put dst e.v with objs := e.upd ++ st.objs }

theorem St.ob_app (st : St) (dst : Option Nat) (e : Eff) (id : Nat) : (st.app dst e).ob id = if id ∈ e.keys then (look e.upd id).join else st.ob id := by
  have h0 : (st.put dst e.v).objs = st.objs := by unfold St.put; split <;> rfl
  simp only [St.ob, St.app, look_append]
  cases h : look e.upd id with
  | none => rw [if_neg (by simpa [Eff.keys] using look_none.1 h)]; simp
  | some x =>
    have : id ∈ e.keys := by
      refine Classical.byContradiction fun hn => ?_
      have := (look_none (l := e.upd) (t := id)).2 hn
      rw [this] at h; cases h
    rw [if_pos this]; simp

/-- What stays fixed while one call runs: the world at its entry, the blocks that it may read and never changes, the blocks that it may change. -/
structure Ctx where
  w0 : World
  A : Nat → Prop
  I : Nat → Prop
  pin : Rho

structure Kept (c : Ctx) (w : World) : Prop where
  size : c.w0.heap.size ≤ w.heap.size
  os : w.os = c.w0.os
  tape : w.tape = c.w0.tape
  output : w.output = c.w0.output
  block : ∀ b, b < c.w0.heap.size → ¬ c.I b → w.heap[b]? = c.w0.heap[b]?

structure Sim (c : Ctx) (ρ : Rho) (D J : Nat → Prop) (st : St) (a : Act) (w : World) : Prop where
  defers : a.defers = []
  tmps : a.tmps.size = st.n
  env : ∀ t, Rep w J ρ (a.tmps.getD t undef) (st.ev t)
  obj : ∀ id o, st.ob id = some o → ∃ b s, ρ id = some (b, s) ∧ ObjRep w J ρ b s o ∧ (c.I b ∨ c.w0.heap.size ≤ b) ∧ ¬ J b
  inj : ∀ id id' o o' b s s', st.ob id = some o → st.ob id' = some o' → ρ id = some (b, s) → ρ id' = some (b, s') → id = id'
  dom : ∀ id p, ρ id = some p → D id
  jok : ∀ b, J b → c.A b ∨ c.I b ∨ c.w0.heap.size ≤ b
  jlt : ∀ b, J b → b < w.heap.size
  ilt : ∀ b, c.I b → b < c.w0.heap.size
  pin : ∀ j, j < st.m → ∃ p, c.pin j = some p ∧ ρ j = some p
  kept : Kept c w

/-- How a world, the naming of objects and the readable blocks may go on by an operation with the effect e. 'nid', 'k': the new names are nid, .., nid + k - 1. -/
structure Post (c : Ctx) (nid k : Nat) (st : St) (e : Eff) (ρ ρ' : Rho) (J J' : Nat → Prop) (w w' : World) (v : Value) : Prop where
  size : w.heap.size ≤ w'.heap.size
  os : w'.os = w.os
  tape : w'.tape = w.tape
  output : w'.output = w.output
  same : ∀ b, b < w.heap.size → (∀ id o s, id ∈ e.keys → st.ob id = some o → ρ id ≠ some (b, s)) → w'.heap[b]? = w.heap[b]?
  ρmono : ∀ id p, ρ id = some p → ρ' id = some p
  ρnew : ∀ id p, ρ' id = some p → ρ id = some p ∨ (nid ≤ id ∧ id < nid + k)
  Jmono : ∀ b, J b → J' b
  Jnew : ∀ b, J' b → J b ∨ (w.heap.size ≤ b ∧ b < w'.heap.size) ∨ ∃ id o s, id ∈ e.keys ∧ st.ob id = some o ∧ ρ id = some (b, s)
  val : Rep w' J' ρ' v e.v
  obj : ∀ id o, look e.upd id = some (some o) → ∃ b s, ρ' id = some (b, s) ∧ ObjRep w' J' ρ' b s o ∧ ¬ J' b ∧
    (w.heap.size ≤ b ∨ ∃ id0 o0 s0, id0 ∈ e.keys ∧ st.ob id0 = some o0 ∧ ρ id0 = some (b, s0))
  inj : ∀ id id' o o' b s s', look e.upd id = some (some o) → look e.upd id' = some (some o') → ρ' id = some (b, s) → ρ' id' = some (b, s') → id = id'

def OpT (P : Program) (o : Oper) (nid k : Nat) (st : St) (e : Eff) : Prop :=
  ∀ (c : Ctx) (ρ : Rho) (D J : Nat → Prop) (a : Act) (w : World), Sim c ρ D J st a w → (∀ i, nid ≤ i → i < nid + k → ¬ D i) →
    ∀ (K : Act → World → Prop) (Q : Exit → Act → World → Prop), (∀ v w' ρ' J', Post c nid k st e ρ ρ' J J' w w' v → K (a.put o.dst v) w') → o.wp P a w K Q

theorem Sim.old_ne {c : Ctx} {ρ : Rho} {D J : Nat → Prop} {st : St} {a : Act} {w : World} (h : Sim c ρ D J st a w) {b : Nat} (hb : J b) :
    ∀ id o s, st.ob id = some o → ρ id ≠ some (b, s) := by
  intro id o s ho hr
  obtain ⟨b', s', hr', _, _, hn⟩ := h.obj id o ho
  rw [hr] at hr'; cases hr'; exact hn hb

/-- An effect carries the relation on. -/
theorem Sim.app {c : Ctx} {ρ ρ' : Rho} {D J J' : Nat → Prop} {st : St} {a : Act} {w w' : World} {v : Value} {nid k : Nat} {e : Eff} {dst : Option Nat} {D' : Nat → Prop}
    (h : Sim c ρ D J st a w) (p : Post c nid k st e ρ ρ' J J' w w' v) (hd : ∀ d, dst = some d → d < st.n) (hD : ∀ i, D i ∨ (nid ≤ i ∧ i < nid + k) → D' i) :
    Sim c ρ' D' J' (st.app dst e) (a.put dst v) w' := by
  have hJ : ∀ b, J b → b < w.heap.size → J' b ∧ w'.heap[b]? = w.heap[b]? := fun b hb hlt => ⟨p.Jmono b hb, p.same b hlt (fun id o s _ ho => h.old_ne hb id o s ho)⟩
  have hmono : ∀ {v x}, Rep w J ρ v x → Rep w' J' ρ' v x := fun hr => hr.mono hJ p.size p.ρmono
  have hn : (st.app dst e).n = st.n := by unfold St.app St.put; split <;> rfl
  refine ⟨?_, ?_, ?_, ?_, ?_, ?_, ?_, ?_, ?_, ?_, ?_⟩
  · unfold Act.put; split <;> exact h.defers
  · rw [hn]; unfold Act.put; split
    · simpa using h.tmps
    · exact h.tmps
  · intro t
    cases dst with
    | none => exact hmono (h.env t)
    | some d =>
      have hdn := hd d rfl
      rw [← h.tmps] at hdn
      simp only [Act.put, St.app, St.put, St.ev, look]
      by_cases ht : t = d
      · subst ht
        rw [if_pos rfl]
        have : (a.tmps.setIfInBounds t v).getD t undef = v := by simp [Array.getD, hdn]
        rw [this]; exact p.val
      · rw [if_neg ht]
        have : (a.tmps.setIfInBounds d v).getD t undef = a.tmps.getD t undef := by
          simp [Array.getD_eq_getD_getElem?, Array.getElem?_setIfInBounds, Ne.symm ht]
        rw [this]; exact hmono (h.env t)
  · intro id o ho
    rw [St.ob_app] at ho
    split at ho
    · rename_i hk
      obtain ⟨b, s, h1, h2, h3, h4⟩ := p.obj id o (by cases hl : look e.upd id with | none => simp [hl] at ho | some x => rw [hl] at ho; simpa using ho)
      refine ⟨b, s, h1, h2, ?_, h3⟩
      rcases h4 with h4 | ⟨id0, o0, s0, _, h5, h6⟩
      · exact .inr (by have := h.kept.size; omega)
      · obtain ⟨b', s', h7, _, h8, _⟩ := h.obj id0 o0 h5
        rw [h6] at h7; cases h7; exact h8
    · rename_i hk
      obtain ⟨b, s, h1, h2, h3, h4⟩ := h.obj id o ho
      have hblk : w'.heap[b]? = w.heap[b]? := p.same b h2.lt (fun id' o' s' hk' ho' hr' => hk (by rw [h.inj id id' o o' b s s' ho ho' h1 hr']; exact hk'))
      refine ⟨b, s, p.ρmono _ _ h1, h2.mono hJ p.size p.ρmono hblk, h3, fun hj => ?_⟩
      rcases p.Jnew b hj with hj | hj | ⟨id0, o0, s0, g1, g2, g3⟩
      · exact h4 hj
      · have := h2.lt; omega
      · exact hk (by rw [h.inj id id0 o o0 b s s0 ho g2 h1 g3]; exact g1)
  · intro id id' o o' b s s' ho ho' hr hr'
    rw [St.ob_app] at ho ho'
    have key : ∀ {id : Nat} {o : AObj}, id ∈ e.keys → (look e.upd id).join = some o → look e.upd id = some (some o) := by
      intro id o _ h; cases hl : look e.upd id with | none => simp [hl] at h | some x => rw [hl] at h; simpa using h
    -- a new one and an old one never share a block
    have mix : ∀ {id id' : Nat} {o o' : AObj} {b s s' : Nat}, id ∈ e.keys → look e.upd id = some (some o) → ¬ id' ∈ e.keys → st.ob id' = some o' → ρ' id = some (b, s) → ρ' id' = some (b, s') → False := by
      intro id id' o o' b s s' hk hl hk' ho' hr hr'
      obtain ⟨b1, s1, h1, _, _, h4⟩ := p.obj id o hl
      rw [hr] at h1; cases h1
      obtain ⟨b2, s2, h5, h6, _, _⟩ := h.obj id' o' ho'
      have := p.ρmono _ _ h5
      rw [hr'] at this; cases this
      rcases h4 with h4 | ⟨id0, o0, s0, hk0, h7, h8⟩
      · have := h6.lt; omega
      · exact hk' (by rw [h.inj id' id0 o' o0 b _ s0 ho' h7 h5 h8]; exact hk0)
    split at ho <;> split at ho'
    · rename_i k1 k2; exact p.inj id id' o o' b s s' (key k1 ho) (key k2 ho') hr hr'
    · rename_i k1 k2; exact (mix k1 (key k1 ho) k2 ho' hr hr').elim
    · rename_i k1 k2; exact (mix k2 (key k2 ho') k1 ho hr' hr).elim
    · obtain ⟨b1, s1, h1, _⟩ := h.obj id o ho
      obtain ⟨b2, s2, h2, _⟩ := h.obj id' o' ho'
      have e1 := p.ρmono _ _ h1; rw [hr] at e1; cases e1
      have e2 := p.ρmono _ _ h2; rw [hr'] at e2; cases e2
      exact h.inj id id' o o' b _ _ ho ho' h1 h2
  · intro id q hq
    rcases p.ρnew id q hq with hq | hq
    · exact hD id (.inl (h.dom id q hq))
    · exact hD id (.inr hq)
  · intro b hb
    rcases p.Jnew b hb with hb' | hb' | ⟨id0, o0, s0, g1, g2, g3⟩
    · exact h.jok b hb'
    · have hk := h.kept.size
      exact .inr (.inr (by omega))
    · obtain ⟨b1, s1, k1, _, k3, _⟩ := h.obj id0 o0 g2
      rw [g3] at k1; cases k1; exact .inr k3
  · intro b hb
    rcases p.Jnew b hb with hb' | hb' | ⟨id0, o0, s0, g1, g2, g3⟩
    · have := h.jlt b hb'; have := p.size; omega
    · exact hb'.2
    · obtain ⟨b1, s1, k1, k2, _⟩ := h.obj id0 o0 g2
      rw [g3] at k1; cases k1; have := k2.lt; have := p.size; omega
  · exact h.ilt
  · intro j hj
    have em : (st.app dst e).m = st.m := by unfold St.app St.put; split <;> rfl
    rw [em] at hj
    obtain ⟨q, h1, h2⟩ := h.pin j hj
    exact ⟨q, h1, p.ρmono _ _ h2⟩
  · have hk := h.kept
    refine ⟨Nat.le_trans hk.size p.size, p.os.trans hk.os, p.tape.trans hk.tape, p.output.trans hk.output, fun b hb hI => ?_⟩
    rw [p.same b (Nat.lt_of_lt_of_le hb hk.size) (fun id o s _ ho hr => by
      obtain ⟨b', s', hr', _, hor, _⟩ := h.obj id o ho
      rw [hr] at hr'; cases hr'
      rcases hor with hor | hor
      · exact hI hor
      · omega)]
    exact hk.block b hb hI

end Go.Sy
