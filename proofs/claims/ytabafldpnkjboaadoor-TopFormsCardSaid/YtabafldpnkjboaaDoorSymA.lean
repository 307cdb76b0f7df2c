/- SymA: Sym1 Sym2 Sym3 Sym4 Sym5 Sym6 Sym7 Sym8 Sym9 Sym10 Sym11, merged. No condition. -/
import Derived.WalkKit
import Derived.Sort.LoopGhostIn
import Derived.OrdersIn
import Derived.RangeFuncNested
import Derived.RangeFuncLeaves
import Derived.WalkSpells
import Derived.WalkLawsBesides
/- Sym1. -/
set_option linter.unusedVariables false
set_option linter.unusedSectionVars false
set_option linter.unusedSimpArgs false
namespace Go.Sy

def fen (r : Option Nat) : Fence := { Fence.wide with round := r }

structure Proc where
  P : Program
  l : Nat
  xs : Nat → Option Value
  go : Nat → Bool
  B : Nat → Prop
  G : Nat → (Nat → Prop) → World → Prop
  keep : ∀ {j : Nat} {X X' : Nat → Prop} {w w' : World}, G j X w → w.heap.size ≤ w'.heap.size → w'.os = w.os → w'.tape = w.tape → w'.output = w.output → (∀ b, X b ∨ B b ∨ b = l → w'.heap[b]? = w.heap[b]?) →
    (∀ b, X b → X' b) → (∀ b, X' b → b < w'.heap.size ∧ ¬ B b ∧ b ≠ l) → G j X' w'
  yield : ∀ {j : Nat} {x : Value} {X : Nat → Prop} {w : World}, G j X w → go j = true → xs j = some x → (∀ b, X b → b < w.heap.size ∧ ¬ B b ∧ b ≠ l) → ∀ (r : Option Nat), YieldAt (fen r) 0 P l #[x] w fun e w' =>
    e = .returned (.bool (go (j + 1))) ∧ w.heap.size ≤ w'.heap.size ∧ w'.os = w.os ∧ w'.tape = w.tape ∧ w'.output = w.output ∧ (∃ r, w'.heap[l]? = some (.loop r)) ∧
    (∀ b, b < w.heap.size → ¬ X b → b ≠ l → w'.heap[b]? = w.heap[b]?) ∧ G (j + 1) (fun b => X b ∨ (w.heap.size ≤ b ∧ b < w'.heap.size)) w'

inductive AV where
  | val (v : Value)
  | isl (z : Bool) (cells : List AV) (len : Nat)
  | ipt (cells : List AV) (off : Nat)
  | sl (id off len es : Nat)
  | pt (id off : Nat)
  | mp (id : Nat)
  | agg (cs : List AV)
  | tup (cs : List AV)
  | fn (f : FuncId) (cs : List AV)
  | yl (id : Nat)
  | any

abbrev Rho := Nat → Option (Nat × Nat)

inductive Rep (w : World) (J : Nat → Prop) : Rho → Value → AV → Prop
  | val {ρ : Rho} (v : Value) : Rep w J ρ v (.val v)
  | any {ρ : Rho} (v : Value) : Rep w J ρ v .any
  | inil {ρ : Rho} : Rep w J ρ (.slice none 0 0) (.isl true [] 0)
  | iemp {ρ : Rho} (a : Addr) (cap : Nat) : Rep w J ρ (.slice (some a) 0 cap) (.isl false [] 0)
  | isl {ρ : Rho} (b off len cap : Nat) (cells : List AV) (u : Nat → Value) (hb : cells ≠ [] → J b ∧ b < w.heap.size) (hc : len ≤ cap)
      (h0 : ∀ j, j < cells.length → (u j).oneCell' = true)
      (h1 : ∀ j, j < cells.length → w.cell? ⟨b, off + j, none⟩ = some (u j)) (h2 : ∀ j (h : j < cells.length), Rep w J (fun _ => none) (u j) cells[j]) :
      Rep w J ρ (.slice (some ⟨b, off, none⟩) len cap) (.isl false cells len)
  | ipt {ρ : Rho} (b off k : Nat) (cells : List AV) (u : Nat → Value) (hb : cells ≠ [] → J b ∧ b < w.heap.size)
      (h0 : ∀ j, j < cells.length → (u j).oneCell' = true)
      (h1 : ∀ j, j < cells.length → w.cell? ⟨b, off + j, none⟩ = some (u j)) (h2 : ∀ j (h : j < cells.length), Rep w J (fun _ => none) (u j) cells[j]) :
      Rep w J ρ (.pointer (some ⟨b, off + k, none⟩)) (.ipt cells k)
  | sl {ρ : Rho} (b s id off len es cap : Nat) (h : ρ id = some (b, s)) (hc : len ≤ cap) (hs : off + cap * es = s) : Rep w J ρ (.slice (some ⟨b, off, none⟩) len cap) (.sl id off len es)
  | pt {ρ : Rho} (b s id off : Nat) (h : ρ id = some (b, s)) : Rep w J ρ (.pointer (some ⟨b, off, none⟩)) (.pt id off)
  | mp {ρ : Rho} (b s id : Nat) (h : ρ id = some (b, s)) : Rep w J ρ (.map (some b)) (.mp id)
  | yl {ρ : Rho} (b s id : Nat) (h : ρ id = some (b, s)) : Rep w J ρ (.func (.yield b) #[] #[]) (.yl id)
  | agg {ρ : Rho} (vs : Array Value) (cs : List AV) (hs : vs.size = cs.length) (h : ∀ j (h : j < cs.length), Rep w J ρ (vs.getD j undef) cs[j]) : Rep w J ρ (.agg vs) (.agg cs)
  | tup {ρ : Rho} (vs : Array Value) (cs : List AV) (hs : vs.size = cs.length) (h : ∀ j (h : j < cs.length), Rep w J ρ (vs.getD j undef) cs[j]) : Rep w J ρ (.tuple vs) (.tup cs)
  | fn {ρ : Rho} (f : FuncId) (vs : Array Value) (cs : List AV) (hs : vs.size = cs.length) (h : ∀ j (h : j < cs.length), Rep w J ρ (vs.getD j undef) cs[j]) : Rep w J ρ (.func (.func f) #[] vs) (.fn f cs)

def AV.scalar : AV → Bool
  | .val v => v.oneCell'
  | .agg _ | .tup _ | .any => false
  | _ => true

theorem Rep.oneCell {w : World} {J : Nat → Prop} {ρ : Rho} {v : Value} {x : AV} (h : Rep w J ρ v x) (hx : x.scalar = true) : v.oneCell' = true := by
  cases h <;> first | rfl | exact hx | cases hx

theorem Rep.mono {w w' : World} {J J' : Nat → Prop} (hJ : ∀ b, J b → b < w.heap.size → J' b ∧ w'.heap[b]? = w.heap[b]?) (hs : w.heap.size ≤ w'.heap.size)
    {ρ ρ' : Rho} (hρ : ∀ id p, ρ id = some p → ρ' id = some p) {v : Value} {x : AV} (h : Rep w J ρ v x) : Rep w' J' ρ' v x := by
  induction h generalizing ρ' with
  | val v => exact .val v
  | any v => exact .any v
  | inil => exact .inil
  | iemp a cap => exact .iemp a cap
  | isl b off len cap cells u hb hc h0 h1 h2 ih =>
    refine .isl b off len cap cells u (fun hne => ?_) hc h0 (fun j hj => ?_) (fun j hj => ih j hj (fun _ _ h => by cases h))
    · obtain ⟨a, c⟩ := hb hne; exact ⟨(hJ b a c).1, by omega⟩
    · have hne : cells ≠ [] := by intro e; subst e; simp at hj
      obtain ⟨a, c⟩ := hb hne
      rw [World.cell?_of_block (w := w) (a := ⟨b, off + j, none⟩) (hJ b a c).2]; exact h1 j hj
  | ipt b off k cells u hb h0 h1 h2 ih =>
    refine .ipt b off k cells u (fun hne => ?_) h0 (fun j hj => ?_) (fun j hj => ih j hj (fun _ _ h => by cases h))
    · obtain ⟨a, c⟩ := hb hne; exact ⟨(hJ b a c).1, by omega⟩
    · have hne : cells ≠ [] := by intro e; subst e; simp at hj
      obtain ⟨a, c⟩ := hb hne
      rw [World.cell?_of_block (w := w) (a := ⟨b, off + j, none⟩) (hJ b a c).2]; exact h1 j hj
  | sl b s id off len es cap h hc hs => exact .sl b s id off len es cap (hρ _ _ h) hc hs
  | pt b s id off h => exact .pt b s id off (hρ _ _ h)
  | mp b s id h => exact .mp b s id (hρ _ _ h)
  | yl b s id h => exact .yl b s id (hρ _ _ h)
  | agg vs cs hs h ih => exact .agg vs cs hs (fun j hj => ih j hj hρ)
  | tup vs cs hs h ih => exact .tup vs cs hs (fun j hj => ih j hj hρ)
  | fn f vs cs hs h ih => exact .fn f vs cs hs (fun j hj => ih j hj hρ)

theorem Rep.up {w : World} {J : Nat → Prop} {ρ : Rho} {v : Value} {x : AV} (h : Rep w J (fun _ => none) v x) : Rep w J ρ v x := by
  refine h.mono (J := J) (J' := J) ?_ (Nat.le_refl _) ?_
  · exact fun b hb _ => ⟨hb, rfl⟩
  · exact fun _ _ h => by cases h

def keyV (ag : Bool) (ks : List Int) : Value := if ag then .agg (ks.map fun n => Value.int .i64 n).toArray else .int .i64 (ks.headD 0)

inductive AObj where
  | cells (cs : List AV) (elem : TypeId)
  | map (ag : Bool) (n : Nat) (l : List (List Int × AV))
  | full (cs : List AV) (elem : TypeId)
  | tr (H : Proc) (j : Nat)

def AObj.isTr : AObj → Bool
  | .tr _ _ => true
  | _ => false

def trs : List AObj → List Proc
  | [] => []
  | .tr H _ :: l => H :: trs l
  | _ :: l => trs l
theorem mem_trs {l : List AObj} {H : Proc} : H ∈ trs l ↔ ∃ k, AObj.tr H k ∈ l := by
  induction l with
  | nil => simp [trs]
  | cons o l ih => cases o <;> simp [trs, ih, exists_or]

def ObjRep (w : World) (J : Nat → Prop) (ρ : Rho) (b s : Nat) : AObj → Prop
  | .cells cs e => ∃ c, w.heap[b]? = some (.cells c e (0, 0)) ∧ c.size = s ∧ cs.length ≤ s ∧ (∀ j (h : j < cs.length), (c.getD j undef).oneCell' = true ∧ Rep w J ρ (c.getD j undef) cs[j]) ∧ c.all Value.oneCell' = true
  | .map ag n l => ∃ (ms : Array MapEntry) (clock : Nat), w.heap[b]? = some (.map ms clock) ∧ (ms.size = l.length ∧ clock = l.length) ∧
      ∀ j (h : j < l.length), ((ms.getD j default).key = keyV ag l[j].1 ∧ l[j].1.length = n ∧ (ms.getD j default).born = j) ∧ Rep w J ρ ((ms.getD j default).val) l[j].2
  | .full cs e => ∃ c, w.heap[b]? = some (.cells c e (0, 0)) ∧ c.size = s ∧ cs.length = s ∧ (∀ j (h : j < cs.length), (c.getD j undef).oneCell' = true ∧ Rep w J ρ (c.getD j undef) cs[j]) ∧ c.all Value.oneCell' = true
  | .tr H _ => b = H.l ∧ ∃ r, w.heap[b]? = some (.loop r)

theorem ObjRep.lt {w : World} {J : Nat → Prop} {ρ : Rho} {b s : Nat} {o : AObj} (h : ObjRep w J ρ b s o) : b < w.heap.size := by
  cases o with
  | cells cs e => obtain ⟨c, hc, _⟩ := h; exact (Array.getElem?_eq_some_iff.1 hc).1
  | map ag n l => obtain ⟨ms, k, hc, _⟩ := h; exact (Array.getElem?_eq_some_iff.1 hc).1
  | full cs e => obtain ⟨c, hc, _⟩ := h; exact (Array.getElem?_eq_some_iff.1 hc).1
  | tr H j => obtain ⟨_, r, hc⟩ := h; exact (Array.getElem?_eq_some_iff.1 hc).1

theorem ObjRep.mono {w w' : World} {J J' : Nat → Prop} {ρ ρ' : Rho} (hJ : ∀ b, J b → b < w.heap.size → J' b ∧ w'.heap[b]? = w.heap[b]?) (hs : w.heap.size ≤ w'.heap.size)
    (hρ : ∀ id p, ρ id = some p → ρ' id = some p) {b s : Nat} {o : AObj} (hb : w'.heap[b]? = w.heap[b]?) (h : ObjRep w J ρ b s o) : ObjRep w' J' ρ' b s o := by
  cases o with
  | cells cs e =>
    obtain ⟨c, hc, h1, h2, h3, h4⟩ := h
    exact ⟨c, hb.trans hc, h1, h2, fun j hj => ⟨(h3 j hj).1, (h3 j hj).2.mono hJ hs hρ⟩, h4⟩
  | map ag n l =>
    obtain ⟨ms, k, hc, h1, h2⟩ := h
    exact ⟨ms, k, hb.trans hc, h1, fun j hj => ⟨(h2 j hj).1, (h2 j hj).2.mono hJ hs hρ⟩⟩
  | full cs e =>
    obtain ⟨c, hc, h1, h2, h3, h4⟩ := h
    exact ⟨c, hb.trans hc, h1, h2, fun j hj => ⟨(h3 j hj).1, (h3 j hj).2.mono hJ hs hρ⟩, h4⟩
  | tr H j => obtain ⟨h1, r, hc⟩ := h; exact ⟨h1, r, hb.trans hc⟩

def look {α : Type} : List (Nat × α) → Nat → Option α
  | [], _ => none
  | (k, v) :: l, t => if t = k then some v else look l t

theorem look_append {α : Type} (l m : List (Nat × α)) (t : Nat) : look (l ++ m) t = (look l t).or (look m t) := by
  induction l with
  | nil => simp [look]
  | cons x l ih => obtain ⟨k, v⟩ := x; simp only [List.cons_append, look]; split <;> simp [ih]

theorem look_none {α : Type} {l : List (Nat × α)} {t : Nat} : look l t = none ↔ t ∉ l.map (·.1) := by
  induction l with
  | nil => simp [look]
  | cons x l ih => obtain ⟨k, v⟩ := x; simp only [look, List.map_cons, List.mem_cons]; split <;> simp_all

theorem look_mem {α : Type} {l : List (Nat × α)} {t : Nat} {v : α} (h : look l t = some v) : (t, v) ∈ l := by
  induction l with
  | nil => simp [look] at h
  | cons x l ih =>
    obtain ⟨k, u⟩ := x
    simp only [look] at h
    split at h
    · rename_i e; subst e; cases h; exact List.mem_cons_self
    · exact List.mem_cons_of_mem _ (ih h)

structure St where
  n : Nat
  m : Nat
  env : List (Nat × AV)
  objs : List (Nat × Option AObj)

def St.ev (st : St) (t : Nat) : AV := (look st.env t).getD .any
def St.ob (st : St) (id : Nat) : Option AObj := (look st.objs id).join

def ofV : Value → AV
  | .slice none 0 0 => .isl true [] 0
  | v => .val v

theorem ofV_int (k : IntKind) (n : Int) : ofV (.int k n) = .val (.int k n) := rfl
theorem ofV_bool (b : Bool) : ofV (.bool b) = .val (.bool b) := rfl
theorem ofV_str (s : ByteArray) : ofV (.string s) = .val (.string s) := rfl
theorem ofV_ptr (a : Option Addr) : ofV (.pointer a) = .val (.pointer a) := rfl
theorem ofV_nil : ofV (.slice none 0 0) = .isl true [] 0 := rfl
theorem ofV_map (a : Option Nat) : ofV (.map a) = .val (.map a) := rfl

def tab32 : List Int := [0, 1, 28, 2, 29, 14, 24, 3, 30, 22, 20, 15, 25, 17, 4, 8, 31, 27, 13, 23, 21, 19, 16, 7, 26, 12, 18, 6, 11, 5, 10, 9]
def gtab : Nat → Option (List Int) := fun g => if g = 0 then some tab32 else none
theorem gtab_ne {g : Nat} {zs : List Int} (h : gtab g = some zs) : zs ≠ [] := by
  unfold gtab at h
  first
    | (split at h; (cases h; exact List.cons_ne_nil _ _); (cases h))
    | cases h
def glAV (g : Nat) : AV := match gtab g with
  | some zs => .ipt (zs.map fun z => .val (.int .u8 z)) 0
  | none => .val (.pointer (some ⟨g, 0, none⟩))
def Laid (J : Nat → Prop) (w : World) : Prop := ∀ g zs, gtab g = some zs → J g ∧ g < w.heap.size ∧ ∀ i (h : i < zs.length), w.cell? ⟨g, i, none⟩ = some (.int .u8 zs[i])
theorem Laid.mono {J J' : Nat → Prop} {w w' : World} (h : Laid J w) (hJ : ∀ b, J b → b < w.heap.size → J' b ∧ w'.heap[b]? = w.heap[b]?) (hs : w.heap.size ≤ w'.heap.size) : Laid J' w' := fun g zs hg => by
  obtain ⟨h1, h2, h3⟩ := h g zs hg
  obtain ⟨k1, k2⟩ := hJ g h1 h2
  exact ⟨k1, by omega, fun i hi => by rw [World.cell?_of_block (w := w) (a := ⟨g, i, none⟩) k2]; exact h3 i hi⟩
theorem Laid.rep {J : Nat → Prop} {w : World} {ρ : Rho} (h : Laid J w) (g : Nat) : Rep w J ρ (.pointer (some ⟨g, 0, none⟩)) (glAV g) := by
  unfold glAV
  split
  · rename_i zs hg
    obtain ⟨h1, h2, h3⟩ := h g zs hg
    have := Rep.ipt (w := w) (J := J) (ρ := ρ) g 0 0 (zs.map fun z => AV.val (.int .u8 z)) (fun i => .int .u8 (zs.getD i 0)) (fun _ => ⟨h1, h2⟩) (fun j hj => rfl) (fun j hj => by
      have hj' : j < zs.length := by simpa using hj
      simpa [hj'] using h3 j hj') (fun j hj => by
      have hj' : j < zs.length := by simpa using hj
      have : (zs.map fun z => AV.val (.int .u8 z))[j] = .val (.int .u8 (zs.getD j 0)) := by simp [hj']
      rw [this]; exact .val _)
    simpa using this
  · exact .val _

def St.op (st : St) : Operand → AV
  | .tmp t => st.ev t
  | .const v => ofV v
  | .global g => glAV g
  | .func f => .fn f []

theorem rep_ofV {w : World} {J : Nat → Prop} {ρ : Rho} (v : Value) : Rep w J ρ v (ofV v) := by
  unfold ofV
  split
  · exact .inil
  · exact .val _

structure Eff where
  v : AV
  upd : List (Nat × Option AObj)

def Eff.keys (e : Eff) : List Nat := e.upd.map (·.1)

def St.put (st : St) (dst : Option Nat) (v : AV) : St := match dst with
  | some d => { st with env := (d, v) :: st.env }
  | none => st
def St.app (st : St) (dst : Option Nat) (e : Eff) : St := { st.put dst e.v with objs := e.upd ++ st.objs }

theorem St.ob_app (st : St) (dst : Option Nat) (e : Eff) (id : Nat) : (st.app dst e).ob id = if id ∈ e.keys then (look e.upd id).join else st.ob id := by
  have h0 : (st.put dst e.v).objs = st.objs := by unfold St.put; split <;> rfl
  simp only [St.ob, St.app, look_append]
  cases h : look e.upd id with
  | none => rw [if_neg (by simpa [Eff.keys] using look_none.1 h)]; simp
  | some x =>
    have : id ∈ e.keys := by
      refine Classical.byContradiction fun hn => ?_
      have := (look_none (l := e.upd) (t := id)).2 hn
      rw [this] at h; cases h
    rw [if_pos this]; simp

structure Ctx where
  w0 : World
  A : Nat → Prop
  I : Nat → Prop
  pin : Rho
  rd : Option Nat
  tr : Proc → Prop

structure Kept (c : Ctx) (w : World) : Prop where
  size : c.w0.heap.size ≤ w.heap.size
  os : w.os = c.w0.os
  tape : w.tape = c.w0.tape
  output : w.output = c.w0.output
  block : ∀ b, b < c.w0.heap.size → ¬ c.I b → w.heap[b]? = c.w0.heap[b]?

def mark (D : Nat) : Deferred := { target := .collected D, args := #[] }
def Marks (c : Ctx) (J : Nat → Prop) (w : World) (ds : List Deferred) : Prop :=
  (∃ l : List Nat, ds = l.map mark ∧ l.Nodup ∧ ∀ D ∈ l, w.heap[D]? = some (.deferred (some [])) ∧ J D ∧ c.w0.heap.size ≤ D) ∧ ∀ l, c.rd = some l → ds = [] ∧ ¬ c.I l ∧ ∃ r, c.w0.heap[l]? = some (.loop r)
theorem ObjRep.not_def {w : World} {J : Nat → Prop} {ρ : Rho} {b s : Nat} {o : AObj} {x : Option (List Deferred)} (h : ObjRep w J ρ b s o) (k : w.heap[b]? = some (.deferred x)) : False := by
  cases o with
  | cells cs e => obtain ⟨c, hc, _⟩ := h; rw [hc] at k; cases k
  | map ag n l => obtain ⟨c, _, hc, _⟩ := h; rw [hc] at k; cases k
  | full cs e => obtain ⟨c, hc, _⟩ := h; rw [hc] at k; cases k
  | tr H j => obtain ⟨_, r, hc⟩ := h; rw [hc] at k; cases k
theorem Marks.nil {c : Ctx} {J : Nat → Prop} {w : World} (h : ∀ l, c.rd = some l → ¬ c.I l ∧ ∃ r, c.w0.heap[l]? = some (.loop r)) : Marks c J w [] := ⟨⟨[], rfl, .nil, fun _ h => (by cases h)⟩, fun l hl => ⟨rfl, h l hl⟩⟩
theorem Marks.same {c : Ctx} {J J' : Nat → Prop} {w w' : World} {ds : List Deferred} (h : Marks c J w ds) (k : ∀ D, J D → D < w.heap.size → w'.heap[D]? = w.heap[D]? ∧ J' D) : Marks c J' w' ds := by
  obtain ⟨⟨l, h1, h2, h3⟩, h4⟩ := h
  refine ⟨⟨l, h1, h2, fun D hD => ?_⟩, h4⟩
  obtain ⟨k1, k2, k3⟩ := h3 D hD
  have := k D k2 (Array.getElem?_eq_some_iff.1 k1).1
  exact ⟨this.1.trans k1, this.2, k3⟩

def Xm (c : Ctx) (J : Nat → Prop) (ob : Nat → Option AObj) (ρ : Rho) (w : World) (b : Nat) : Prop :=
  b < w.heap.size ∧ (c.I b ∨ c.w0.heap.size ≤ b) ∧ ¬ J b ∧ ∀ id o s, ob id = some o → ρ id ≠ some (b, s)

structure Hid (c : Ctx) (J : Nat → Prop) (ob : Nat → Option AObj) (ρ : Rho) (w : World) : Prop where
  one : ∀ id id' H H' j j', ob id = some (.tr H j) → ob id' = some (.tr H' j') → id = id'
  on : ∀ id H j, ob id = some (.tr H j) → H.G j (Xm c J ob ρ w) w ∧ (∀ b, H.B b → b < c.w0.heap.size ∧ ¬ c.I b) ∧ c.tr H

theorem Hid.none {c : Ctx} {J : Nat → Prop} {ob : Nat → Option AObj} {ρ : Rho} {w : World} (h : ∀ id H j, ob id ≠ some (.tr H j)) : Hid c J ob ρ w :=
  ⟨fun id _ H _ j _ k _ => absurd k (h id H j), fun id H j k => absurd k (h id H j)⟩

theorem Hid.step {c : Ctx} {J J' : Nat → Prop} {ob ob' : Nat → Option AObj} {ρ ρ' : Rho} {w w' : World} (h : Hid c J ob ρ w) (τ : Nat → Nat) (sub : ∀ id H j, ob' id = some (.tr H j) → ob (τ id) = some (.tr H j))
    (inj : ∀ id id' H H' j j', ob' id = some (.tr H j) → ob' id' = some (.tr H' j') → τ id = τ id' → id = id') (hsz : w.heap.size ≤ w'.heap.size) (ho : w'.os = w.os) (ht : w'.tape = w.tape) (hu : w'.output = w.output)
    (sX : ∀ b, Xm c J ob ρ w b → w'.heap[b]? = w.heap[b]?) (sB : ∀ b, b < c.w0.heap.size → ¬ c.I b → w'.heap[b]? = w.heap[b]?) (sL : ∀ id H j, ob' id = some (.tr H j) → w'.heap[H.l]? = w.heap[H.l]?)
    (mono : ∀ b, Xm c J ob ρ w b → Xm c J' ob' ρ' w' b) (nl : ∀ id H j, ob' id = some (.tr H j) → ¬ Xm c J' ob' ρ' w' H.l) : Hid c J' ob' ρ' w' := by
  refine ⟨fun id id' H H' j j' h1 h2 => inj id id' H H' j j' h1 h2 (h.one _ _ _ _ _ _ (sub _ _ _ h1) (sub _ _ _ h2)), fun id H j hid => ?_⟩
  obtain ⟨h1, h2, h3⟩ := h.on _ _ _ (sub _ _ _ hid)
  refine ⟨H.keep h1 hsz ho ht hu (fun b hb => ?_) mono (fun b hb => ⟨hb.1, fun hB => ?_, fun e => nl _ _ _ hid (e ▸ hb)⟩), h2, h3⟩
  · rcases hb with hb | hb | hb
    · exact sX b hb
    · exact sB b (h2 b hb).1 (h2 b hb).2
    · subst hb; exact sL _ _ _ hid
  · have := h2 b hB
    rcases hb.2.1 with h | h
    · exact this.2 h
    · omega

structure Sim (c : Ctx) (ρ : Rho) (D J : Nat → Prop) (st : St) (a : Act) (w : World) : Prop where
  defers : Marks c J w a.defers
  tmps : a.tmps.size = st.n
  env : ∀ t, Rep w J ρ (a.tmps.getD t undef) (st.ev t)
  obj : ∀ id o, st.ob id = some o → ∃ b s, ρ id = some (b, s) ∧ ObjRep w J ρ b s o ∧ (c.I b ∨ c.w0.heap.size ≤ b) ∧ ¬ J b
  inj : ∀ id id' o o' b s s', st.ob id = some o → st.ob id' = some o' → ρ id = some (b, s) → ρ id' = some (b, s') → id = id'
  dom : ∀ id p, ρ id = some p → D id
  jok : ∀ b, J b → c.A b ∨ c.I b ∨ c.w0.heap.size ≤ b
  jlt : ∀ b, J b → b < w.heap.size
  ilt : ∀ b, c.I b → b < c.w0.heap.size
  pin : ∀ j, j < st.m → ∃ p, c.pin j = some p ∧ ρ j = some p
  kept : Kept c w
  hid : Hid c J st.ob ρ w
  laid : Laid J w

theorem Sim.nl {c : Ctx} {ρ : Rho} {D J : Nat → Prop} {st : St} {a : Act} {w : World} (hs : Sim c ρ D J st a w) {id : Nat} {H : Proc} {j : Nat} (h : st.ob id = some (.tr H j)) : ∃ s r, ρ id = some (H.l, s) ∧ w.heap[H.l]? = some (.loop r) ∧ ¬ J H.l ∧ (c.I H.l ∨ c.w0.heap.size ≤ H.l) := by
  obtain ⟨b, s, h1, ⟨rfl, r, h2⟩, h3, h4⟩ := hs.obj _ _ h
  exact ⟨s, r, h1, h2, h4, h3⟩

theorem Sim.hid_of {c : Ctx} {ρ ρ' : Rho} {D J J' : Nat → Prop} {st st' : St} {a : Act} {w : World} (hs : Sim c ρ D J st a w) (τ : Nat → Nat) (sub : ∀ id o, st'.ob id = some o → ∃ o0, st.ob (τ id) = some o0 ∧ (∀ H j, o = .tr H j → o0 = .tr H j) ∧ ρ' id = ρ (τ id))
    (inj : ∀ id id' H H' j j', st'.ob id = some (.tr H j) → st'.ob id' = some (.tr H' j') → τ id = τ id' → id = id') (hJ : ∀ b, J' b → J b ∨ ∃ id o s, st.ob id = some o ∧ ρ id = some (b, s)) : Hid c J' st'.ob ρ' w := by
  refine hs.hid.step τ (fun id H j h => ?_) inj (Nat.le_refl _) rfl rfl rfl (fun _ _ => rfl) (fun _ _ _ => rfl) (fun _ _ _ _ => rfl) (fun b hb => ⟨hb.1, hb.2.1, fun hj => ?_, fun id o s h1 h2 => ?_⟩) (fun id H j h hx => ?_)
  · obtain ⟨o0, h1, h2, _⟩ := sub _ _ h
    rw [h1, h2 H j rfl]
  · rcases hJ b hj with h | ⟨id, o, s, h1, h2⟩
    · exact hb.2.2.1 h
    · exact hb.2.2.2 id o s h1 h2
  · obtain ⟨o0, k1, _, k2⟩ := sub _ _ h1
    exact hb.2.2.2 _ _ _ k1 (k2 ▸ h2)
  · obtain ⟨o0, k1, k3, k2⟩ := sub _ _ h
    have := k3 H j rfl; subst this
    obtain ⟨s, r, g1, _⟩ := hs.nl k1
    exact hx.2.2.2 _ _ _ h (k2.trans g1)

def trIn (upd : List (Nat × Option AObj)) : Prop := ∃ p ∈ upd, ∃ H j, p.2 = some (.tr H j)
theorem trIn_nil : ¬ trIn [] := fun ⟨_, h, _⟩ => by cases h
theorem trIn_cons {i : Nat} {o : AObj} {l : List (Nat × Option AObj)} (ho : o.isTr = false) (h : ¬ trIn l) : ¬ trIn ((i, some o) :: l) := by
  rintro ⟨p, hp, H, j, e⟩
  rcases List.mem_cons.1 hp with rfl | hp
  · simp only [Option.some.injEq] at e; subst e; cases ho
  · exact h ⟨p, hp, H, j, e⟩
theorem trIn_cons_none {i : Nat} {l : List (Nat × Option AObj)} (h : ¬ trIn l) : ¬ trIn ((i, none) :: l) := by
  rintro ⟨p, hp, H, j, e⟩
  rcases List.mem_cons.1 hp with rfl | hp
  · cases e
  · exact h ⟨p, hp, H, j, e⟩

def Fr (c : Ctx) (J : Nat → Prop) (st : St) (ρ : Rho) (w : World) (e : Eff) (b : Nat) : Prop := w.heap.size ≤ b ∨ (trIn e.upd ∧ Xm c J st.ob ρ w b)

structure Post (c : Ctx) (nid k : Nat) (st : St) (e : Eff) (ρ ρ' : Rho) (J J' : Nat → Prop) (w w' : World) (v : Value) : Prop where
  size : w.heap.size ≤ w'.heap.size
  os : w'.os = w.os
  tape : w'.tape = w.tape
  output : w'.output = w.output
  same : ∀ b, b < w.heap.size → (∀ id o s, id ∈ e.keys → st.ob id = some o → ρ id ≠ some (b, s)) → (trIn e.upd → ¬ Xm c J st.ob ρ w b) → w'.heap[b]? = w.heap[b]?
  ρmono : ∀ id p, ρ id = some p → ρ' id = some p
  ρnew : ∀ id p, ρ' id = some p → ρ id = some p ∨ (nid ≤ id ∧ id < nid + k)
  Jmono : ∀ b, J b → J' b
  Jnew : ∀ b, J' b → J b ∨ (Fr c J st ρ w e b ∧ b < w'.heap.size) ∨ ∃ id o s, id ∈ e.keys ∧ st.ob id = some o ∧ ρ id = some (b, s)
  val : Rep w' J' ρ' v e.v
  obj : ∀ id o, look e.upd id = some (some o) → ∃ b s, ρ' id = some (b, s) ∧ ObjRep w' J' ρ' b s o ∧ ¬ J' b ∧
    (Fr c J st ρ w e b ∨ ∃ id0 o0 s0, id0 ∈ e.keys ∧ st.ob id0 = some o0 ∧ ρ id0 = some (b, s0))
  inj : ∀ id id' o o' b s s', look e.upd id = some (some o) → look e.upd id' = some (some o') → ρ' id = some (b, s) → ρ' id' = some (b, s') → id = id'
  hid : trIn e.upd → Hid c J' (st.app none e).ob ρ' w'

def OpT (P : Program) (o : Oper) (nid k : Nat) (st : St) (e : Eff) : Prop :=
  ∀ (c : Ctx) (ρ : Rho) (D J : Nat → Prop) (a : Act) (w : World), Sim c ρ D J st a w → (∀ i, nid ≤ i → i < nid + k → ¬ D i) →
    ∀ (r : Option Nat) (K : Act → World → Prop) (Q : Exit → Act → World → Prop), (∀ v w' ρ' J', Post c nid k st e ρ ρ' J J' w w' v → K (a.put o.dst v) w') → o.wpIn (fen r) 0 P a w K Q

theorem run_calm {P : Program} {o : Oper} {a : Act} {w w' : World} {y : Next} (h : (execOp a.eval o).run P w = .ok y w') (hy : ∀ d, y ≠ .defer d) : ∀ cl, o.op ≠ .defer cl := by
  intro cl ho
  unfold execOp at h
  rw [ho] at h
  simp only [Sem.run_bind] at h
  cases hx : (resolve a.eval cl o.type).run P w with
  | ok d w1 =>
    rw [hx] at h
    simp only [Result.andThen, Sem.run_pure, Result.ok.injEq] at h
    exact hy d h.1.symm
  | halt u w1 => rw [hx] at h; simp [Result.andThen] at h
theorem wpIn_value {P : Program} {o : Oper} {a : Act} {w w' : World} {v : Value} {r : Option Nat} {n : Nat} {K : Act → World → Prop} {Q : Exit → Act → World → Prop} (h : (execOp a.eval o).run P w = .ok (.value v) w') (hK : K (a.put o.dst v) w') : o.wpIn (fen r) n P a w K Q := by
  refine ⟨fun _ _ => trivial, ?_⟩
  rw [Oper.semAt_eq _ _ _ (run_calm h (fun d => by simp)), h]
  exact hK
theorem wpIn_skipped {P : Program} {o : Oper} {a : Act} {w w' : World} {r : Option Nat} {n : Nat} {K : Act → World → Prop} {Q : Exit → Act → World → Prop} (h : (execOp a.eval o).run P w = .ok .skip w') (hK : K (a.put o.dst undef) w') : o.wpIn (fen r) n P a w K Q := by
  refine ⟨fun _ _ => trivial, ?_⟩
  rw [Oper.semAt_eq _ _ _ (run_calm h (fun d => by simp)), h]
  exact hK
theorem callsIn_fen {r : Option Nat} {n : Nat} {P : Program} {f : FuncId} {args : Array Value} {w : World} {R : Ending → World → Prop} : CallsIn (fen r) n P f args w R ↔ Calls P f args w R :=
  ⟨fun h => callsIn_wide.1 h, fun h => callsIn_wide.2 h⟩
theorem wpIn_enter {P : Program} {o : Oper} {a : Act} {w w' : World} {f : FuncId} {vs : Array Value} {r : Option Nat} {n : Nat} {K : Act → World → Prop} {Q : Exit → Act → World → Prop} (h : (execOp a.eval o).run P w = .ok (.enter f vs) w')
    (hK : Calls P f vs w' fun e w'' => ∃ v, e = .returned v ∧ K (a.put o.dst v) w'') : o.wpIn (fen r) n P a w K Q := by
  refine ⟨fun _ _ => trivial, ?_⟩
  rw [Oper.semAt_eq _ _ _ (run_calm h (fun d => by simp)), h]
  refine ⟨fun e => by simp [fen, Fence.wide] at e, callsIn_fen.2 (hK.mono ?_)⟩
  rintro e w'' ⟨v, rfl, hv⟩
  exact hv
theorem wpIn_round {P : Program} {o : Oper} {a : Act} {w w' : World} {l : Nat} {f : FuncId} {tmps : Array Value} {as body : Code} {r : Option Nat} {n : Nat} {K : Act → World → Prop} {Q : Exit → Act → World → Prop} (h : (execOp a.eval o).run P w = .ok (.round l f tmps as body) w')
    (hK : RoundIn (fen r) (n - 1) P l f tmps as body w' fun e w'' => ∃ v, e = .returned v ∧ K (a.put o.dst v) w'') : o.wpIn (fen r) n P a w K Q := by
  refine ⟨fun _ _ => trivial, ?_⟩
  rw [Oper.semAt_eq _ _ _ (run_calm h (fun d => by simp)), h]
  refine ⟨fun e => by simp [fen, Fence.wide] at e, hK.mono ?_⟩
  rintro e w'' ⟨v, rfl, hv⟩
  exact hv

theorem Sim.old_ne {c : Ctx} {ρ : Rho} {D J : Nat → Prop} {st : St} {a : Act} {w : World} (h : Sim c ρ D J st a w) {b : Nat} (hb : J b) :
    ∀ id o s, st.ob id = some o → ρ id ≠ some (b, s) := by
  intro id o s ho hr
  obtain ⟨b', s', hr', _, _, hn⟩ := h.obj id o ho
  rw [hr] at hr'; cases hr'; exact hn hb

theorem Sim.app {c : Ctx} {ρ ρ' : Rho} {D J J' : Nat → Prop} {st : St} {a : Act} {w w' : World} {v : Value} {nid k : Nat} {e : Eff} {dst : Option Nat} {D' : Nat → Prop}
    (h : Sim c ρ D J st a w) (p : Post c nid k st e ρ ρ' J J' w w' v) (hd : ∀ d, dst = some d → d < st.n) (hD : ∀ i, D i ∨ (nid ≤ i ∧ i < nid + k) → D' i) :
    Sim c ρ' D' J' (st.app dst e) (a.put dst v) w' := by
  have hJ : ∀ b, J b → b < w.heap.size → J' b ∧ w'.heap[b]? = w.heap[b]? := fun b hb hlt => ⟨p.Jmono b hb, p.same b hlt (fun id o s _ ho => h.old_ne hb id o s ho) (fun _ hx => hx.2.2.1 hb)⟩
  have hmono : ∀ {v x}, Rep w J ρ v x → Rep w' J' ρ' v x := fun hr => hr.mono hJ p.size p.ρmono
  have hn : (st.app dst e).n = st.n := by unfold St.app St.put; split <;> rfl
  -- the block of an object that is not touched
  have hun : ∀ {id o b s}, st.ob id = some o → ρ id = some (b, s) → id ∉ e.keys → b < w.heap.size → w'.heap[b]? = w.heap[b]? := fun {id o b s} ho h1 hk hlt =>
    p.same b hlt (fun id' o' s' hk' ho' hr' => hk (by rw [h.inj id id' o o' b s s' ho ho' h1 hr']; exact hk')) (fun _ hx => hx.2.2.2 _ _ _ ho h1)
  have hkept : ∀ b, b < c.w0.heap.size → ¬ c.I b → w'.heap[b]? = w.heap[b]? := fun b hb hI => p.same b (Nat.lt_of_lt_of_le hb h.kept.size) (fun id o s _ ho hr => by
      obtain ⟨b', s', hr', _, hor, _⟩ := h.obj id o ho
      rw [hr] at hr'; cases hr'
      rcases hor with hor | hor
      · exact hI hor
      · omega) (fun _ hx => by
      rcases hx.2.1 with h | h
      · exact hI h
      · omega)
  have key : ∀ {id : Nat} {o : AObj}, id ∈ e.keys → (look e.upd id).join = some o → look e.upd id = some (some o) := by
    intro id o _ h; cases hl : look e.upd id with | none => simp [hl] at h | some x => rw [hl] at h; simpa using h
  refine ⟨?_, ?_, ?_, ?_, ?_, ?_, ?_, ?_, ?_, ?_, ?_, ?_, h.laid.mono hJ p.size⟩
  · have hds : (a.put dst v).defers = a.defers := by unfold Act.put; split <;> rfl
    rw [hds]
    exact h.defers.same fun D k1 k2 => ⟨(hJ D k1 k2).2, (hJ D k1 k2).1⟩
  · rw [hn]; unfold Act.put; split
    · simpa using h.tmps
    · exact h.tmps
  · intro t
    cases dst with
    | none => exact hmono (h.env t)
    | some d =>
      have hdn := hd d rfl
      rw [← h.tmps] at hdn
      simp only [Act.put, St.app, St.put, St.ev, look]
      by_cases ht : t = d
      · subst ht
        rw [if_pos rfl]
        have : (a.tmps.setIfInBounds t v).getD t undef = v := by simp [Array.getD, hdn]
        rw [this]; exact p.val
      · rw [if_neg ht]
        have : (a.tmps.setIfInBounds d v).getD t undef = a.tmps.getD t undef := by
          simp [Array.getD_eq_getD_getElem?, Array.getElem?_setIfInBounds, Ne.symm ht]
        rw [this]; exact hmono (h.env t)
  · intro id o ho
    rw [St.ob_app] at ho
    split at ho
    · rename_i hk
      obtain ⟨b, s, h1, h2, h3, h4⟩ := p.obj id o (key hk ho)
      refine ⟨b, s, h1, h2, ?_, h3⟩
      rcases h4 with (h4 | ⟨_, h4⟩) | ⟨id0, o0, s0, _, h5, h6⟩
      · exact .inr (by have := h.kept.size; omega)
      · exact h4.2.1
      · obtain ⟨b', s', h7, _, h8, _⟩ := h.obj id0 o0 h5
        rw [h6] at h7; cases h7; exact h8
    · rename_i hk
      obtain ⟨b, s, h1, h2, h3, h4⟩ := h.obj id o ho
      refine ⟨b, s, p.ρmono _ _ h1, h2.mono hJ p.size p.ρmono (hun ho h1 hk h2.lt), h3, fun hj => ?_⟩
      rcases p.Jnew b hj with hj | ⟨hj | ⟨_, hj⟩, _⟩ | ⟨id0, o0, s0, g1, g2, g3⟩
      · exact h4 hj
      · have := h2.lt; omega
      · exact hj.2.2.2 _ _ _ ho h1
      · exact hk (by rw [h.inj id id0 o o0 b s s0 ho g2 h1 g3]; exact g1)
  · intro id id' o o' b s s' ho ho' hr hr'
    rw [St.ob_app] at ho ho'
    -- a new one and an old one never share a block
    have mix : ∀ {id id' : Nat} {o o' : AObj} {b s s' : Nat}, id ∈ e.keys → look e.upd id = some (some o) → ¬ id' ∈ e.keys → st.ob id' = some o' → ρ' id = some (b, s) → ρ' id' = some (b, s') → False := by
      intro id id' o o' b s s' hk hl hk' ho' hr hr'
      obtain ⟨b1, s1, h1, _, _, h4⟩ := p.obj id o hl
      rw [hr] at h1; cases h1
      obtain ⟨b2, s2, h5, h6, _, _⟩ := h.obj id' o' ho'
      have := p.ρmono _ _ h5
      rw [hr'] at this; cases this
      rcases h4 with (h4 | ⟨_, h4⟩) | ⟨id0, o0, s0, hk0, h7, h8⟩
      · have := h6.lt; omega
      · exact h4.2.2.2 _ _ _ ho' h5
      · exact hk' (by rw [h.inj id' id0 o' o0 b _ s0 ho' h7 h5 h8]; exact hk0)
    split at ho <;> split at ho'
    · rename_i k1 k2; exact p.inj id id' o o' b s s' (key k1 ho) (key k2 ho') hr hr'
    · rename_i k1 k2; exact (mix k1 (key k1 ho) k2 ho' hr hr').elim
    · rename_i k1 k2; exact (mix k2 (key k2 ho') k1 ho hr' hr).elim
    · obtain ⟨b1, s1, h1, _⟩ := h.obj id o ho
      obtain ⟨b2, s2, h2, _⟩ := h.obj id' o' ho'
      have e1 := p.ρmono _ _ h1; rw [hr] at e1; cases e1
      have e2 := p.ρmono _ _ h2; rw [hr'] at e2; cases e2
      exact h.inj id id' o o' b _ _ ho ho' h1 h2
  · intro id q hq
    rcases p.ρnew id q hq with hq | hq
    · exact hD id (.inl (h.dom id q hq))
    · exact hD id (.inr hq)
  · intro b hb
    rcases p.Jnew b hb with hb' | ⟨hb' | ⟨_, hb'⟩, _⟩ | ⟨id0, o0, s0, g1, g2, g3⟩
    · exact h.jok b hb'
    · have hk := h.kept.size
      exact .inr (.inr (by omega))
    · exact .inr hb'.2.1
    · obtain ⟨b1, s1, k1, _, k3, _⟩ := h.obj id0 o0 g2
      rw [g3] at k1; cases k1; exact .inr k3
  · intro b hb
    rcases p.Jnew b hb with hb' | hb' | ⟨id0, o0, s0, g1, g2, g3⟩
    · have := h.jlt b hb'; have := p.size; omega
    · exact hb'.2
    · obtain ⟨b1, s1, k1, k2, _⟩ := h.obj id0 o0 g2
      rw [g3] at k1; cases k1; have := k2.lt; have := p.size; omega
  · exact h.ilt
  · intro j hj
    have em : (st.app dst e).m = st.m := by unfold St.app St.put; split <;> rfl
    rw [em] at hj
    obtain ⟨q, h1, h2⟩ := h.pin j hj
    exact ⟨q, h1, p.ρmono _ _ h2⟩
  · have hk := h.kept
    exact ⟨Nat.le_trans hk.size p.size, p.os.trans hk.os, p.tape.trans hk.tape, p.output.trans hk.output, fun b hb hI => (hkept b hb hI).trans (hk.block b hb hI)⟩
  · refine Classical.byCases (fun ht : trIn e.upd => p.hid ht) fun ht => ?_
    have hold : ∀ {id H j}, (st.app dst e).ob id = some (.tr H j) → id ∉ e.keys ∧ st.ob id = some (.tr H j) := fun {id H j} ho => by
      rw [St.ob_app] at ho
      split at ho
      · rename_i hk; exact absurd ⟨_, look_mem (key hk ho), H, j, rfl⟩ ht
      · rename_i hk; exact ⟨hk, ho⟩
    refine h.hid.step id (fun id H j ho => (hold ho).2) (fun _ _ _ _ _ _ _ _ e => e) p.size p.os p.tape p.output (fun b hb => p.same b hb.1 (fun id o s _ ho => hb.2.2.2 id o s ho) (fun h => absurd h ht)) hkept
      (fun id H j ho => ?_) (fun b hb => ⟨Nat.lt_of_lt_of_le hb.1 p.size, hb.2.1, fun hj => ?_, fun id o s ho hr => ?_⟩) (fun id H j ho hx => ?_)
    · obtain ⟨h1, h2⟩ := hold ho
      obtain ⟨s, r, h3, h4, _⟩ := h.nl h2
      exact hun h2 h3 h1 (Array.getElem?_eq_some_iff.1 h4).1
    · rcases p.Jnew b hj with hj | ⟨hj | ⟨hj, _⟩, _⟩ | ⟨id0, o0, s0, g1, g2, g3⟩
      · exact hb.2.2.1 hj
      · have := hb.1; omega
      · exact ht hj
      · exact hb.2.2.2 _ _ _ g2 g3
    · rw [St.ob_app] at ho
      split at ho
      · rename_i hk
        obtain ⟨b1, s1, h1, _, _, h4⟩ := p.obj id o (key hk ho)
        rw [hr] at h1; cases h1
        rcases h4 with (h4 | ⟨h4, _⟩) | ⟨id0, o0, s0, _, h5, h6⟩
        · have := hb.1; omega
        · exact ht h4
        · exact hb.2.2.2 _ _ _ h5 h6
      · obtain ⟨b1, s1, h1, _⟩ := h.obj id o ho
        have e1 := p.ρmono _ _ h1; rw [hr] at e1; cases e1
        exact hb.2.2.2 _ _ _ ho h1
    · obtain ⟨h1, h2⟩ := hold ho
      obtain ⟨s, r, h3, _⟩ := h.nl h2
      exact hx.2.2.2 _ _ _ ho (p.ρmono _ _ h3)

end Go.Sy
/- Sym2. -/
set_option linter.unusedVariables false
set_option linter.unusedSectionVars false
set_option linter.unusedSimpArgs false
namespace Go.Sy

def siz (P : Program) (t : TypeId) : Option Nat := (P.info? t).map (·.size)
def byt (P : Program) (t : TypeId) : Option Nat := (P.info? t).map (·.bytes)
def isAggB (P : Program) (t : TypeId) : Option Bool := (P.underlying t).map fun | .struct _ | .array _ _ => true | _ => false
def fieldOf (P : Program) (t i : Nat) : Option (Nat × TypeId) := match P.underlying t with
  | some (.struct fs) => (fs[i]?).map fun f => (f.offset, f.type)
  | _ => none
def elemOf (P : Program) (t : TypeId) : Option TypeId := match P.underlying t with | some (.slice e) => some e | _ => none
def arrOf (P : Program) (t : TypeId) : Option (Nat × TypeId) := match P.underlying t with | some (.array n e) => some (n, e) | _ => none
def kindOf (P : Program) (t : TypeId) : Option IntKind := match P.underlying t with | some (.int k) => some k | _ => none
def isBoolB (P : Program) (t : TypeId) : Bool := match P.underlying t with | some .bool => true | _ => false
def isPtrB (P : Program) (t : TypeId) : Bool := match P.underlying t with | some (.pointer _) => true | _ => false
def isStrB (P : Program) (t : TypeId) : Bool := match P.underlying t with | some .string => true | _ => false

section
variable {P : Program} {w : World} {t : TypeId}
theorem run_siz {n : Nat} (h : siz P t = some n) : (sizeOf t).run P w = .ok n w := by
  unfold siz at h
  cases hi : P.info? t with
  | none => simp [hi] at h
  | some i => simp [hi] at h; simp [sizeOf, typeInfo, hi, h]
theorem run_isAggB {b : Bool} (h : isAggB P t = some b) : (isAgg t).run P w = .ok b w := by
  unfold isAggB at h
  cases hi : P.underlying t with
  | none => simp [hi] at h
  | some d =>
    simp [hi] at h
    unfold isAgg
    rw [Sem.run_bind, run_underlying hi]
    cases d <;> simp_all
theorem run_fieldOf {i off : Nat} {ft : TypeId} (h : fieldOf P t i = some (off, ft)) : ∃ fs f, P.underlying t = some (.struct fs) ∧ fs[i]? = some f ∧ f.offset = off ∧ f.type = ft := by
  unfold fieldOf at h
  split at h
  · rename_i fs hu
    cases hf : fs[i]? with
    | none => simp [hf] at h
    | some f => simp [hf] at h; exact ⟨fs, f, hu, hf, h.1, h.2⟩
  · cases h
theorem run_elemOf {e : TypeId} (h : elemOf P t = some e) : P.underlying t = some (.slice e) := by
  unfold elemOf at h; split at h
  · rename_i u hu; cases h; exact hu
  · cases h
theorem run_arrOf {n : Nat} {e : TypeId} (h : arrOf P t = some (n, e)) : P.underlying t = some (.array n e) := by
  unfold arrOf at h; split at h
  · rename_i u hu; cases h; assumption
  · cases h
theorem run_kindOf {k : IntKind} (h : kindOf P t = some k) : P.underlying t = some (.int k) := by
  unfold kindOf at h; split at h
  · rename_i u hu; cases h; assumption
  · cases h
theorem run_isBoolB (h : isBoolB P t = true) : P.underlying t = some .bool := by
  unfold isBoolB at h; split at h
  · assumption
  · cases h
theorem run_isPtrB (h : isPtrB P t = true) : ∃ e, P.underlying t = some (.pointer e) := by
  unfold isPtrB at h; split at h
  · exact ⟨_, by assumption⟩
  · cases h
theorem run_isStrB (h : isStrB P t = true) : P.underlying t = some .string := by
  unfold isStrB at h; split at h
  · assumption
  · cases h
end

theorem Sim.op {c : Ctx} {ρ : Rho} {D J : Nat → Prop} {st : St} {a : Act} {w : World} (h : Sim c ρ D J st a w) (x : Operand) : Rep w J ρ (a.eval x) (st.op x) := by
  cases x with
  | tmp t => exact h.env t
  | const v => exact rep_ofV v
  | global g => exact h.laid.rep g
  | func f => exact .fn f #[] [] rfl (fun j hj => by simp at hj)

theorem OpT.pure {P : Program} {o : Oper} {nid : Nat} {st : St} {x : AV}
    (h : ∀ (c : Ctx) (ρ : Rho) (D J : Nat → Prop) (a : Act) (w : World), Sim c ρ D J st a w → ∃ v, (execOp a.eval o).run P w = .ok (.value v) w ∧ Rep w J ρ v x) : OpT P o nid 0 st ⟨x, []⟩ := by
  intro c ρ D J a w hs _ _ K Q hK
  obtain ⟨v, hr, hv⟩ := h c ρ D J a w hs
  refine wpIn_value hr ?_
  exact hK v w ρ J ⟨Nat.le_refl _, rfl, rfl, rfl, fun _ _ _ _ => rfl, fun _ _ h => h, fun _ _ h => .inl h, fun _ h => h, fun _ h => .inl h, hv, fun id o h => by simp [look] at h, fun id id' o o' b s s' h => by simp [look] at h, fun h => absurd h trIn_nil⟩

theorem rep_val_inv {w : World} {J : Nat → Prop} {ρ : Rho} {v u : Value} (h : Rep w J ρ v (.val u)) : v = u := by cases h; rfl

def pbin (P : Program) (op : BinOp) (t : TypeId) (x y : Value) : Option Value :=
  match op, x, y with
  | .shl, .int k a, .int _ b => if b < 0 then none else some (.int k (k.wrap (a * 2 ^ (min b.toNat k.bits))))
  | .shr, .int k a, .int _ b => if b < 0 then none else some (.int k (a.fdiv (2 ^ (min b.toNat k.bits))))
  | .add, .int k a, .int k' b => if k = k' then some (.int k (k.wrap (a + b))) else none
  | .sub, .int k a, .int k' b => if k = k' then some (.int k (k.wrap (a - b))) else none
  | .mul, .int k a, .int k' b => if k = k' then some (.int k (k.wrap (a * b))) else none
  | .quo, .int k a, .int k' b => if k = k' ∧ b ≠ 0 then some (.int k (k.wrap (a.tdiv b))) else none
  | .rem, .int k a, .int k' b => if k = k' ∧ b ≠ 0 then some (.int k (a.tmod b)) else none
  | .and, .int k a, .int k' b => if k = k' then some (.int k (k.wrap (BitVec.ofInt k.bits a &&& BitVec.ofInt k.bits b).toNat)) else none
  | .or, .int k a, .int k' b => if k = k' then some (.int k (k.wrap (BitVec.ofInt k.bits a ||| BitVec.ofInt k.bits b).toNat)) else none
  | .xor, .int k a, .int k' b => if k = k' then some (.int k (k.wrap (BitVec.ofInt k.bits a ^^^ BitVec.ofInt k.bits b).toNat)) else none
  | .andNot, .int k a, .int k' b => if k = k' then some (.int k (k.wrap (BitVec.ofInt k.bits a &&& ~~~ BitVec.ofInt k.bits b).toNat)) else none
  | .eql, .int k a, .int k' b => if k = k' then some (.bool (decide (a = b))) else none
  | .neq, .int k a, .int k' b => if k = k' then some (.bool (decide (a ≠ b))) else none
  | .lss, .int k a, .int k' b => if k = k' then some (.bool (decide (a < b))) else none
  | .leq, .int k a, .int k' b => if k = k' then some (.bool (decide (a ≤ b))) else none
  | .gtr, .int k a, .int k' b => if k = k' then some (.bool (decide (b < a))) else none
  | .geq, .int k a, .int k' b => if k = k' then some (.bool (decide (b ≤ a))) else none
  | .eql, .bool a, .bool b => if isBoolB P t then some (.bool (a == b)) else none
  | .neq, .bool a, .bool b => if isBoolB P t then some (.bool (a != b)) else none
  | .eql, .string a, .string b => some (.bool (decide (a = b)))
  | .neq, .string a, .string b => some (.bool (decide (a ≠ b)))
  | .add, .string a, .string b => if ((a.size + b.size : Nat) : Int) ≤ 9223372036854775807 then some (.string (a ++ b)) else none
  | .eql, .pointer none, .pointer b => if isPtrB P t then some (.bool b.isNone) else none
  | .neq, .pointer none, .pointer b => if isPtrB P t then some (.bool !b.isNone) else none
  | _, _, _ => none

theorem toList_beq (a b : ByteArray) : (a.toList == b.toList) = decide (a = b) := by
  have h : a.toList = b.toList ↔ a = b := by
    constructor
    · intro h
      have h1 := congrArg List.toArray h
      have e : ∀ x : ByteArray, x.toList.toArray = x.data := fun x => by rw [ByteArray.toList_eq]
      rw [e, e] at h1
      cases a; cases b; simp at h1; simp [h1]
    · intro h; rw [h]
  rw [Bool.eq_iff_iff]
  simp [h]

theorem equal_bool {P : Program} {t : TypeId} (h : isBoolB P t = true) (a b : Bool) (w : World) : (Op.equal t (.bool a) (.bool b)).run P w = .ok (a == b) w := by
  have hu := run_isBoolB h
  show (Op.equalIn (9999 + 1) t _ _).run P w = _
  rw [Op.equalIn]
  simp [run_underlying hu]
theorem equal_nilptr {P : Program} {t : TypeId} (h : isPtrB P t = true) (b : Option Addr) (w : World) : (Op.equal t (.pointer none) (.pointer b)).run P w = .ok b.isNone w := by
  obtain ⟨e, hu⟩ := run_isPtrB h
  show (Op.equalIn (9999 + 1) t _ _).run P w = _
  rw [Op.equalIn]
  simp [run_underlying hu]

theorem pbin_run {P : Program} {op : BinOp} {t : TypeId} {x y v : Value} (h : pbin P op t x y = some v) (w : World) : (binOp op t x y).run P w = .ok v w := by
  unfold pbin at h
  split at h <;> (try (split at h)) <;> first
    | (cases h; done)
    | (cases h
       simp only [binOp]
       first
        | (simp_all [Op.shift, Op.intArith, Op.intDiv, Op.intBits, Op.intCmp, Op.stringOp, toList_beq, bne]; done)
        | (rename_i hb; simp [equal_bool hb, bne]; done)
        | (rename_i hb; simp [equal_nilptr hb]; done)
        | (rename_i hb; simp only [Op.shift, if_neg hb]; rfl)
        | (rename_i hk; subst hk; simp only [Op.intCmp, ne_eq, not_true, if_false, Sem.run_pure]; congr 2; try (rw [Bool.eq_iff_iff]; simp)))

end Go.Sy
/- Sym3. -/
set_option linter.unusedVariables false
set_option linter.unusedSectionVars false
set_option linter.unusedSimpArgs false
namespace Go.Sy

def eqAV (P : Program) (t : TypeId) (x y : AV) : Option Bool :=
  match P.underlying t, x, y with
  | some (.slice _), .isl z _ _, .isl true [] 0 => some z
  | some (.slice _), .sl .., .isl true [] 0 => some false
  | some (.pointer _), .pt .., .val (.pointer none) => some false
  | some (.pointer _), .ipt .., .val (.pointer none) => some false
  | _, _, _ => none

theorem eqAV_run {P : Program} {t : TypeId} {x y : AV} {b : Bool} (h : eqAV P t x y = some b) {w : World} {J : Nat → Prop} {ρ : Rho} {u v : Value}
    (hu : Rep w J ρ u x) (hv : Rep w J ρ v y) : (Op.equal t u v).run P w = .ok b w ∧ (∃ a n c, u = .slice a n c) ∨ (Op.equal t u v).run P w = .ok b w ∧ ∃ a, u = .pointer a := by
  show (Op.equalIn (9999 + 1) t _ _).run P w = _ ∧ _ ∨ (Op.equalIn (9999 + 1) t _ _).run P w = _ ∧ _
  unfold eqAV at h
  split at h
  · rename_i hty
    refine .inl ?_
    cases hv; cases h
    rw [Op.equalIn]
    cases hu <;> simp [run_underlying hty]
  · rename_i hty
    refine .inl ?_
    cases hv; cases h
    rw [Op.equalIn]
    cases hu; simp [run_underlying hty]
  · rename_i hty
    refine .inr ?_
    cases hv; cases h
    rw [Op.equalIn]
    cases hu; simp [run_underlying hty]
  · rename_i hty
    refine .inr ?_
    cases hv; cases h
    rw [Op.equalIn]
    cases hu; simp [run_underlying hty]
  · cases h

def pickAV (t : Bool) : AV → AV → AV
  | .val (.bool u), .val (.bool v) => .val (.bool (if t then u else v))
  | x, y => if t then x else y

theorem rep_pick {w : World} {J : Nat → Prop} {ρ : Rho} {t : Bool} {x y : AV} {u v : Value} (hx : Rep w J ρ u x) (hy : Rep w J ρ v y) : Rep w J ρ (if t then u else v) (pickAV t x y) := by
  cases t
  · have : pickAV false x y = y := by unfold pickAV; split <;> simp
    rw [this]; exact hy
  · have : pickAV true x y = x := by unfold pickAV; split <;> simp
    rw [this]; exact hx

section
variable {P : Program} {dst : Option Nat} {ty : TypeId} {pos : String} {af : Array Edge} {g : Option (Nat × Bool)} {nid : Nat} {st : St}

theorem opT_move (x : Operand) : OpT P ⟨dst, .move x, ty, pos, af, g⟩ nid 0 st ⟨st.op x, []⟩ := .pure fun c ρ D J a w h => ⟨_, rfl, h.op x⟩
theorem opT_assign (x : Operand) : OpT P ⟨dst, .assign x, ty, pos, af, g⟩ nid 0 st ⟨st.op x, []⟩ := .pure fun c ρ D J a w h => ⟨_, rfl, h.op x⟩

theorem opT_pick (x y z : Operand) (b : Bool) (hx : st.op x = .val (.bool b)) : OpT P ⟨dst, .pick x y z, ty, pos, af, g⟩ nid 0 st ⟨pickAV b (st.op y) (st.op z), []⟩ := .pure fun c ρ D J a w h => by
  have h1 := h.op x
  rw [hx] at h1
  have e := rep_val_inv h1
  exact ⟨if b then a.eval y else a.eval z, by simp [execOp, e, asBool], rep_pick (h.op y) (h.op z)⟩

theorem opT_binOp (op : BinOp) (t : TypeId) (x y : Operand) (t' : TypeId) (u v r : Value) (hx : st.op x = .val u) (hy : st.op y = .val v) (hr : pbin P op t u v = some r)
    (hg : ∀ w : World, (eqGuard op t x y u v).run P w = .ok () w) :
    OpT P ⟨dst, .binOp op t x y t', ty, pos, af, g⟩ nid 0 st ⟨ofV r, []⟩ := .pure fun c ρ D J a w h => by
  have h1 := h.op x; have h2 := h.op y
  rw [hx] at h1; rw [hy] at h2
  have e1 := rep_val_inv h1; have e2 := rep_val_inv h2
  exact ⟨r, by simp [execOp, e1, e2, hg w, pbin_run hr w], rep_ofV r⟩

theorem opT_eqnil (t : TypeId) (x y : Operand) (t' : TypeId) (b : Bool) (h : eqAV P t (st.op x) (st.op y) = some b) : OpT P ⟨dst, .binOp .eql t x y t', ty, pos, af, g⟩ nid 0 st ⟨.val (.bool b), []⟩ := .pure fun c ρ D J a w hs => by
  refine ⟨.bool b, ?_, .val _⟩
  rcases eqAV_run h (hs.op x) (hs.op y) with ⟨hr, a1, n1, c1, e1⟩ | ⟨hr, a1, e1⟩
  · rw [e1] at hr; simp [execOp, e1, eqGuard, binOp, hr]
  · rw [e1] at hr; simp [execOp, e1, eqGuard, binOp, hr]
theorem opT_neqnil (t : TypeId) (x y : Operand) (t' : TypeId) (b : Bool) (h : eqAV P t (st.op x) (st.op y) = some b) : OpT P ⟨dst, .binOp .neq t x y t', ty, pos, af, g⟩ nid 0 st ⟨.val (.bool !b), []⟩ := .pure fun c ρ D J a w hs => by
  refine ⟨.bool !b, ?_, .val _⟩
  rcases eqAV_run h (hs.op x) (hs.op y) with ⟨hr, a1, n1, c1, e1⟩ | ⟨hr, a1, e1⟩
  · rw [e1] at hr; simp [execOp, e1, eqGuard, binOp, hr]
  · rw [e1] at hr; simp [execOp, e1, eqGuard, binOp, hr]

theorem opT_unOp_not (t : TypeId) (x : Operand) (b : Bool) (hx : st.op x = .val (.bool b)) : OpT P ⟨dst, .unOp .not t x, ty, pos, af, g⟩ nid 0 st ⟨.val (.bool !b), []⟩ := .pure fun c ρ D J a w h => by
  have h1 := h.op x
  rw [hx] at h1
  have e := rep_val_inv h1
  exact ⟨.bool !b, by simp [execOp, e, Op.unary], .val _⟩
theorem opT_unOp_neg (t : TypeId) (x : Operand) (k : IntKind) (n : Int) (hx : st.op x = .val (.int k n)) : OpT P ⟨dst, .unOp .neg t x, ty, pos, af, g⟩ nid 0 st ⟨.val (.int k (k.wrap (0 - n))), []⟩ := .pure fun c ρ D J a w h => by
  have h1 := h.op x
  rw [hx] at h1
  have e := rep_val_inv h1
  exact ⟨_, by simp [execOp, e, Op.unary, Op.intArith]; rfl, by first | exact .val _ | (simp; exact .val _)⟩

theorem opT_convert_int (s t : TypeId) (x : Operand) (k k' : IntKind) (n : Int) (ks : IntKind) (hs : kindOf P s = some ks) (hk : kindOf P t = some k) (hx : st.op x = .val (.int k' n)) :
    OpT P ⟨dst, .convert s t x, ty, pos, af, g⟩ nid 0 st ⟨.val (.int k (k.wrap n)), []⟩ := .pure fun c ρ D J a w h => by
  have h1 := h.op x
  rw [hx] at h1
  have e := rep_val_inv h1
  exact ⟨.int k (k.wrap n), by simp [execOp, e, convert, run_underlying (run_kindOf hk), run_underlying (run_kindOf hs), Conv.intToInt], .val _⟩

def AV.notNil : AV → Bool
  | .pt .. | .ipt .. | .fn .. | .mp _ => true
  | _ => false

theorem opT_nilCheck (x : Operand) (hx : (st.op x).notNil = true) : OpT P ⟨dst, .nilCheck x, ty, pos, af, g⟩ nid 0 st ⟨st.op x, []⟩ := .pure fun c ρ D J a w h => by
  have h1 := h.op x
  refine ⟨a.eval x, ?_, h1⟩
  generalize st.op x = y at h1 hx
  generalize hv : a.eval x = v at h1
  cases h1 <;> simp_all [execOp, AV.notNil]

theorem opT_fieldAddr_pt (s : TypeId) (x : Operand) (f : Nat) (id off fo n : Nat) (ft : TypeId) (hx : st.op x = .pt id off) (hf : fieldOf P s f = some (fo, ft)) (hz : siz P ft = some (n + 1)) :
    OpT P ⟨dst, .fieldAddr s x f, ty, pos, af, g⟩ nid 0 st ⟨.pt id (off + fo), []⟩ := .pure fun c ρ D J a w h => by
  have h1 := h.op x
  rw [hx] at h1
  obtain ⟨fs, fd, hu, hfs, rfl, rfl⟩ := run_fieldOf hf
  generalize hv : a.eval x = v at h1
  cases h1 with
  | pt b s' _ _ hr => exact ⟨.pointer (some ⟨b, off + fd.offset, none⟩), by simp [execOp, hv, Instr.fieldAt, run_underlying hu, hfs, Instr.sureAddr, fieldPlace, run_siz hz, Addr.add_lit], .pt b s' id _ hr⟩

theorem opT_fieldAddr_ipt (s : TypeId) (x : Operand) (f : Nat) (cells : List AV) (off fo n : Nat) (ft : TypeId) (hx : st.op x = .ipt cells off) (hf : fieldOf P s f = some (fo, ft)) (hz : siz P ft = some (n + 1)) :
    OpT P ⟨dst, .fieldAddr s x f, ty, pos, af, g⟩ nid 0 st ⟨.ipt cells (off + fo), []⟩ := .pure fun c ρ D J a w h => by
  have h1 := h.op x
  rw [hx] at h1
  obtain ⟨fs, fd, hu, hfs, rfl, rfl⟩ := run_fieldOf hf
  generalize hv : a.eval x = v at h1
  cases h1 with
  | ipt b o _ _ u hb h0 h1 h2 => exact ⟨.pointer (some ⟨b, o + (off + fd.offset), none⟩), by simp [execOp, hv, Instr.fieldAt, run_underlying hu, hfs, Instr.sureAddr, fieldPlace, run_siz hz, Addr.add_lit, Nat.add_assoc], .ipt b o _ cells u hb h0 h1 h2⟩

theorem opT_indexAddr_sl (t : TypeId) (x ix : Operand) (id off len es : Nat) (k : IntKind) (i : Int) (e : TypeId) (hx : st.op x = .sl id off len es) (hi : st.op ix = .val (.int k i))
    (he : elemOf P t = some e) (hz : siz P e = some es) (hr : 0 ≤ i ∧ i < len) :
    OpT P ⟨dst, .indexAddr t x ix, ty, pos, af, g⟩ nid 0 st ⟨.pt id (off + i.toNat * es), []⟩ := .pure fun c ρ D J a w h => by
  have h1 := h.op x; have h2 := h.op ix
  rw [hx] at h1; rw [hi] at h2
  have e2 := rep_val_inv h2
  have hu := run_elemOf he
  generalize hv : a.eval x = v at h1
  cases h1 with
  | sl b s _ _ _ _ cap hρ hc hs => exact ⟨.pointer (some ⟨b, off + i.toNat * es, none⟩), by simp [execOp, hv, e2, Instr.indexAt, asIntOf, run_underlying hu, hr, run_siz hz, Addr.add_lit], .pt b s id _ hρ⟩

theorem opT_indexAddr_sl' (t : TypeId) (x ix : Operand) (id off len es es' : Nat) (k : IntKind) (i : Int) (e : TypeId) (hx : st.op x = .sl id off len es') (hi : st.op ix = .val (.int k i))
    (he : elemOf P t = some e) (hz : siz P e = some es) (hr : 0 ≤ i ∧ i < len) :
    OpT P ⟨dst, .indexAddr t x ix, ty, pos, af, g⟩ nid 0 st ⟨.pt id (off + i.toNat * es), []⟩ := .pure fun c ρ D J a w h => by
  have h1 := h.op x; have h2 := h.op ix
  rw [hx] at h1; rw [hi] at h2
  have e2 := rep_val_inv h2
  have hu := run_elemOf he
  generalize hv : a.eval x = v at h1
  cases h1 with
  | sl b s _ _ _ _ cap hρ hc hs => exact ⟨.pointer (some ⟨b, off + i.toNat * es, none⟩), by simp [execOp, hv, e2, Instr.indexAt, asIntOf, run_underlying hu, hr, run_siz hz, Addr.add_lit], .pt b s id _ hρ⟩

theorem opT_indexAddr_isl (t : TypeId) (x ix : Operand) (z : Bool) (cells : List AV) (len es : Nat) (k : IntKind) (i : Int) (e : TypeId) (hx : st.op x = .isl z cells len) (hi : st.op ix = .val (.int k i))
    (he : elemOf P t = some e) (hz : siz P e = some es) (hr : 0 ≤ i ∧ i < len) :
    OpT P ⟨dst, .indexAddr t x ix, ty, pos, af, g⟩ nid 0 st ⟨.ipt cells (i.toNat * es), []⟩ := .pure fun c ρ D J a w h => by
  have h1 := h.op x; have h2 := h.op ix
  rw [hx] at h1; rw [hi] at h2
  have e2 := rep_val_inv h2
  have hu := run_elemOf he
  generalize hv : a.eval x = v at h1
  cases h1 with
  | inil => exfalso; simp at hr; omega
  | iemp => exfalso; simp at hr; omega
  | isl b off _ cap _ u hb hc h0 h1 h2 => exact ⟨.pointer (some ⟨b, off + i.toNat * es, none⟩), by simp [execOp, hv, e2, Instr.indexAt, asIntOf, run_underlying hu, hr, run_siz hz, Addr.add_lit], .ipt b off _ cells u hb h0 h1 h2⟩

theorem opT_indexAddr_arr (t : TypeId) (x ix : Operand) (id off n es : Nat) (k : IntKind) (i : Int) (e : TypeId) (hx : st.op x = .pt id off) (hi : st.op ix = .val (.int k i))
    (he : arrOf P t = some (n, e)) (hz : siz P e = some es) (hr : 0 ≤ i ∧ i < n) :
    OpT P ⟨dst, .indexAddr t x ix, ty, pos, af, g⟩ nid 0 st ⟨.pt id (off + i.toNat * es), []⟩ := .pure fun c ρ D J a w h => by
  have h1 := h.op x; have h2 := h.op ix
  rw [hx] at h1; rw [hi] at h2
  have e2 := rep_val_inv h2
  have hu := run_arrOf he
  generalize hv : a.eval x = v at h1
  cases h1 with
  | pt b s _ _ hρ => exact ⟨.pointer (some ⟨b, off + i.toNat * es, none⟩), by simp [execOp, hv, e2, Instr.indexAt, asIntOf, run_underlying hu, hr, run_siz hz, Addr.add_lit, Instr.sureAddr], .pt b s id _ hρ⟩

theorem opT_indexAddr_iarr (t : TypeId) (x ix : Operand) (cells : List AV) (off n es : Nat) (k : IntKind) (i : Int) (e : TypeId) (hx : st.op x = .ipt cells off) (hi : st.op ix = .val (.int k i))
    (he : arrOf P t = some (n, e)) (hz : siz P e = some es) (hr : 0 ≤ i ∧ i < n) :
    OpT P ⟨dst, .indexAddr t x ix, ty, pos, af, g⟩ nid 0 st ⟨.ipt cells (off + i.toNat * es), []⟩ := .pure fun c ρ D J a w h => by
  have h1 := h.op x; have h2 := h.op ix
  rw [hx] at h1; rw [hi] at h2
  have e2 := rep_val_inv h2
  have hu := run_arrOf he
  generalize hv : a.eval x = v at h1
  cases h1 with
  | ipt b o _ _ u hb h0 h1 h2 => exact ⟨.pointer (some ⟨b, o + (off + i.toNat * es), none⟩), by simp [execOp, hv, e2, Instr.indexAt, asIntOf, run_underlying hu, hr, run_siz hz, Addr.add_lit, Instr.sureAddr, Nat.add_assoc], .ipt b o _ cells u hb h0 h1 h2⟩

theorem cell_obj {w : World} {J : Nat → Prop} {ρ : Rho} {b s : Nat} {cs : List AV} {e : TypeId} (h : ObjRep w J ρ b s (.cells cs e)) : ∃ u : Nat → Value, ∀ j (hj : j < cs.length),
    w.cell? ⟨b, j, none⟩ = some (u j) ∧ (u j).oneCell' = true ∧ Rep w J ρ (u j) cs[j] := by
  obtain ⟨c, hc, hs, hl, hr, _⟩ := h
  refine ⟨fun j => c.getD j undef, fun j hj => ⟨?_, (hr j hj).1, (hr j hj).2⟩⟩
  rw [cell_of_row w b j c e (0, 0) hc]
  have : j < c.size := by omega
  simp [Array.getD, this]

theorem run_loadCells_rep {w : World} {J : Nat → Prop} {ρ : Rho} {b off n : Nat} {cs : List AV} (u : Nat → Value) (h : ∀ j (hj : j < cs.length), w.cell? ⟨b, off + j, none⟩ = some (u j) ∧ Rep w J ρ (u j) cs[j]) (hn : cs.length = n) :
    ∃ vs : Array Value, (loadCells ⟨b, off, none⟩ n).run P w = .ok vs w ∧ Rep w J ρ (.agg vs) (.agg cs) := by
  have h1 := run_loadCells (P := P) w ⟨b, off, none⟩ n u (fun j hj => by rw [Addr.add_lit]; exact (h j (by omega)).1)
  refine ⟨_, h1, .agg _ _ (by simp [hn]) (fun j hj => ?_)⟩
  have : ((List.range n).map u).toArray.getD j undef = u j := by simp [Array.getD, hn ▸ hj]
  rw [this]; exact (h j hj).2

theorem opT_load_pt (t : TypeId) (x : Operand) (id off : Nat) (cs : List AV) (e : TypeId) (y : AV) (hx : st.op x = .pt id off) (ho : st.ob id = some (.cells cs e)) (ha : isAggB P t = some false) (hy : cs[off]? = some y) :
    OpT P ⟨dst, .load t x, ty, pos, af, g⟩ nid 0 st ⟨y, []⟩ := .pure fun c ρ D J a w h => by
  have h1 := h.op x
  rw [hx] at h1
  obtain ⟨b, s, hρ, hob, _⟩ := h.obj id _ ho
  obtain ⟨u, hu⟩ := cell_obj hob
  generalize hv : a.eval x = v at h1
  cases h1 with
  | pt b' s' _ _ hρ' =>
    rw [hρ] at hρ'; cases hρ'
    obtain ⟨hlt, rfl⟩ := List.getElem?_eq_some_iff.1 hy
    exact ⟨u off, by simp [execOp, hv, Instr.loadAt, Instr.sureAddr, loadVar, run_isAggB ha, (hu off hlt).1], (hu off hlt).2.2⟩

theorem opT_load_ipt (t : TypeId) (x : Operand) (cells : List AV) (off : Nat) (y : AV) (hx : st.op x = .ipt cells off) (ha : isAggB P t = some false) (hy : cells[off]? = some y) :
    OpT P ⟨dst, .load t x, ty, pos, af, g⟩ nid 0 st ⟨y, []⟩ := .pure fun c ρ D J a w h => by
  have h1 := h.op x
  rw [hx] at h1
  generalize hv : a.eval x = v at h1
  cases h1 with
  | ipt b o _ _ u hb h0 h1 h2 =>
    obtain ⟨hlt, rfl⟩ := List.getElem?_eq_some_iff.1 hy
    exact ⟨u off, by simp [execOp, hv, Instr.loadAt, Instr.sureAddr, loadVar, run_isAggB ha, h1 off hlt], (h2 off hlt).up⟩

theorem opT_load_pt_agg (t : TypeId) (x : Operand) (id off n : Nat) (cs : List AV) (e : TypeId) (hx : st.op x = .pt id off) (ho : st.ob id = some (.cells cs e)) (ha : isAggB P t = some true) (hz : siz P t = some n) (hy : off + n ≤ cs.length) :
    OpT P ⟨dst, .load t x, ty, pos, af, g⟩ nid 0 st ⟨.agg ((cs.drop off).take n), []⟩ := .pure fun c ρ D J a w h => by
  have h1 := h.op x
  rw [hx] at h1
  obtain ⟨b, s, hρ, hob, _⟩ := h.obj id _ ho
  obtain ⟨u, hu⟩ := cell_obj hob
  generalize hv : a.eval x = v at h1
  cases h1 with
  | pt b' s' _ _ hρ' =>
    rw [hρ] at hρ'; cases hρ'
    obtain ⟨vs, hr, hrep⟩ := run_loadCells_rep (P := P) (w := w) (J := J) (ρ := ρ) (b := b) (off := off) (n := n) (cs := (cs.drop off).take n) (fun j => u (off + j)) (fun j hj => by
      simp at hj
      have := hu (off + j) (by omega)
      exact ⟨this.1, by simpa using this.2.2⟩) (by simp; omega)
    exact ⟨.agg vs, by simp [execOp, hv, Instr.loadAt, Instr.sureAddr, loadVar, run_isAggB ha, run_siz hz, hr], hrep⟩

theorem opT_load_ipt_agg (t : TypeId) (x : Operand) (off n : Nat) (cs : List AV) (hx : st.op x = .ipt cs off) (ha : isAggB P t = some true) (hz : siz P t = some n) (hy : off + n ≤ cs.length) :
    OpT P ⟨dst, .load t x, ty, pos, af, g⟩ nid 0 st ⟨.agg ((cs.drop off).take n), []⟩ := .pure fun c ρ D J a w h => by
  have h1 := h.op x
  rw [hx] at h1
  generalize hv : a.eval x = v at h1
  cases h1 with
  | ipt b o _ _ u hb h0 h1 h2 =>
    obtain ⟨vs, hr, hrep⟩ := run_loadCells_rep (P := P) (w := w) (J := J) (ρ := ρ) (b := b) (off := o + off) (n := n) (cs := (cs.drop off).take n) (fun j => u (off + j)) (fun j hj => by
      simp at hj
      exact ⟨by rw [Nat.add_assoc]; exact h1 (off + j) (by omega), by simpa using (h2 (off + j) (by omega)).up⟩) (by simp; omega)
    exact ⟨.agg vs, by simp [execOp, hv, Instr.loadAt, Instr.sureAddr, loadVar, run_isAggB ha, run_siz hz, hr], hrep⟩

theorem opT_extract (x : Operand) (i : Nat) (cs : List AV) (y : AV) (hx : st.op x = .tup cs) (hy : cs[i]? = some y) : OpT P ⟨dst, .extract x i, ty, pos, af, g⟩ nid 0 st ⟨y, []⟩ := .pure fun c ρ D J a w h => by
  have h1 := h.op x
  rw [hx] at h1
  generalize hv : a.eval x = v at h1
  cases h1 with
  | tup vs _ hs h1 =>
    obtain ⟨hlt, rfl⟩ := List.getElem?_eq_some_iff.1 hy
    have hlt' : i < vs.size := by omega
    exact ⟨vs.getD i undef, by simp [execOp, hv, Instr.extract, hlt', Array.getD], h1 _ hlt⟩

def lenAV : AV → Option Nat
  | .isl _ _ n => some n
  | .sl _ _ n _ => some n
  | .val (.string s) => some s.size
  | _ => none

def lenType (P : Program) (t : TypeId) (x : AV) : Bool := match P.underlying t, x with
  | some .string, .val _ => true
  | some (.slice _), .isl .. => true
  | some (.slice _), .sl .. => true
  | _, _ => false

theorem opT_len (t : TypeId) (x : Operand) (n : Nat) (hn : lenAV (st.op x) = some n) (ht : lenType P t (st.op x) = true) :
    OpT P ⟨dst, .call ⟨.builtin .len, #[x], #[t]⟩, ty, pos, af, g⟩ nid 0 st ⟨.val (.int .i64 n), []⟩ := .pure fun c ρ D J a w h => by
  have h1 := h.op x
  refine ⟨.int .i64 n, ?_, .val _⟩
  generalize st.op x = y at h1 hn ht
  generalize hv : a.eval x = v at h1
  unfold lenType at ht
  split at ht
  · rename_i hu
    cases h1
    unfold lenAV at hn
    split at hn <;> simp_all [execOp, resolve, invoke, builtin, Builtin.len_, run_underlying hu, goInt]
  · rename_i hu
    cases h1 <;> simp [lenAV] at hn <;> subst hn <;> simp [execOp, resolve, invoke, builtin, hv, Builtin.len_, run_underlying hu, goInt]
  · rename_i hu
    cases h1; simp [lenAV] at hn; subst hn; simp [execOp, resolve, invoke, builtin, hv, Builtin.len_, run_underlying hu, goInt]
  · cases ht

end
end Go.Sy
/- Sym4. -/
set_option linter.unusedVariables false
set_option linter.unusedSectionVars false
set_option linter.unusedSimpArgs false
namespace Go.Sy

structure Grew (w w' : World) (o : Obj) : Prop where
  heap : w'.heap = w.heap.push o
  os : w'.os = w.os
  tape : w'.tape = w.tape
  output : w'.output = w.output

theorem Grew.alloc (w : World) (o : Obj) : Grew w (w.alloc o) o := ⟨rfl, rfl, rfl, rfl⟩
theorem Grew.drew (w : World) (o : Obj) : Grew w (w.drew.alloc o) o := ⟨rfl, rfl, rfl, rfl⟩

theorem Grew.old {w w' : World} {o : Obj} (h : Grew w w' o) {b : Nat} (hb : b < w.heap.size) : w'.heap[b]? = w.heap[b]? := by
  rw [h.heap, Array.getElem?_push, if_neg (by omega)]
theorem Grew.size {w w' : World} {o : Obj} (h : Grew w w' o) : w'.heap.size = w.heap.size + 1 := by rw [h.heap, Array.size_push]
theorem Grew.new {w w' : World} {o : Obj} (h : Grew w w' o) : w'.heap[w.heap.size]? = some o := by rw [h.heap]; simp

def Rho.add (ρ : Rho) (id b s : Nat) : Rho := fun i => if i = id then some (b, s) else ρ i

theorem Rho.add_mono {ρ : Rho} {id b s : Nat} (h : ρ id = none) : ∀ i p, ρ i = some p → (ρ.add id b s) i = some p := by
  intro i p hi; unfold Rho.add; split
  · rename_i e; subst e; rw [h] at hi; cases hi
  · exact hi

theorem Rep.grew {w w' : World} {J : Nat → Prop} {ρ ρ' : Rho} {o : Obj} (g : Grew w w' o) (hρ : ∀ i p, ρ i = some p → ρ' i = some p) {v : Value} {x : AV} (h : Rep w J ρ v x) : Rep w' J ρ' v x := by
  refine h.mono (J := J) (J' := J) ?_ (by rw [g.size]; omega) hρ
  exact fun b hb hlt => ⟨hb, g.old hlt⟩

section
variable {P : Program} {dst : Option Nat} {ty : TypeId} {pos : String} {af : Array Edge} {g : Option (Nat × Bool)} {nid : Nat} {st : St}

theorem OpT.alloc {o : Oper} {x : AV} {ob : AObj}
    (h : ∀ (c : Ctx) (ρ : Rho) (D J : Nat → Prop) (a : Act) (w : World), Sim c ρ D J st a w → ∃ v w' obj s, (execOp a.eval o).run P w = .ok (.value v) w' ∧ Grew w w' obj ∧
      ∀ ρ' : Rho, ρ' nid = some (w.heap.size, s) → (∀ i p, ρ i = some p → ρ' i = some p) → Rep w' J ρ' v x ∧ ObjRep w' J ρ' w.heap.size s ob)
    (ht : ob.isTr = false := by rfl) : OpT P o nid 1 st ⟨x, [(nid, some ob)]⟩ := by
  intro c ρ D J a w hs hD _ K Q hK
  obtain ⟨v, w', obj, s, hr, hg, hrep⟩ := h c ρ D J a w hs
  have hn : ρ nid = none := by
    cases hp : ρ nid with
    | none => rfl
    | some p => exact absurd (hs.dom nid p hp) (hD nid (Nat.le_refl _) (by omega))
  have hmono := Rho.add_mono (b := w.heap.size) (s := s) hn
  have hnew : (ρ.add nid w.heap.size s) nid = some (w.heap.size, s) := by simp [Rho.add]
  obtain ⟨h1, h2⟩ := hrep _ hnew hmono
  refine wpIn_value hr ?_
  refine hK v w' (ρ.add nid w.heap.size s) J ⟨by rw [hg.size]; omega, hg.os, hg.tape, hg.output, fun b hb _ _ => hg.old hb, hmono, ?_, fun _ h => h, fun _ h => .inl h, h1, ?_, ?_, fun h => absurd h (trIn_cons ht trIn_nil)⟩
  · intro i p hi
    unfold Rho.add at hi
    split at hi
    · rename_i e; exact .inr (by omega)
    · exact .inl hi
  · intro id o' ho
    simp only [look] at ho
    split at ho
    · rename_i e; subst e; cases ho
      exact ⟨w.heap.size, s, hnew, h2, fun hj => by have := hs.jlt _ hj; omega, .inl (.inl (Nat.le_refl _))⟩
    · cases ho
  · intro id id' o1 o2 b s1 s2 h1 h2 _ _
    simp only [look] at h1 h2
    split at h1
    · split at h2
      · omega
      · cases h2
    · cases h1

theorem OpT.modify {o : Oper} {x : AV} {id : Nat} {o0 o1 : AObj} (ho : st.ob id = some o0)
    (h : ∀ (c : Ctx) (ρ : Rho) (D J : Nat → Prop) (a : Act) (w : World) (b s : Nat), Sim c ρ D J st a w → ρ id = some (b, s) → ObjRep w J ρ b s o0 → ¬ J b →
      ∃ nx w' v, (execOp a.eval o).run P w = .ok nx w' ∧ (nx = .value v ∨ nx = .skip ∧ v = undef) ∧ w'.heap.size = w.heap.size ∧ w'.os = w.os ∧ w'.tape = w.tape ∧ w'.output = w.output ∧
        (∀ k, k ≠ b → w'.heap[k]? = w.heap[k]?) ∧ ((∀ u y, Rep w J ρ u y → Rep w' J ρ u y) → Rep w' J ρ v x ∧ ObjRep w' J ρ b s o1))
    (ht : o1.isTr = false := by rfl) : OpT P o nid 0 st ⟨x, [(id, some o1)]⟩ := by
  intro c ρ D J a w hs hD _ K Q hK
  obtain ⟨b, s, hρ, hob, _, hnJ⟩ := hs.obj id o0 ho
  obtain ⟨nx, w', v, hr, hnx, hsz, hos, htp, hout, hoth, hrep⟩ := h c ρ D J a w b s hs hρ hob hnJ
  obtain ⟨h1, h2⟩ := hrep (fun u y hu => hu.mono (J := J) (J' := J) (fun k hk _ => ⟨hk, hoth k (fun e => hnJ (e ▸ hk))⟩) (by omega) (fun _ _ h => h))
  have hpost : Post c nid 0 st ⟨x, [(id, some o1)]⟩ ρ ρ J J w w' v := by
    refine ⟨by omega, hos, htp, hout, ?_, fun _ _ h => h, fun _ _ h => .inl h, fun _ h => h, fun _ h => .inl h, h1, ?_, ?_, fun h => absurd h (trIn_cons ht trIn_nil)⟩
    · intro k hk hne _
      exact hoth k (fun e => hne id o0 s (by simp [Eff.keys]) ho (e ▸ hρ))
    · intro i o' hi
      simp only [look] at hi
      split at hi
      · rename_i e; subst e; cases hi
        exact ⟨b, s, hρ, h2, hnJ, .inr ⟨i, o0, s, by simp [Eff.keys], ho, hρ⟩⟩
      · cases hi
    · intro i i' o1 o2 b s1 s2 h1 h2 _ _
      simp only [look] at h1 h2
      split at h1
      · split at h2
        · omega
        · cases h2
      · cases h1
  rcases hnx with rfl | ⟨rfl, rfl⟩
  · exact wpIn_value hr (hK v w' ρ J hpost)
  · exact wpIn_skipped hr (hK undef w' ρ J hpost)

theorem OpT.regrow {o : Oper} {x : AV} {id : Nat} {o0 o1 : AObj} (ho : st.ob id = some o0)
    (h : ∀ (c : Ctx) (ρ : Rho) (D J : Nat → Prop) (a : Act) (w : World) (b s : Nat), Sim c ρ D J st a w → ρ id = some (b, s) → ObjRep w J ρ b s o0 → ¬ J b →
      ∃ w' v b' s', (execOp a.eval o).run P w = .ok (.value v) w' ∧ w.heap.size ≤ w'.heap.size ∧ w'.os = w.os ∧ w'.tape = w.tape ∧ w'.output = w.output ∧ (b' = b ∨ b' = w.heap.size) ∧
        (∀ k, k < w.heap.size → k ≠ b → w'.heap[k]? = w.heap[k]?) ∧
        ∀ ρ' : Rho, ρ' nid = some (b', s') → (∀ i p, ρ i = some p → ρ' i = some p) → (∀ u y, Rep w J ρ u y → Rep w' J ρ' u y) → Rep w' J ρ' v x ∧ ObjRep w' J ρ' b' s' o1)
    (ht : o1.isTr = false := by rfl) : OpT P o nid 1 st ⟨x, [(nid, some o1), (id, none)]⟩ := by
  intro c ρ D J a w hs hD _ K Q hK
  obtain ⟨b, s, hρ, hob, _, hnJ⟩ := hs.obj id o0 ho
  obtain ⟨w', v, b', s', hr, hsz, hos, htp, hout, hbb, hoth, hrep⟩ := h c ρ D J a w b s hs hρ hob hnJ
  have hn : ρ nid = none := by
    cases hp : ρ nid with
    | none => rfl
    | some p => exact absurd (hs.dom nid p hp) (hD nid (Nat.le_refl _) (by omega))
  have hmono := Rho.add_mono (b := b') (s := s') hn
  have hnew : (ρ.add nid b' s') nid = some (b', s') := by simp [Rho.add]
  obtain ⟨h1, h2⟩ := hrep _ hnew hmono (fun u y hu => hu.mono (J := J) (J' := J) (fun k hk hlt => ⟨hk, hoth k hlt (fun e => hnJ (e ▸ hk))⟩) hsz hmono)
  refine wpIn_value hr ?_
  refine hK v w' (ρ.add nid b' s') J ⟨hsz, hos, htp, hout, ?_, hmono, ?_, fun _ h => h, fun _ h => .inl h, h1, ?_, ?_, fun h => absurd h (trIn_cons ht (trIn_cons_none trIn_nil))⟩
  · intro k hk hne _
    exact hoth k hk (fun e => hne id o0 s (by simp [Eff.keys]) ho (e ▸ hρ))
  · intro i p hi
    unfold Rho.add at hi
    split at hi
    · rename_i e; exact .inr (by omega)
    · exact .inl hi
  · intro i o' hi
    simp only [look] at hi
    split at hi
    · rename_i e; subst e; cases hi
      refine ⟨b', s', hnew, h2, ?_, ?_⟩
      · rcases hbb with rfl | rfl
        · exact hnJ
        · intro hj; have := hs.jlt _ hj; omega
      · rcases hbb with rfl | rfl
        · exact .inr ⟨id, o0, s, by simp [Eff.keys], ho, hρ⟩
        · exact .inl (.inl (Nat.le_refl _))
    · split at hi
      · cases hi
      · cases hi
  · intro i i' o1 o2 b s1 s2 h1 h2 _ _
    simp only [look] at h1 h2
    split at h1
    · split at h2
      · omega
      · split at h2 <;> cases h2
    · split at h1 <;> cases h1

def AV.parts : AV → Option (List AV)
  | .agg cs => some cs
  | .tup _ | .any => none
  | .val v => if v.oneCell' then some [.val v] else none
  | x => some [x]

theorem parts_rep {w : World} {J : Nat → Prop} {ρ : Rho} {v : Value} {x : AV} {cs : List AV} (h : Rep w J ρ v x) (hc : x.parts = some cs) (hs : cs.all AV.scalar = true) :
    v.cells.size = cs.length ∧ ∀ j (hj : j < cs.length), (v.cells.getD j undef).oneCell' = true ∧ Rep w J ρ (v.cells.getD j undef) cs[j] := by
  have one : ∀ {v : Value} {x : AV}, Rep w J ρ v x → x.scalar = true → v.cells = #[v] → cs = [x] → v.cells.size = cs.length ∧ ∀ j (hj : j < cs.length), (v.cells.getD j undef).oneCell' = true ∧ Rep w J ρ (v.cells.getD j undef) cs[j] := by
    intro v x h hx hv hcs
    subst hcs
    rw [hv]
    refine ⟨rfl, fun j hj => ?_⟩
    have : j = 0 := by simpa using hj
    subst this
    exact ⟨h.oneCell hx, h⟩
  cases h with
  | agg vs _ h1 h2 =>
    simp only [AV.parts, Option.some.injEq] at hc
    subst hc
    refine ⟨h1, fun j hj => ⟨(h2 j hj).oneCell ?_, h2 j hj⟩⟩
    exact List.all_eq_true.1 hs _ (List.getElem_mem hj)
  | val v =>
    simp only [AV.parts] at hc
    split at hc
    · rename_i hv
      simp only [Option.some.injEq] at hc
      exact one (.val v) hv (by cases v <;> first | rfl | cases hv) hc.symm
    · cases hc
  | any v => cases hc
  | tup => cases hc
  | inil => simp only [AV.parts, Option.some.injEq] at hc; exact one .inil rfl rfl hc.symm
  | iemp a cap => simp only [AV.parts, Option.some.injEq] at hc; exact one (.iemp a cap) rfl rfl hc.symm
  | isl b off len cap cells u hb hcc h0 h1 h2 => simp only [AV.parts, Option.some.injEq] at hc; exact one (.isl b off len cap cells u hb hcc h0 h1 h2) rfl rfl hc.symm
  | ipt b off k cells u hb h0 h1 h2 => simp only [AV.parts, Option.some.injEq] at hc; exact one (.ipt b off k cells u hb h0 h1 h2) rfl rfl hc.symm
  | sl b s id off len es cap h hcc hs' => simp only [AV.parts, Option.some.injEq] at hc; exact one (.sl b s id off len es cap h hcc hs') rfl rfl hc.symm
  | pt b s id off h => simp only [AV.parts, Option.some.injEq] at hc; exact one (.pt b s id off h) rfl rfl hc.symm
  | mp b s id h => simp only [AV.parts, Option.some.injEq] at hc; exact one (.mp b s id h) rfl rfl hc.symm
  | yl b s id h => simp only [AV.parts, Option.some.injEq] at hc; exact one (.yl b s id h) rfl rfl hc.symm
  | fn f vs cs' h1 h2 => simp only [AV.parts, Option.some.injEq] at hc; exact one (.fn f vs cs' h1 h2) rfl rfl hc.symm

def CRep (w : World) (J : Nat → Prop) (ρ : Rho) (c : Array Value) (cs : List AV) : Prop := cs.length ≤ c.size ∧ (∀ j (h : j < cs.length), (c.getD j undef).oneCell' = true ∧ Rep w J ρ (c.getD j undef) cs[j]) ∧ c.all Value.oneCell' = true

def spl {α : Type} (cs : List α) (off : Nat) (vs : List α) : List α := cs.take off ++ (vs ++ cs.drop (off + vs.length))

theorem spl_one {α : Type} (cs : List α) (off : Nat) (v : α) (h : off < cs.length) : spl cs off [v] = cs.set off v := by
  unfold spl; rw [List.set_eq_take_append_cons_drop, if_pos h]; rfl

theorem CRep.splice {w : World} {J : Nat → Prop} {ρ : Rho} {c : Array Value} {cs avs : List AV} {vs : List Value} {off : Nat} (h : CRep w J ρ c cs) (hl : vs.length = avs.length)
    (hv : ∀ j (hj : j < avs.length), (vs.getD j undef).oneCell' = true ∧ Rep w J ρ (vs.getD j undef) avs[j]) (ho : off ≤ cs.length) (hs : off + vs.length ≤ c.size) :
    CRep w J ρ (c.toList.take off ++ vs ++ c.toList.drop (off + vs.length)).toArray (spl cs off avs) ∧ (c.toList.take off ++ vs ++ c.toList.drop (off + vs.length)).toArray.size = c.size := by
  have hsz : (c.toList.take off ++ vs ++ c.toList.drop (off + vs.length)).toArray.size = c.size := by simp; omega
  have h1 := h.1
  have hall : (c.toList.take off ++ vs ++ c.toList.drop (off + vs.length)).toArray.all Value.oneCell' = true := by
    have hc := h.2.2
    rw [Array.all_eq_true_iff_forall_mem] at hc ⊢
    intro u hu
    simp only [List.mem_toArray, List.mem_append] at hu
    rcases hu with (hu | hu) | hu
    · exact hc u (by simpa using List.mem_of_mem_take hu)
    · obtain ⟨j, hj, rfl⟩ := List.getElem_of_mem hu
      have := (hv j (by omega)).1
      simpa [List.getD_eq_getElem?_getD, hj] using this
    · exact hc u (by simpa using List.mem_of_mem_drop hu)
  refine ⟨⟨by rw [hsz]; simp [spl]; omega, fun j hj => ?_, hall⟩, hsz⟩
  have hj' : j < off + (avs.length + (cs.length - (off + avs.length))) := by
    simp [spl] at hj; omega
  have hto : off ≤ c.toList.length := by simp; omega
  have eA : (c.toList.take off ++ vs ++ c.toList.drop (off + vs.length)).toArray.getD j undef = if j < off then c.getD j undef else if j < off + vs.length then vs.getD (j - off) undef else c.getD j undef := by
    simp only [Array.getD_eq_getD_getElem?, List.getElem?_toArray, List.append_assoc]
    by_cases h1 : j < off
    · rw [if_pos h1, List.getElem?_append_left (by simp; omega), List.getElem?_take_of_lt h1]; simp
    · rw [if_neg h1, List.getElem?_append_right (by simp; omega)]
      simp only [List.length_take, Nat.min_eq_left hto]
      by_cases h2 : j < off + vs.length
      · rw [if_pos h2, List.getElem?_append_left (by omega)]; simp [List.getD_eq_getElem?_getD]
      · rw [if_neg h2, List.getElem?_append_right (by omega), List.getElem?_drop]
        rw [show off + vs.length + (j - off - vs.length) = j by omega]; simp
  have eB : ∀ y, (spl cs off avs)[j]? = some y → (if j < off then cs[j]? else if j < off + avs.length then avs[j - off]? else cs[j]?) = some y := by
    intro y
    unfold spl
    by_cases h1 : j < off
    · rw [if_pos h1, List.getElem?_append_left (by simp; omega), List.getElem?_take_of_lt h1]; exact id
    · rw [if_neg h1, List.getElem?_append_right (by simp; omega)]
      simp only [List.length_take, Nat.min_eq_left ho]
      by_cases h2 : j < off + avs.length
      · rw [if_pos h2, List.getElem?_append_left (by omega)]; exact id
      · rw [if_neg h2, List.getElem?_append_right (by omega), List.getElem?_drop]
        rw [show off + avs.length + (j - off - avs.length) = j by omega]; exact id
  rw [eA]
  have hB := eB _ (List.getElem?_eq_getElem hj)
  generalize (spl cs off avs)[j] = y at hB
  by_cases h1 : j < off
  · rw [if_pos h1] at hB ⊢
    obtain ⟨hlt, rfl⟩ := List.getElem?_eq_some_iff.1 hB
    exact h.2.1 j hlt
  · rw [if_neg h1] at hB ⊢
    rw [← hl] at hB
    by_cases h2 : j < off + vs.length
    · rw [if_pos h2] at hB ⊢
      obtain ⟨hlt, rfl⟩ := List.getElem?_eq_some_iff.1 hB
      exact hv _ hlt
    · rw [if_neg h2] at hB ⊢
      obtain ⟨hlt, rfl⟩ := List.getElem?_eq_some_iff.1 hB
      exact h.2.1 j hlt

theorem CRep.imp {w w' : World} {J : Nat → Prop} {ρ ρ' : Rho} {c : Array Value} {cs : List AV} (h : CRep w J ρ c cs) (hi : ∀ u y, Rep w J ρ u y → Rep w' J ρ' u y) : CRep w' J ρ' c cs :=
  ⟨h.1, fun j hj => ⟨(h.2.1 j hj).1, hi _ _ (h.2.1 j hj).2⟩, h.2.2⟩

def zcells (P : Program) (t : TypeId) : Option (List Value) := ((P.info? t).bind (·.zero)).map (·.cells.toList)

theorem run_zcells {w : World} {t : TypeId} {zs : List Value} (h : zcells P t = some zs) : ∃ z, (zeroValue t).run P w = .ok z w ∧ z.cells = zs.toArray := by
  unfold zcells at h
  cases hi : P.info? t with
  | none => simp [hi] at h
  | some i =>
    cases hz : i.zero with
    | none => simp [hi, hz] at h
    | some z =>
      simp [hi, hz] at h
      exact ⟨z, by simp [zeroValue, typeInfo, hi, hz], by rw [← h]⟩

theorem crep_vals {w : World} {J : Nat → Prop} {ρ : Rho} (vs : List Value) (h : vs.all Value.oneCell' = true) : CRep w J ρ vs.toArray (vs.map ofV) := by
  refine ⟨by simp, fun j hj => ?_, by simpa using h⟩
  have hj' : j < vs.length := by simpa using hj
  have e : vs.toArray.getD j undef = vs[j] := by simp [Array.getD, hj']
  rw [e]
  exact ⟨List.all_eq_true.1 h _ (List.getElem_mem hj'), by simpa using rep_ofV vs[j]⟩

theorem run_newRow {w : World} (e : TypeId) (c : Array Value) : (newRow e c).run P w = .ok ⟨w.heap.size, 0, none⟩ (w.alloc (.cells c e)) := by
  rfl

theorem opT_alloc (e : TypeId) (zs : List Value) (hz : zcells P e = some zs) (h1 : zs.all Value.oneCell' = true) :
    OpT P ⟨dst, .alloc e, ty, pos, af, g⟩ nid 1 st ⟨.pt nid 0, [(nid, some (.cells (zs.map ofV) e))]⟩ := .alloc fun c ρ D J a w h => by
  obtain ⟨z, hr, hc⟩ := run_zcells (w := w) hz
  refine ⟨.pointer (some ⟨w.heap.size, 0, none⟩), w.alloc (.cells zs.toArray e), .cells zs.toArray e, zs.length, ?_, Grew.alloc w _, fun ρ' h1' h2' => ⟨.pt _ _ nid 0 h1', zs.toArray, (Grew.alloc w _).new, rfl, (crep_vals (J := J) (ρ := ρ') zs h1)⟩⟩
  simp [execOp, Instr.alloc, hr, newVar, hc, run_newRow]

theorem opT_box (e : TypeId) (x : Operand) (cs : List AV) (hx : (st.op x).parts = some cs) (hs : cs.all AV.scalar = true) :
    OpT P ⟨dst, .box e x, ty, pos, af, g⟩ nid 1 st ⟨.pt nid 0, [(nid, some (.cells cs e))]⟩ := .alloc fun c ρ D J a w h => by
  obtain ⟨h1, h2⟩ := parts_rep (h.op x) hx hs
  refine ⟨.pointer (some ⟨w.heap.size, 0, none⟩), w.alloc (.cells (a.eval x).cells e), .cells (a.eval x).cells e, cs.length, ?_, Grew.alloc w _, fun ρ' h1' h2' => ⟨.pt _ _ nid 0 h1', (a.eval x).cells, (Grew.alloc w _).new, h1, Nat.le_refl _, fun j hj => ⟨(h2 j hj).1, (h2 j hj).2.grew (Grew.alloc w _) h2'⟩, ?all⟩⟩
  · simp [execOp, Instr.box, newVar, run_newRow]
  · rw [Array.all_eq_true_iff_forall_mem]
    intro u hu
    obtain ⟨j, hj, rfl⟩ := Array.getElem_of_mem hu
    have := (h2 j (by omega)).1
    simpa [Array.getD, hj] using this

theorem opT_store (t : TypeId) (x y : Operand) (id off n : Nat) (cs vs : List AV) (e : TypeId) (hx : st.op x = .pt id off) (ho : st.ob id = some (.cells cs e)) (hy : (st.op y).parts = some vs) (hs : vs.all AV.scalar = true)
    (hz : siz P t = some n) (hn : vs.length = n) (hlt : off + n ≤ cs.length) :
    OpT P ⟨dst, .store t x y, ty, pos, af, g⟩ nid 0 st ⟨.any, [(id, some (.cells (spl cs off vs) e))]⟩ := OpT.modify ho fun c ρ D J a w b s h hρ hob hJ => by
  obtain ⟨arr, ha, hsz, hcr⟩ := hob
  obtain ⟨h1, h2⟩ := parts_rep (h.op y) hy hs
  have hxv := h.op x
  rw [hx] at hxv
  generalize hv : a.eval x = v at hxv
  cases hxv with
  | pt b' s' _ _ hρ' =>
    rw [hρ] at hρ'; cases hρ'
    have hcr' : CRep w J ρ arr cs := ⟨by have := hcr.1; omega, hcr.2⟩
    have hcells : ∀ v ∈ (a.eval y).cells.toList, v.oneCell' = true := by
      intro u hu
      obtain ⟨j, hj, rfl⟩ := List.getElem_of_mem hu
      have hj' : j < vs.length := by rw [← h1]; simpa using hj
      have := (h2 j hj').1
      simpa [Array.getD, h1, hj'] using this
    have hlen : (a.eval y).cells.toList.length = vs.length := by simpa using h1
    have hst := run_storeCells_at P b off e (a.eval y).cells.toList 0 arr w ha (by have := hcr.1; omega) hcells
    simp only [Nat.add_zero] at hst
    have hsp := hcr'.splice (avs := vs) (vs := (a.eval y).cells.toList) (off := off) hlen (fun j hj => by
      have := h2 j hj
      rwa [show (a.eval y).cells.toList.getD j undef = (a.eval y).cells.getD j undef by simp [List.getD_eq_getElem?_getD, Array.getD_eq_getD_getElem?]]) (by omega) (by have := hcr.1; omega)
    refine ⟨.skip, w.setRow b (arr.toList.take off ++ (a.eval y).cells.toList ++ arr.toList.drop (off + (a.eval y).cells.toList.length)).toArray, undef, ?_, .inr ⟨rfl, rfl⟩, ?_, ?_, ?_, ?_, ?_, fun hi => ⟨.any _, _, setRow_heap w b arr _ e _ ha, ?_, ?_, ?_⟩⟩
    · simp only [execOp, hv, Instr.storeAt, Instr.sureAddr, storeVar, Sem.run_bind, Sem.run_pure, Result.andThen_ok, run_siz hz, h1, hn, ne_eq, not_true, if_false]
      rw [hst]; rfl
    · simp
    · rfl
    · rfl
    · rfl
    · intro k hk; exact setRow_other w b k _ hk
    · rw [hsp.2]; exact hsz
    · have := (hsp.1.imp hi).1; rw [hsp.2, hsz] at this; exact this
    · exact (hsp.1.imp hi).2

end
end Go.Sy
/- Sym5. -/
set_option linter.unusedVariables false
set_option linter.unusedSectionVars false
set_option linter.unusedSimpArgs false
namespace Go.Sy

def placesOf (P : Program) (t : TypeId) : Option (List (Nat × Nat)) := match P.underlying t with
  | some (.struct fs) => fs.toList.mapM fun f => (siz P f.type).map fun n => (f.offset, n)
  | _ => none

def VRep (w : World) (J : Nat → Prop) (ρ : Rho) (c : Array Value) (cs : List AV) : Prop := c.size = cs.length ∧ ∀ j (h : j < cs.length), Rep w J ρ (c.getD j undef) cs[j]

theorem VRep.set {w : World} {J : Nat → Prop} {ρ : Rho} {c : Array Value} {cs : List AV} (h : VRep w J ρ c cs) (i : Nat) {v : Value} {x : AV} (hv : Rep w J ρ v x) : VRep w J ρ (c.setIfInBounds i v) (cs.set i x) := by
  refine ⟨by simpa using h.1, fun j hj => ?_⟩
  have hj' : j < cs.length := by simpa using hj
  have hjc : j < c.size := by rw [h.1]; exact hj'
  have := h.2 j hj'
  rw [List.getElem_set]
  by_cases e : i = j
  · subst e; simpa [Array.getD_eq_getD_getElem?, Array.getElem?_setIfInBounds, hjc] using hv
  · rw [if_neg e]; simpa [Array.getD_eq_getD_getElem?, Array.getElem?_setIfInBounds, e] using this

def fillOne (cs : List AV) (off : Nat) : List AV → List AV
  | [] => cs
  | v :: vs => fillOne (cs.set off v) (off + 1) vs

def fillAV (place : Nat → Option (Nat × Nat)) (cells : List AV) : List (Nat × AV) → Option (List AV)
  | [] => some cells
  | (i, x) :: rest =>
    match place i, x.parts with
    | some (off, size), some vs => if vs.length = size ∧ off + size ≤ cells.length ∧ vs.all AV.scalar = true then fillAV place (fillOne cells off vs) rest else none
    | _, _ => none

theorem fillOne_rep {w : World} {J : Nat → Prop} {ρ : Rho} (vs : List AV) : ∀ (us : List Value) (k off : Nat) (c : Array Value) (cs : List AV), VRep w J ρ c cs → us.length = vs.length → (∀ j (hj : j < vs.length), Rep w J ρ (us.getD j undef) vs[j]) →
    VRep w J ρ ((us.zipIdx k).foldl (fun cs (x : Value × Nat) => cs.setIfInBounds (off + x.2) x.1) c) (fillOne cs (off + k) vs) := by
  induction vs with
  | nil => intro us k off c cs h hl _; cases us with | nil => exact h | cons => simp at hl
  | cons v vs ih =>
    intro us k off c cs h hl hr
    cases us with
    | nil => simp at hl
    | cons u us =>
      simp only [List.zipIdx_cons, List.foldl_cons, fillOne]
      have := ih us (k + 1) off (c.setIfInBounds (off + k) u) (cs.set (off + k) v) (h.set _ (by have := hr 0 (by simp); simpa using this)) (by simpa using hl) (fun j hj => by have := hr (j + 1) (by simpa using hj); simpa using this)
      rw [← Nat.add_assoc] at this
      exact this

theorem fill_rep {w : World} {J : Nat → Prop} {ρ : Rho} (place : Nat → Option (Nat × Nat)) (ps : List (Nat × AV)) : ∀ (qs : List (Nat × Value)) (c : Array Value) (cs out : List AV), VRep w J ρ c cs → fillAV place cs ps = some out →
    qs.map (·.1) = ps.map (·.1) → (∀ j (hj : j < ps.length), Rep w J ρ ((qs.map (·.2)).getD j undef) ps[j].2) → ∃ c', Instr.fill place c qs = some c' ∧ VRep w J ρ c' out := by
  induction ps with
  | nil => intro qs c cs out h ho hk _; cases qs with
    | nil => simp only [fillAV, Option.some.injEq] at ho; subst ho; exact ⟨c, rfl, h⟩
    | cons => simp at hk
  | cons p ps ih =>
    intro qs c cs out h ho hk hr
    cases qs with
    | nil => simp at hk
    | cons q qs =>
      obtain ⟨i, x⟩ := p
      obtain ⟨i', v⟩ := q
      simp only [List.map_cons, List.cons.injEq] at hk
      obtain ⟨rfl, hk⟩ := hk
      simp only [fillAV] at ho
      split at ho
      · rename_i off size vs hp hx
        split at ho
        · rename_i hc
          obtain ⟨h1, h2, h3⟩ := hc
          have hv : Rep w J ρ v x := by have := hr 0 (by simp); simpa using this
          obtain ⟨hs, hp'⟩ := parts_rep hv hx h3
          have hsz : v.cells.size = size := by omega
          have hle : ¬ (off + v.cells.size > c.size) := by rw [hsz, h.1]; omega
          have hrep := fillOne_rep (w := w) (J := J) (ρ := ρ) vs v.cells.toList 0 off c cs h (by simpa using hs) (fun j hj => by
            have := (hp' j hj).2
            rwa [show v.cells.toList.getD j undef = v.cells.getD j undef by simp [List.getD_eq_getElem?_getD, Array.getD_eq_getD_getElem?]])
          have hfold : v.cells.zipIdx.foldl (fun cs (x : Value × Nat) => cs.setIfInBounds (off + x.2) x.1) c = (v.cells.toList.zipIdx 0).foldl (fun cs (x : Value × Nat) => cs.setIfInBounds (off + x.2) x.1) c := by
            rw [← Array.foldl_toList, Array.toList_zipIdx]
          rw [← hfold] at hrep
          obtain ⟨c', hf, hv'⟩ := ih qs _ _ out hrep ho hk (fun j hj => by have := hr (j + 1) (by simpa using hj); simpa using this)
          refine ⟨c', ?_, hv'⟩
          simp only [Instr.fill, hp]
          rw [if_neg (by simp [hsz]; rw [← hsz]; omega)]
          exact hf
        · cases ho
      · cases ho

section
variable {P : Program} {dst : Option Nat} {ty : TypeId} {pos : String} {af : Array Edge} {g : Option (Nat × Bool)} {nid : Nat} {st : St}

theorem run_places {w : World} {t : TypeId} {l : List (Nat × Nat)} (h : placesOf P t = some l) : ∃ fs, P.underlying t = some (.struct fs) ∧ ((fs.mapM fun f => do pure (f.offset, ← sizeOf f.type) : Sem (Array (Nat × Nat)))).run P w = .ok l.toArray w := by
  unfold placesOf at h
  split at h
  · rename_i fs hu
    refine ⟨fs, hu, ?_⟩
    rw [Array.mapM_eq_mapM_toList]
    generalize fs.toList = L at h
    have key : ∀ (L : List Field) (l : List (Nat × Nat)), L.mapM (fun f => (siz P f.type).map fun n => (f.offset, n)) = some l → (L.mapM (fun f => Functor.map (Prod.mk f.offset) (sizeOf f.type) : Field → Sem (Nat × Nat))).run P w = .ok l w := by
      intro L
      induction L with
      | nil => intro l h; simp at h; subst h; rfl
      | cons f L ih =>
        intro l h
        simp only [List.mapM_cons, Option.bind_eq_bind, Option.bind_eq_some_iff] at h
        obtain ⟨p, hp, q, hq, he⟩ := h
        cases hs : siz P f.type with
        | none => simp [hs] at hp
        | some n =>
          simp [hs] at hp
          simp at he
          subst hp; subst he
          simp [List.mapM_cons, run_siz hs, ih q hq]
    simp [key L l h]
  · cases h

theorem opT_build (t : TypeId) (ps : Array (Nat × Operand)) (zs : List Value) (pl : List (Nat × Nat)) (out : List AV) (hz : zcells P t = some zs) (hp : placesOf P t = some pl)
    (hf : fillAV (pl[·]?) (zs.map ofV) (ps.toList.map fun p => (p.1, st.op p.2)) = some out) : OpT P ⟨dst, .build t ps, ty, pos, af, g⟩ nid 0 st ⟨.agg out, []⟩ := .pure fun c ρ D J a w h => by
  obtain ⟨z, hr, hc⟩ := run_zcells (w := w) hz
  obtain ⟨fs, hu, hpl⟩ := run_places (w := w) hp
  have h0 : VRep w J ρ z.cells (zs.map ofV) := by
    rw [hc]
    refine ⟨by simp, fun j hj => ?_⟩
    have hj' : j < zs.length := by simpa using hj
    simpa [Array.getD, hj'] using rep_ofV zs[j]
  obtain ⟨c', hfill, hv⟩ := fill_rep (w := w) (J := J) (ρ := ρ) (pl[·]?) (ps.toList.map fun p => (p.1, st.op p.2)) (ps.toList.map fun p => (p.1, a.eval p.2)) z.cells _ out h0 hf (by simp) (fun j hj => by
    have hj' : j < ps.toList.length := by simpa using hj
    have := h.op ps.toList[j].2
    simpa [List.getD_eq_getElem?_getD, List.getElem?_map, List.getElem?_eq_getElem hj'] using this)
  refine ⟨.agg c', ?_, .agg _ _ hv.1 hv.2⟩
  simp only [execOp, Instr.build, Sem.run_bind, hr, Result.andThen_ok, run_underlying hu, hpl]
  have e1 : (Array.map (fun x => (x.1, a.eval x.2)) ps).toList = List.map (fun p => (p.1, a.eval p.2)) ps.toList := by simp
  have e2 : (fun x : Nat => pl.toArray[x]?) = (fun x : Nat => pl[x]?) := by funext x; simp
  simp [e1, e2, hfill]

def zrow (zs : List Value) (n : Nat) : List AV := (List.replicate n (zs.map ofV)).flatten

theorem zrow_length (zs : List Value) (n : Nat) : (zrow zs n).length = n * zs.length := by simp [zrow]

theorem flatten_get {α : Type} (l : List α) (n : Nat) : ∀ j, j < n * l.length → ((List.replicate n l).flatten)[j]? = l[j % l.length]? := by
  induction n with
  | zero => intro j hj; simp at hj
  | succ n ih =>
    intro j hj
    rw [List.replicate_succ, List.flatten_cons]
    by_cases h : j < l.length
    · rw [List.getElem?_append_left h, Nat.mod_eq_of_lt h]
    · rw [List.getElem?_append_right (by omega), ih (j - l.length) (by rw [Nat.add_mul, Nat.one_mul] at hj; omega)]
      rw [Nat.mod_eq_sub_mod (a := j) (by omega)]

theorem crep_made {w : World} {J : Nat → Prop} {ρ : Rho} {z : Array Value} {zs : List Value} (hz : z = zs.toArray) (h1 : zs.all Value.oneCell' = true) (n : Nat) : CRep w J ρ (madeCells z (n * zs.length)) (zrow zs n) := by
  subst hz
  have hall : (madeCells zs.toArray (n * zs.length)).all Value.oneCell' = true := by
    rw [Array.all_eq_true_iff_forall_mem]
    intro u hu
    obtain ⟨j, hj, rfl⟩ := Array.getElem_of_mem hu
    rw [size_madeCells] at hj
    have hpos : 0 < zs.length := by
      rcases Nat.eq_zero_or_pos zs.length with h | h
      · rw [h] at hj; simp at hj
      · exact h
    have hm : j % zs.length < zs.length := Nat.mod_lt _ hpos
    have := List.all_eq_true.1 h1 _ (List.getElem_mem hm)
    simpa [madeCells, hm] using this
  refine ⟨by rw [zrow_length, size_madeCells]; exact Nat.le_refl _, fun j hj => ?_, hall⟩
  rw [zrow_length] at hj
  have hpos : 0 < zs.length := by
    rcases Nat.eq_zero_or_pos zs.length with h | h
    · rw [h] at hj; simp at hj
    · exact h
  have hm : j % zs.length < zs.length := Nat.mod_lt _ hpos
  have e : (madeCells zs.toArray (n * zs.length)).getD j undef = zs[j % zs.length] := by
    simp [madeCells, Array.getD_eq_getD_getElem?, hj, hm]
  have e2 : (zrow zs n)[j]? = some (ofV zs[j % zs.length]) := by
    unfold zrow
    rw [flatten_get _ _ _ (by simpa using hj)]
    simp [hm]
  rw [e]
  refine ⟨List.all_eq_true.1 h1 _ (List.getElem_mem hm), ?_⟩
  obtain ⟨_, e3⟩ := List.getElem?_eq_some_iff.1 e2
  rw [e3]
  exact rep_ofV _

theorem info_all {e : TypeId} {es : Nat} {zs : List Value} (h1 : siz P e = some es) (h2 : zcells P e = some zs) : ∃ i z, P.info? e = some i ∧ i.size = es ∧ i.zero = some z ∧ z.cells = zs.toArray := by
  unfold siz at h1; unfold zcells at h2
  cases hi : P.info? e with
  | none => simp [hi] at h1
  | some i =>
    simp [hi] at h1 h2
    obtain ⟨z, hz, rfl⟩ := h2
    exact ⟨i, z, rfl, h1, hz, by simp⟩

theorem opT_makeSlice (t : TypeId) (l c' : Operand) (e : TypeId) (es by' : Nat) (zs : List Value) (kl kc : IntKind) (n : Int) (he : elemOf P t = some e) (hs : siz P e = some es) (hzs : zcells P e = some zs) (hzl : zs.length = es) (h1 : zs.all Value.oneCell' = true)
    (hb : byt P e = some by') (hl : st.op l = .val (.int kl n)) (hc : st.op c' = .val (.int kc n)) (h0 : 0 ≤ n) (hn : n ≤ 9223372036854775807) (hbytes : (by' : Int) * n ≤ 281474976710656) :
    OpT P ⟨dst, .makeSlice t l c', ty, pos, af, g⟩ nid 1 st ⟨.sl nid 0 n.toNat es, [(nid, some (.cells (zrow zs n.toNat) e))]⟩ := .alloc fun c ρ D J a w h => by
  have e1 := h.op l; have e2 := h.op c'
  rw [hl] at e1; rw [hc] at e2
  have e1 := rep_val_inv e1; have e2 := rep_val_inv e2
  obtain ⟨i, z, hi, his, hz, hzc⟩ := info_all hs hzs
  have hb' : i.bytes = by' := by unfold byt at hb; simpa [hi] using hb
  have hr := run_make (P := P) w t e i z (run_elemOf he) hi hz kl kc n n h0 (Int.le_refl _) (by rw [hb']; exact hbytes) hn
  have hcr := fun ρ' : Rho => crep_made (w := w.alloc (.cells (madeCells z.cells (n.toNat * i.size)) e)) (J := J) (ρ := ρ') hzc h1 n.toNat
  refine ⟨.slice (some ⟨w.heap.size, 0, none⟩) n.toNat n.toNat, _, _, n.toNat * es, ?_, Grew.alloc w (.cells (madeCells z.cells (n.toNat * i.size)) e), fun ρ' h1' h2' => ⟨.sl _ _ nid 0 n.toNat es n.toNat h1' (Nat.le_refl _) (by omega), madeCells z.cells (n.toNat * i.size), (Grew.alloc w _).new, ?_, ?_, ?_⟩⟩
  · simp [execOp, e1, e2, hr]
  · rw [size_madeCells, his]
  · have := (hcr ρ').1; rw [size_madeCells, hzl] at this; exact this
  · rw [his, ← hzl]
    have := (hcr ρ').2
    rw [his, ← hzl] at this
    exact this

theorem opT_buildSlice (t : TypeId) (len : Nat) (ps : Array (Nat × Operand)) (e : TypeId) (es : Nat) (zs : List Value) (out : List AV) (he : elemOf P t = some e) (hs : siz P e = some es) (hzs : zcells P e = some zs) (hzl : zs.length = es) (h1 : zs.all Value.oneCell' = true)
    (hsmall : len * es ≤ 16777216) (hf : fillAV (fun i => some (i * es, es)) (zrow zs len) (ps.toList.map fun p => (p.1, st.op p.2)) = some out) (hout : out.all AV.scalar = true) (hol : out.length = len * es) :
    OpT P ⟨dst, .buildSlice t len ps, ty, pos, af, g⟩ nid 1 st ⟨.sl nid 0 len es, [(nid, some (.cells out e))]⟩ := .alloc fun c ρ D J a w h => by
  obtain ⟨i, z, hi, his, hz, hzc⟩ := info_all hs hzs
  have hcr := crep_made (w := w) (J := J) (ρ := ρ) hzc h1 len
  have h0 : VRep w J ρ (madeCells z.cells (len * es)) (zrow zs len) := ⟨by rw [size_madeCells, zrow_length, hzl], fun j hj => by have := (hcr.2.1 j hj).2; rwa [hzl] at this⟩
  obtain ⟨c', hfill, hv⟩ := fill_rep (w := w) (J := J) (ρ := ρ) _ (ps.toList.map fun p => (p.1, st.op p.2)) (ps.toList.map fun p => (p.1, a.eval p.2)) _ _ out h0 hf (by simp) (fun j hj => by
    have hj' : j < ps.toList.length := by simpa using hj
    have := h.op ps.toList[j].2
    simpa [List.getD_eq_getElem?_getD, List.getElem?_map, List.getElem?_eq_getElem hj'] using this)
  refine ⟨.slice (some ⟨w.heap.size, 0, none⟩) len len, w.alloc (.cells c' e), .cells c' e, len * es, ?_, Grew.alloc w _, fun ρ' h1' h2' => ⟨.sl _ _ nid 0 len es len h1' (Nat.le_refl _) (by omega), c', (Grew.alloc w _).new, by rw [hv.1, hol], by rw [hol]; exact Nat.le_refl _, fun j hj => ?_, ?all⟩⟩
  · have hsm : ¬ (len * es > 2 ^ 24) := by omega
    have e1 : (Array.map (fun x => (x.1, a.eval x.2)) ps).toList = List.map (fun p => (p.1, a.eval p.2)) ps.toList := by simp
    have hzv : (zeroValue e).run P w = .ok z w := by simp [zeroValue, typeInfo, hi, hz]
    simp only [execOp, Instr.buildSlice, Sem.run_bind, run_underlying (run_elemOf he), Result.andThen_ok, run_siz hs, if_neg hsm, Sem.run_pure, e1]
    by_cases h00 : len * es = 0
    · have hm : (Array.range (len * es)).map (fun x => (#[] : Array Value)[x % (#[] : Array Value).size]!) = madeCells z.cells (len * es) := by
        unfold madeCells; rw [h00]; simp
      rw [if_pos h00]
      simp only [Sem.run_bind, Sem.run_pure, Result.andThen_ok, hm, hfill, run_newRow]
    · rw [if_neg h00]
      have hm : (Array.range (len * es)).map (fun x => z.cells[x % z.cells.size]!) = madeCells z.cells (len * es) := rfl
      simp only [Sem.run_bind, hzv, Sem.run_pure, Result.andThen_ok, hm, hfill, run_newRow]
  · have := hv.2 j hj
    have hsc := List.all_eq_true.1 hout _ (List.getElem_mem hj)
    exact ⟨this.oneCell hsc, this.grew (Grew.alloc w _) h2'⟩
  · rw [Array.all_eq_true_iff_forall_mem]
    intro u hu
    obtain ⟨j, hj, rfl⟩ := Array.getElem_of_mem hu
    have hj' : j < out.length := by rw [← hv.1]; exact hj
    have := hv.2 j hj'
    have hsc := List.all_eq_true.1 hout _ (List.getElem_mem hj')
    have := this.oneCell hsc
    simpa [Array.getD, hj] using this

end
end Go.Sy
/- Sym6. -/
set_option linter.unusedVariables false
set_option linter.unusedSectionVars false
set_option linter.unusedSimpArgs false
namespace Go.Sy

def intAV : AV → Option Int
  | .val (.int _ n) => some n
  | _ => none
def boundAV (st : St) (d : Nat) : Option Operand → Option Int
  | none => some d
  | some x => intAV (st.op x)

section
variable {P : Program} {dst : Option Nat} {ty : TypeId} {pos : String} {af : Array Edge} {g : Option (Nat × Bool)} {nid : Nat} {st : St}

theorem run_bounds {c : Ctx} {ρ : Rho} {D J : Nat → Prop} {a : Act} {w : World} (h : Sim c ρ D J st a w) (sl : Bool) (len cap : Nat) (lo hi : Option Operand) (l u : Int) (hl : boundAV st 0 lo = some l) (hu : boundAV st len hi = some u)
    (h1 : 0 ≤ l) (h2 : l ≤ u) (h3 : u ≤ cap) : (Instr.sliceBounds sl len cap (lo.map a.eval) (hi.map a.eval) none).run P w = .ok (l.toNat, u.toNat, cap) w := by
  have hv : ∀ x : Operand, ∀ n : Int, boundAV st len (some x) = some n → ∃ k, a.eval x = .int k n := by
    intro x n hx
    have hr := h.op x
    simp only [boundAV] at hx
    unfold intAV at hx
    split at hx
    · rename_i k m hm; cases hx; rw [hm] at hr; exact ⟨k, rep_val_inv hr⟩
    · cases hx
  have hv0 : ∀ x : Operand, ∀ n : Int, boundAV st 0 (some x) = some n → ∃ k, a.eval x = .int k n := fun x n hx => hv x n hx
  cases lo with
  | none =>
    simp [boundAV] at hl
    subst hl
    cases hi with
    | none => simp [boundAV] at hu; subst hu; simp [Instr.sliceBounds]
    | some y =>
      obtain ⟨k, hk⟩ := hv y u hu
      simp [Instr.sliceBounds, Instr.sliceBound, hk, asIntOf, show 0 ≤ u by omega, h3]
  | some x =>
    obtain ⟨k, hk⟩ := hv0 x l hl
    cases hi with
    | none => simp [boundAV] at hu; subst hu; simp [Instr.sliceBounds, Instr.sliceBound, hk, asIntOf, h1, h2]
    | some y =>
      obtain ⟨k', hk'⟩ := hv y u hu
      obtain ⟨n, rfl⟩ : ∃ n : Nat, u = n := ⟨u.toNat, by omega⟩
      have h3' : n ≤ cap := by omega
      simp [Instr.sliceBounds, Instr.sliceBound, hk, hk', asIntOf, h1, h2, h3']

theorem opT_slice_str (t : TypeId) (x : Operand) (lo hi : Option Operand) (s : ByteArray) (l u : Int) (ht : isStrB P t = true) (hx : st.op x = .val (.string s)) (hl : boundAV st 0 lo = some l) (hu : boundAV st s.size hi = some u)
    (h1 : 0 ≤ l) (h2 : l ≤ u) (h3 : u ≤ s.size) : OpT P ⟨dst, .slice t x lo hi none, ty, pos, af, g⟩ nid 0 st ⟨.val (.string (s.extract l.toNat u.toNat)), []⟩ := .pure fun c ρ D J a w h => by
  have e := h.op x; rw [hx] at e
  have e := rep_val_inv e
  have hb := run_bounds (P := P) h false s.size s.size lo hi l u hl hu h1 h2 h3
  have hty := run_isStrB ht
  refine ⟨.string (s.extract l.toNat u.toNat), ?_, .val _⟩
  simp only [execOp, e, Instr.sliceAt, Sem.run_bind, run_underlying hty, Result.andThen_ok, Instr.slice, Option.map_none, Option.isSome_none, Bool.false_eq_true, if_false, hb, Sem.run_pure]

theorem opT_slice_isl (t e : TypeId) (x : Operand) (lo hi : Option Operand) (z : Bool) (cells : List AV) (len es : Nat) (l u : Int) (ht : elemOf P t = some e) (hs : siz P e = some es) (hx : st.op x = .isl z cells len) (hl : boundAV st 0 lo = some l) (hu : boundAV st len hi = some u)
    (h1 : 0 ≤ l) (h2 : l ≤ u) (h3 : u ≤ len) :
    OpT P ⟨dst, .slice t x lo hi none, ty, pos, af, g⟩ nid 0 st ⟨.isl z ((cells.drop (l.toNat * es)).take ((u.toNat - l.toNat) * es)) (u.toNat - l.toNat), []⟩ := .pure fun c ρ D J a w h => by
  have hr := h.op x; rw [hx] at hr
  have hty := run_elemOf ht
  generalize hv : a.eval x = v at hr
  cases hr with
  | inil =>
    have hl0 : l = 0 := by have : u ≤ ((0 : Nat) : Int) := h3; omega
    have hu0 : u = 0 := by have : u ≤ ((0 : Nat) : Int) := h3; omega
    subst hl0; subst hu0
    have hb := run_bounds (P := P) h true 0 0 lo hi 0 0 hl hu h1 h2 h3
    refine ⟨.slice none 0 0, ?_, by simpa using Rep.inil⟩
    simp only [execOp, hv, Instr.sliceAt, Sem.run_bind, run_underlying hty, Result.andThen_ok, Instr.slice, Option.map_none, hb, Sem.run_pure, run_siz hs]
    rfl
  | iemp ad cap =>
    have hl0 : l = 0 := by have : u ≤ ((0 : Nat) : Int) := h3; omega
    have hu0 : u = 0 := by have : u ≤ ((0 : Nat) : Int) := h3; omega
    subst hl0; subst hu0
    have hb := run_bounds (P := P) h true 0 cap lo hi 0 0 hl hu h1 h2 (by omega)
    have e1 : ([].drop ((0 : Int).toNat * es)).take (((0 : Int).toNat - (0 : Int).toNat) * es) = ([] : List AV) := by simp
    rw [e1]
    by_cases hcl : cap = (0 : Int).toNat
    · refine ⟨.slice (some ad) 0 (cap - (0 : Int).toNat), ?_, .iemp _ _⟩
      simp only [execOp, hv, Instr.sliceAt, Sem.run_bind, run_underlying hty, Result.andThen_ok, Instr.slice, Option.map_none, hb, Sem.run_pure, run_siz hs, if_pos hcl]
      rfl
    · refine ⟨.slice (some (ad.add ((0 : Int).toNat * es))) 0 (cap - (0 : Int).toNat), ?_, .iemp _ _⟩
      simp only [execOp, hv, Instr.sliceAt, Sem.run_bind, run_underlying hty, Result.andThen_ok, Instr.slice, Option.map_none, hb, Sem.run_pure, run_siz hs, if_neg hcl, Option.map_some]
      rfl
  | isl b off _ cap _ f hb0 hc h0 h1' h2' =>
    have hb := run_bounds (P := P) h true len cap lo hi l u hl hu h1 h2 (by omega)
    have hlen : ((cells.drop (l.toNat * es)).take ((u.toNat - l.toNat) * es)).length ≤ cells.length - l.toNat * es := by simp; omega
    have hget : ∀ j (hj : j < ((cells.drop (l.toNat * es)).take ((u.toNat - l.toNat) * es)).length), ((cells.drop (l.toNat * es)).take ((u.toNat - l.toNat) * es))[j] = cells[l.toNat * es + j]'(by omega) := by
      intro j hj; simp
    by_cases hcl : cap = l.toNat
    · have hul : u.toNat - l.toNat = 0 := by omega
      refine ⟨.slice (some ⟨b, off, none⟩) (u.toNat - l.toNat) (cap - l.toNat), ?_, ?_⟩
      · simp only [execOp, hv, Instr.sliceAt, Sem.run_bind, run_underlying hty, Result.andThen_ok, Instr.slice, Option.map_none, hb, Sem.run_pure, run_siz hs, if_pos hcl]
      · rw [hul]
        exact .isl b off 0 _ _ f (fun hne => absurd (by simp) hne) (by omega) (fun j hj => by simp at hj) (fun j hj => by simp at hj) (fun j hj => by simp at hj)
    · refine ⟨.slice (some ⟨b, off + l.toNat * es, none⟩) (u.toNat - l.toNat) (cap - l.toNat), ?_, ?_⟩
      · simp only [execOp, hv, Instr.sliceAt, Sem.run_bind, run_underlying hty, Result.andThen_ok, Instr.slice, Option.map_none, hb, Sem.run_pure, run_siz hs, if_neg hcl, Option.map_some, Addr.add_lit]
      · refine .isl b (off + l.toNat * es) _ _ _ (fun j => f (l.toNat * es + j)) (fun hne => hb0 (fun e => hne (by rw [e]; simp))) (by omega) (fun j hj => h0 _ (by omega)) (fun j hj => ?_) (fun j hj => ?_)
        · rw [Nat.add_assoc]; exact h1' _ (by omega)
        · rw [hget j hj]; exact h2' _ (by omega)

theorem opT_slice_sl (t e : TypeId) (x : Operand) (lo hi : Option Operand) (id off len es : Nat) (l u : Int) (ht : elemOf P t = some e) (hs : siz P e = some es) (hx : st.op x = .sl id off len es) (hl : boundAV st 0 lo = some l) (hu : boundAV st len hi = some u)
    (h1 : 0 ≤ l) (h2 : l ≤ u) (h3 : u ≤ len) (h4 : l < len ∨ l = 0) :
    OpT P ⟨dst, .slice t x lo hi none, ty, pos, af, g⟩ nid 0 st ⟨.sl id (off + l.toNat * es) (u.toNat - l.toNat) es, []⟩ := .pure fun c ρ D J a w h => by
  have hr := h.op x; rw [hx] at hr
  have hty := run_elemOf ht
  generalize hv : a.eval x = v at hr
  cases hr with
  | sl b s _ _ _ _ cap hρ hc hsz =>
    have hb := run_bounds (P := P) h true len cap lo hi l u hl hu h1 h2 (by omega)
    refine ⟨.slice (some ⟨b, off + l.toNat * es, none⟩) (u.toNat - l.toNat) (cap - l.toNat), ?_, .sl b s id _ _ es (cap - l.toNat) hρ (by omega) ?_⟩
    · simp only [execOp, hv, Instr.sliceAt, Sem.run_bind, run_underlying hty, Result.andThen_ok, Instr.slice, Option.map_none, hb, Sem.run_pure, run_siz hs]
      by_cases hcl : cap = l.toNat
      · have : l.toNat = 0 := by omega
        rw [if_pos hcl, this]; simp
      · rw [if_neg hcl]; simp [Addr.add_lit]
    · rw [Nat.add_assoc, ← Nat.add_mul, show l.toNat + (cap - l.toNat) = cap by omega]; exact hsz

theorem opT_slice_end (t e : TypeId) (x : Operand) (lo hi : Option Operand) (id off len es : Nat) (l u : Int) (ht : elemOf P t = some e) (hs : siz P e = some es) (hx : st.op x = .sl id off len es) (hl : boundAV st 0 lo = some l) (hu : boundAV st len hi = some u)
    (h1 : 0 ≤ l) (h2 : l = u) (h3 : u ≤ len) :
    OpT P ⟨dst, .slice t x lo hi none, ty, pos, af, g⟩ nid 0 st ⟨.isl false [] 0, []⟩ := .pure fun c ρ D J a w h => by
  have hr := h.op x; rw [hx] at hr
  have hty := run_elemOf ht
  subst h2
  generalize hv : a.eval x = v at hr
  cases hr with
  | sl b s _ _ _ _ cap hρ hc hsz =>
    have hb := run_bounds (P := P) h true len cap lo hi l l hl hu h1 (Int.le_refl _) (by omega)
    refine ⟨.slice (some (if cap = l.toNat then ⟨b, off, none⟩ else ⟨b, off + l.toNat * es, none⟩)) 0 (cap - l.toNat), ?_, ?_⟩
    · simp only [execOp, hv, Instr.sliceAt, Sem.run_bind, run_underlying hty, Result.andThen_ok, Instr.slice, Option.map_none, hb, Sem.run_pure, run_siz hs]
      by_cases hcl : cap = l.toNat
      · simp [hcl]
      · simp [hcl, Addr.add_lit]
    · split <;> exact .isl b _ 0 _ [] (fun _ => undef) (fun hne => absurd rfl hne) (by omega) (fun j hj => by simp at hj) (fun j hj => by simp at hj) (fun j hj => by simp at hj)

theorem ObjRep.unfull {w : World} {J : Nat → Prop} {ρ : Rho} {b s : Nat} {cs : List AV} {e : TypeId} (h : ObjRep w J ρ b s (.full cs e)) : ObjRep w J ρ b s (.cells cs e) := by
  obtain ⟨c, hc, h1, h2, h3, h4⟩ := h
  exact ⟨c, hc, h1, by omega, h3, h4⟩

def srcOb (off m es : Nat) : Option AObj → Option (List AV × Nat)
  | some (.cells cs _) => some ((cs.drop off).take (m * es), m)
  | some (.full cs _) => some ((cs.drop off).take (m * es), m)
  | _ => none
def srcOf (st : St) : AV → Option (List AV × Nat)
  | .isl _ cells m => some (cells, m)
  | .sl id off m es => srcOb off m es (st.ob id)
  | _ => none

theorem src_rep {c : Ctx} {ρ : Rho} {D J : Nat → Prop} {a : Act} {w : World} (h : Sim c ρ D J st a w) {x : AV} {v : Value} (hr : Rep w J ρ v x) {cells : List AV} {m es : Nat} (hs : srcOf st x = some (cells, m)) (hl : cells.length = m * es) :
    (v = .slice none 0 0 ∧ m = 0 ∧ cells = []) ∨ ∃ (ad : Addr) (cp : Nat) (news : List Value), v = .slice (some ad) m cp ∧ m ≤ cp ∧ news.length = m * es ∧ (∀ j u, news[j]? = some u → w.cell? (ad.add j) = some u) ∧ (∀ u ∈ news, Value.oneCell' u = true) ∧
      ∀ j (hj : j < cells.length), Rep w J ρ (news.getD j undef) cells[j] := by
  have mk : ∀ (b off : Nat) (f : Nat → Value), (∀ j, j < cells.length → w.cell? ⟨b, off + j, none⟩ = some (f j) ∧ (f j).oneCell' = true) → (∀ j (hj : j < cells.length), Rep w J ρ (f j) cells[j]) →
      ∃ news : List Value, news.length = m * es ∧ (∀ j u, news[j]? = some u → w.cell? ((⟨b, off, none⟩ : Addr).add j) = some u) ∧ (∀ u ∈ news, Value.oneCell' u = true) ∧ ∀ j (hj : j < cells.length), Rep w J ρ (news.getD j undef) cells[j] := by
    intro b off f h1 h2
    refine ⟨(List.range cells.length).map f, by simp [hl], fun j u hu => ?_, fun u hu => ?_, fun j hj => ?_⟩
    · obtain ⟨hj, rfl⟩ := List.getElem?_eq_some_iff.1 hu
      have hj' : j < cells.length := by simpa using hj
      rw [Addr.add_lit]; simpa using (h1 j hj').1
    · simp at hu; obtain ⟨j, hj, rfl⟩ := hu; exact (h1 j hj).2
    · have : ((List.range cells.length).map f).getD j undef = f j := by simp [List.getD_eq_getElem?_getD, hj]
      rw [this]; exact h2 j hj
  cases hr with
  | inil => simp [srcOf] at hs; exact .inl ⟨rfl, hs.2.symm, hs.1⟩
  | iemp ad cap =>
    simp only [srcOf, Option.some.injEq, Prod.mk.injEq] at hs
    obtain ⟨rfl, rfl⟩ := hs
    exact .inr ⟨ad, cap, [], rfl, Nat.zero_le _, by simp, by simp, by simp, by simp⟩
  | isl b off len cap cs f hb hc h0 h1 h2 =>
    simp only [srcOf, Option.some.injEq, Prod.mk.injEq] at hs
    obtain ⟨rfl, rfl⟩ := hs
    obtain ⟨news, k1, k2, k3, k4⟩ := mk b off f (fun j hj => ⟨h1 j hj, h0 j hj⟩) (fun j hj => (h2 j hj).up)
    exact .inr ⟨_, cap, news, rfl, hc, k1, k2, k3, k4⟩
  | sl b s id off len es' cap hρ hc hsz =>
    simp only [srcOf] at hs
    unfold srcOb at hs
    split at hs
    · rename_i cs e ho
      simp only [Option.some.injEq, Prod.mk.injEq] at hs
      obtain ⟨rfl, rfl⟩ := hs
      obtain ⟨b', s', hρ', hob, _⟩ := h.obj id _ ho
      rw [hρ] at hρ'; cases hρ'
      obtain ⟨f, hf⟩ := cell_obj hob
      obtain ⟨news, k1, k2, k3, k4⟩ := mk b off (fun j => f (off + j)) (fun j hj => by
        have := hf (off + j) (by simp at hj; omega); exact ⟨this.1, this.2.1⟩) (fun j hj => by
        have := hf (off + j) (by simp at hj; omega); simpa using this.2.2)
      exact .inr ⟨_, cap, news, rfl, hc, k1, k2, k3, k4⟩
    · rename_i cs e ho
      simp only [Option.some.injEq, Prod.mk.injEq] at hs
      obtain ⟨rfl, rfl⟩ := hs
      obtain ⟨b', s', hρ', hob, _⟩ := h.obj id _ ho
      rw [hρ] at hρ'; cases hρ'
      obtain ⟨f, hf⟩ := cell_obj hob.unfull
      obtain ⟨news, k1, k2, k3, k4⟩ := mk b off (fun j => f (off + j)) (fun j hj => by
        have := hf (off + j) (by simp at hj; omega); exact ⟨this.1, this.2.1⟩) (fun j hj => by
        have := hf (off + j) (by simp at hj; omega); simpa using this.2.2)
      exact .inr ⟨_, cap, news, rfl, hc, k1, k2, k3, k4⟩
    · cases hs
  | val v => simp [srcOf] at hs
  | any v => simp [srcOf] at hs
  | ipt => simp [srcOf] at hs
  | pt => simp [srcOf] at hs
  | mp => simp [srcOf] at hs
  | yl => simp [srcOf] at hs
  | agg => simp [srcOf] at hs
  | tup => simp [srcOf] at hs
  | fn => simp [srcOf] at hs

theorem zeros_one {zs : List Value} (h1 : zs.all Value.oneCell' = true) {z : Array Value} (hz : z = zs.toArray) (n : Nat) : (Builtin.zeroCells z n).all Value.oneCell' = true := by
  subst hz
  rw [Array.all_eq_true_iff_forall_mem]
  intro u hu
  obtain ⟨j, hj, rfl⟩ := Array.getElem_of_mem hu
  rw [size_zeroCells] at hj
  have hpos : 0 < zs.length := by
    rcases Nat.eq_zero_or_pos zs.length with h | h
    · simp [h] at hj
    · exact h
  have hm : j % zs.length < zs.length := Nat.mod_lt _ hpos
  have := List.all_eq_true.1 h1 _ (List.getElem_mem hm)
  simpa [Builtin.zeroCells, hm] using this

theorem crep_front {w : World} {J : Nat → Prop} {ρ : Rho} {vs : List Value} {avs : List AV} (extra : Array Value) (hx : extra.all Value.oneCell' = true) (hl : vs.length = avs.length) (h1 : ∀ u ∈ vs, Value.oneCell' u = true) (h2 : ∀ j (hj : j < avs.length), Rep w J ρ (vs.getD j undef) avs[j]) :
    CRep w J ρ (vs.toArray ++ extra) avs := by
  have hall : (vs.toArray ++ extra).all Value.oneCell' = true := by
    rw [Array.all_eq_true_iff_forall_mem] at hx ⊢
    intro u hu
    rcases Array.mem_append.1 hu with hu | hu
    · exact h1 u (by simpa using hu)
    · exact hx u hu
  refine ⟨by simp; omega, fun j hj => ?_, hall⟩
  have hj' : j < vs.length := by omega
  have e : (vs.toArray ++ extra).getD j undef = vs.getD j undef := by
    simp [Array.getD_eq_getD_getElem?, List.getD_eq_getElem?_getD, Array.getElem?_append, hj']
  rw [e]
  refine ⟨?_, h2 j hj⟩
  have : vs.getD j undef = vs[j] := by simp [List.getD_eq_getElem?_getD, hj']
  rw [this]; exact h1 _ (List.getElem_mem hj')

theorem opT_append_nil (t : TypeId) (x y : Operand) (e : TypeId) (es by' m : Nat) (zs : List Value) (cells : List AV) (he : elemOf P t = some e) (hs : siz P e = some es) (hzs : zcells P e = some zs) (hzl : zs.length = es) (hz1 : zs.all Value.oneCell' = true) (hb : byt P e = some by')
    (hx : st.op x = .isl true [] 0) (hy : srcOf st (st.op y) = some (cells, m)) (hl : cells.length = m * es) (hm : 0 < m) (hbytes : m * by' ≤ 140737488355328) (hm63 : m ≤ 9223372036854775807) :
    OpT P ⟨dst, .call ⟨.builtin .append, #[x, y], #[t, t]⟩, ty, pos, af, g⟩ nid 1 st ⟨.sl nid 0 m es, [(nid, some (.cells cells e))]⟩ := .alloc fun c ρ D J a w h => by
  have e1 := h.op x; rw [hx] at e1
  obtain ⟨i, z, hi, his, hz, hzc⟩ := info_all hs hzs
  have hb' : i.bytes = by' := by unfold byt at hb; simpa [hi] using hb
  generalize hv : a.eval x = v at e1
  rcases src_rep h (h.op y) hy hl with ⟨_, h0, _⟩ | ⟨ad, cp, news, hyv, hmc, hnl, hnews, hone, hrep⟩
  · omega
  have hv0 : v = .slice none 0 0 := by
    generalize hxx : AV.isl true [] 0 = xx at e1
    cases e1 <;> simp at hxx
    rfl
  subst hv0
  have hr := run_append_nil (P := P) w t ty e i z (run_elemOf he) hi hz ad m cp news (by rw [his]; exact hnl) hnews hm (by omega) (by rw [hb']; omega)
  have hge := grownCap_ge w m 0 e
  obtain ⟨A, hA⟩ : ∃ A, A = news.toArray ++ Builtin.zeroCells z.cells (grownCap w m 0 e - m) := ⟨_, rfl⟩
  rw [← hA] at hr
  refine ⟨.slice (some ⟨w.heap.size, 0, none⟩) m (grownCap w m 0 e), w.drew.alloc (.cells A e), .cells A e, grownCap w m 0 e * es, ?_, Grew.drew w _, fun ρ' h1' h2' => ⟨.sl _ _ nid 0 m es _ h1' hge (by omega), A, (Grew.drew w _).new, ?_, ?_, ?_⟩⟩
  · simp [execOp, resolve, invoke, builtin, hv, hyv, hr]
  · rw [hA]
    simp only [Array.size_append, List.size_toArray, size_zeroCells, hnl, hzc, hzl, ← Nat.add_mul]
    congr 1; omega
  · rw [hl]; exact Nat.mul_le_mul_right _ hge
  · rw [hA] at *
    exact (crep_front (J := J) (ρ := ρ') _ (zeros_one hz1 hzc _) (by omega) hone (fun j hj => (hrep j hj).grew (Grew.drew w _) h2')).2

theorem opT_append_own (t : TypeId) (x y : Operand) (e : TypeId) (id n es by' m : Nat) (zs : List Value) (cs cells : List AV) (he : elemOf P t = some e) (hs : siz P e = some es) (hzs : zcells P e = some zs) (hzl : zs.length = es) (hz1 : zs.all Value.oneCell' = true) (hb : byt P e = some by')
    (hx : st.op x = .sl id 0 n es) (ho : st.ob id = some (.cells cs e)) (hcs : cs.length = n * es) (hy : srcOf st (st.op y) = some (cells, m)) (hl : cells.length = m * es) (hbytes : (n + m) * by' ≤ 140737488355328) (hm63 : n + m ≤ 9223372036854775807) :
    OpT P ⟨dst, .call ⟨.builtin .append, #[x, y], #[t, t]⟩, ty, pos, af, g⟩ nid 1 st ⟨.sl nid 0 (n + m) es, [(nid, some (.cells (cs ++ cells) e)), (id, none)]⟩ := OpT.regrow ho fun c ρ D J a w b s h hρ hob hJ => by
  have e1 := h.op x; rw [hx] at e1
  obtain ⟨i, z, hi, his, hz, hzc⟩ := info_all hs hzs
  have hb' : i.bytes = by' := by unfold byt at hb; simpa [hi] using hb
  generalize hv : a.eval x = v at e1
  cases e1 with
  | sl b' s' _ _ _ _ cap hρ' hc hsz =>
    rw [hρ] at hρ'; cases hρ'
    obtain ⟨arr, harr, has, hcr⟩ := hob
    have hcr' : CRep w J ρ arr cs := ⟨by have := hcr.1; omega, hcr.2⟩
    have hcl : (cs ++ cells).length = (n + m) * es := by rw [List.length_append, hcs, hl, Nat.add_mul]
    -- room
    have room : ∀ news : List Value, news.length = m * es → (∀ u ∈ news, Value.oneCell' u = true) → (∀ j (hj : j < cells.length), Rep w J ρ (news.getD j undef) cells[j]) → n + m ≤ cap →
        (execOp a.eval ⟨dst, .call ⟨.builtin .append, #[x, y], #[t, t]⟩, ty, pos, af, g⟩).run P w = .ok (.value (.slice (some ⟨b, 0, none⟩) (n + m) cap)) (w.setRow b (arr.toList.take (n * es) ++ news ++ arr.toList.drop (n * es + news.length)).toArray) →
        ∃ w' v b' s', (execOp a.eval ⟨dst, .call ⟨.builtin .append, #[x, y], #[t, t]⟩, ty, pos, af, g⟩).run P w = .ok (.value v) w' ∧ w.heap.size ≤ w'.heap.size ∧ w'.os = w.os ∧ w'.tape = w.tape ∧ w'.output = w.output ∧ (b' = b ∨ b' = w.heap.size) ∧
        (∀ k, k < w.heap.size → k ≠ b → w'.heap[k]? = w.heap[k]?) ∧
        ∀ ρ' : Rho, ρ' nid = some (b', s') → (∀ i p, ρ i = some p → ρ' i = some p) → (∀ u y, Rep w J ρ u y → Rep w' J ρ' u y) → Rep w' J ρ' v (.sl nid 0 (n + m) es) ∧ ObjRep w' J ρ' b' s' (.cells (cs ++ cells) e) := by
      intro news hnl hone hrep hroom hr
      have hfit : n * es + news.length ≤ arr.size := by
        rw [hnl, ← Nat.add_mul, has, ← hsz, Nat.zero_add]; exact Nat.mul_le_mul_right _ hroom
      have hsp := hcr'.splice (avs := cells) (vs := news) (off := n * es) (by omega) (fun j hj => ⟨by
        have hj' : j < news.length := by omega
        have : news.getD j undef = news[j] := by simp [List.getD_eq_getElem?_getD, hj']
        rw [this]; exact hone _ (List.getElem_mem hj'), hrep j hj⟩) (by omega) hfit
      have hspl : spl cs (n * es) cells = cs ++ cells := by
        unfold spl
        rw [← hcs, List.take_length, List.drop_eq_nil_of_le (by omega), List.append_nil]
      rw [hspl] at hsp
      refine ⟨_, _, b, s, hr, by simp, rfl, rfl, rfl, .inl rfl, fun k _ hk => setRow_other w b k _ hk, fun ρ' h1' h2' hi' => ⟨.sl b s nid 0 _ es cap h1' hroom hsz, _, setRow_heap w b arr _ e _ harr, ?_, ?_, ?_⟩⟩
      · rw [hsp.2]; exact has
      · have := (hsp.1.imp hi').1; rw [hsp.2, has] at this; exact this
      · exact (hsp.1.imp hi').2
    rcases src_rep h (h.op y) hy hl with ⟨hy0, h0, hc0⟩ | ⟨ad, cp, news, hyv, hmc, hnl, hnews, hone, hrep⟩
    · subst h0; subst hc0
      refine room [] (by simp) (by simp) (fun j hj => by simp at hj) (by omega) ?_
      have e2 : (arr.toList.take (n * es) ++ ([] : List Value) ++ arr.toList.drop (n * es + ([] : List Value).length)).toArray = arr := by simp
      rw [e2, setRow_self w b arr e (0, 0) harr]
      simp [execOp, resolve, invoke, builtin, hv, hy0, Builtin.append_, run_underlying (run_elemOf he), sizeOf, typeInfo, hi, Builtin.lenOf, hc, Builtin.firstCells, storeCells]
    · by_cases hroom : n + m ≤ cap
      · refine room news hnl hone hrep hroom ?_
        have hr := run_append_room (P := P) w t ty e i (run_elemOf he) hi b n cap arr harr ad m cp news (by rw [his]; exact hnl) hnews hone hroom (by rw [hnl, his, ← Nat.add_mul, has, ← hsz, Nat.zero_add]; exact Nat.mul_le_mul_right _ hroom)
        rw [his] at hr
        simp [execOp, resolve, invoke, builtin, hv, hyv, hr]
      · obtain ⟨f, hf⟩ := cell_obj (e := e) (b := b) (s := s) ⟨arr, harr, has, hcr⟩
        have holds : ∀ j u, ((List.range cs.length).map f)[j]? = some u → w.cell? ((⟨b, 0, none⟩ : Addr).add j) = some u := by
          intro j u hu
          obtain ⟨hj, rfl⟩ := List.getElem?_eq_some_iff.1 hu
          have hj' : j < cs.length := by simpa using hj
          rw [Addr.add_lit, Nat.zero_add]; simpa using (hf j hj').1
        have hr := run_append_grow (P := P) w t ty e i z (run_elemOf he) hi hz ⟨b, 0, none⟩ n cap ((List.range cs.length).map f) (by simp [hcs, his]) holds ad m cp news (by rw [his]; exact hnl) hnews (by omega) (by omega) (growslice_fits (by omega) (by rw [hb']; exact hbytes))
        have hge := grownCap_ge w (n + m) cap e
        obtain ⟨A, hA⟩ : ∃ A, A = ((List.range cs.length).map f).toArray ++ news.toArray ++ Builtin.zeroCells z.cells (grownCap w (n + m) cap e - (n + m)) := ⟨_, rfl⟩
        rw [← hA] at hr
        refine ⟨w.drew.alloc (.cells A e), .slice (some ⟨w.heap.size, 0, none⟩) (n + m) (grownCap w (n + m) cap e), w.heap.size, grownCap w (n + m) cap e * es, ?_, ?_, rfl, rfl, rfl, .inr rfl, fun k hk _ => (Grew.drew w _).old hk, fun ρ' h1' h2' hi' => ⟨.sl _ _ nid 0 _ es (grownCap w (n + m) cap e) h1' hge (by omega), A, (Grew.drew w _).new, ?_, ?_, ?_⟩⟩
        · simp [execOp, resolve, invoke, builtin, hv, hyv, hr]
        · simp
        · rw [hA]
          simp only [Array.size_append, List.size_toArray, size_zeroCells, hnl, hzc, hzl, List.length_map, List.length_range, hcs, ← Nat.add_mul]
          congr 1; omega
        · rw [hcl]; exact Nat.mul_le_mul_right _ hge
        · have hall : ((List.range cs.length).map f).toArray ++ news.toArray = (((List.range cs.length).map f) ++ news).toArray := by simp
          rw [hall] at hA
          rw [hA] at *
          refine (crep_front (J := J) (ρ := ρ') _ (zeros_one hz1 hzc _) (by simp; omega) (fun u hu => ?_) (fun j hj => ?_)).2
          · rcases List.mem_append.1 hu with hu | hu
            · simp at hu; obtain ⟨j, hj, rfl⟩ := hu; exact (hf j hj).2.1
            · exact hone u hu
          · refine hi' _ _ ?_
            by_cases hjc : j < cs.length
            · rw [List.getElem_append_left hjc]
              have : (((List.range cs.length).map f) ++ news).getD j undef = f j := by
                rw [List.getD_eq_getElem?_getD, List.getElem?_append_left (by simpa using hjc)]; simp [hjc]
              rw [this]; exact (hf j hjc).2.2
            · rw [List.getElem_append_right (by omega)]
              have : (((List.range cs.length).map f) ++ news).getD j undef = news.getD (j - cs.length) undef := by
                rw [List.getD_eq_getElem?_getD, List.getElem?_append_right (by simp; omega)]; simp [List.getD_eq_getElem?_getD]
              rw [this]; exact hrep _ (by rw [List.length_append] at hj; omega)

end
end Go.Sy
/- Sym7. -/
set_option linter.unusedVariables false
set_option linter.unusedSectionVars false
set_option linter.unusedSimpArgs false
namespace Go.Sy

section
variable {P : Program} {dst : Option Nat} {ty : TypeId} {pos : String} {af : Array Edge} {g : Option (Nat × Bool)} {nid : Nat} {st : St}

theorem put_cells {w : World} {J : Nat → Prop} {ρ : Rho} {b s off : Nat} {cs avs : List AV} {e : TypeId} {vs : List Value} (h : ObjRep w J ρ b s (.cells cs e)) (hl : vs.length = avs.length)
    (h1 : ∀ u ∈ vs, Value.oneCell' u = true) (h2 : ∀ j (hj : j < avs.length), Rep w J ρ (vs.getD j undef) avs[j]) (hs : off + avs.length ≤ cs.length) :
    ∃ w', (storeCells ⟨b, off, none⟩ vs).run P w = .ok () w' ∧ w'.heap.size = w.heap.size ∧ w'.os = w.os ∧ w'.tape = w.tape ∧ w'.output = w.output ∧ (∀ k, k ≠ b → w'.heap[k]? = w.heap[k]?) ∧
      ((∀ u y, Rep w J ρ u y → Rep w' J ρ u y) → ObjRep w' J ρ b s (.cells (spl cs off avs) e)) := by
  obtain ⟨arr, ha, hsz, hcr⟩ := h
  have hcr' : CRep w J ρ arr cs := ⟨by have := hcr.1; omega, hcr.2⟩
  have hst := run_storeCells_at P b off e vs 0 arr w ha (by have := hcr.1; omega) h1
  simp only [Nat.add_zero] at hst
  have hsp := hcr'.splice (avs := avs) (vs := vs) (off := off) hl (fun j hj => ⟨by
    have hj' : j < vs.length := by omega
    have : vs.getD j undef = vs[j] := by simp [List.getD_eq_getElem?_getD, hj']
    rw [this]; exact h1 _ (List.getElem_mem hj'), h2 j hj⟩) (by omega) (by have := hcr.1; omega)
  refine ⟨_, hst, by simp, rfl, rfl, rfl, fun k hk => setRow_other w b k _ hk, fun hi => ⟨_, setRow_heap w b arr _ e _ ha, by rw [hsp.2]; exact hsz, ?_, (hsp.1.imp hi).2⟩⟩
  have := (hsp.1.imp hi).1; rw [hsp.2, hsz] at this; exact this

end
end Go.Sy
/- Sym8. -/
set_option linter.unusedVariables false
set_option linter.unusedSectionVars false
set_option linter.unusedSimpArgs false
namespace Go.Sy

theorem OpT.at_ {P : Program} {o : Oper} {nid k : Nat} {st : St} {e : Eff} (h : OpT P o nid k st e) {c : Ctx} {ρ : Rho} {D J : Nat → Prop} {a : Act} {w : World} (hs : Sim c ρ D J st a w) (hf : ∀ i, nid ≤ i → i < nid + k → ¬ D i) {r : Option Nat} {K : Act → World → Prop} {Q : Exit → Act → World → Prop}
    (hK : ∀ v w' ρ' J', Post c nid k st e ρ ρ' J J' w w' v → K (a.put o.dst v) w') : o.wpIn (fen r) 0 P a w K Q := h c ρ D J a w hs hf r K Q hK

def Lift (c : Ctx) (Q : Exit → Nat → St → Prop) : Exit → Act → World → Prop := fun e a w => ∃ nid st ρ J, Sim c ρ (· < nid) J st a w ∧ Q e nid st

def AC (P : Program) (code : Code) (Q : Exit → Nat → St → Prop) (nid : Nat) (st : St) : Prop :=
  ∀ (c : Ctx) (ρ : Rho) (J : Nat → Prop) (a : Act) (w : World), Sim c ρ (· < nid) J st a w → code.wpIn (fen c.rd) 0 P (Lift c Q) a w

def AL (P : Program) (ops : Array Oper) (Q : Exit → Nat → St → Prop) (rest : List Oper) (nid : Nat) (st : St) : Prop :=
  ∀ (c : Ctx) (ρ : Rho) (J : Nat → Prop) (a : Act) (w : World), Sim c ρ (· < nid) J st a w → wpListIn (fen c.rd) 0 P ops (Lift c Q) rest a w

section
variable {P : Program} {Q : Exit → Nat → St → Prop} {nid : Nat} {st : St}

theorem AC_skip (h : Q .normal nid st) : AC P .skip Q nid st := fun c ρ J a w hs => wpIn_skip ⟨nid, st, ρ, J, hs, h⟩
theorem AC_ret (h : Q .ret nid st) : AC P .ret Q nid st := fun c ρ J a w hs => wpIn_ret ⟨nid, st, ρ, J, hs, h⟩
theorem AC_exit {id : Nat} (h : Q (.exit id) nid st) : AC P (.exit id) Q nid st := fun c ρ J a w hs => wpIn_exit ⟨nid, st, ρ, J, hs, h⟩

def Thn (K : Nat → St → Prop) (Q : Exit → Nat → St → Prop) : Exit → Nat → St → Prop
  | .normal, n, s => K n s
  | e, n, s => Q e n s
theorem Thn_normal {K : Nat → St → Prop} {n : Nat} {s : St} (h : K n s) : Thn K Q .normal n s := h
theorem Thn_exit {K : Nat → St → Prop} {n i : Nat} {s : St} (h : Q (.exit i) n s) : Thn K Q (.exit i) n s := h
theorem Thn_ret {K : Nat → St → Prop} {n : Nat} {s : St} (h : Q .ret n s) : Thn K Q .ret n s := h

theorem AC_seq {x y : Code} (h : AC P x (Thn (AC P y Q) Q) nid st) : AC P (.seq x y) Q nid st := fun c ρ J a w hs => wpIn_seq (wpIn_mono (h c ρ J a w hs) fun e a w ⟨n, s, r, j, h1, h2⟩ => by
  cases e with
  | normal => exact h2 c r j a w h1
  | _ => exact ⟨n, s, r, j, h1, h2⟩)

theorem AC_cond {o : Operand} {x y : Code} (h : ∃ b, st.op o = .val (.bool b) ∧ (b = true → AC P x Q nid st) ∧ (b = false → AC P y Q nid st)) : AC P (.cond o x y) Q nid st := fun c ρ J a w hs => by
  obtain ⟨b, hb, ht, hf⟩ := h
  have e := hs.op o; rw [hb] at e
  exact wpIn_cond_split (rep_val_inv e) (fun e => ht e c ρ J a w hs) (fun e => hf e c ρ J a w hs)

def Blk (i : Nat) (Q : Exit → Nat → St → Prop) : Exit → Nat → St → Prop
  | .exit j, n, s => if j = i then Q .normal n s else Q (.exit j) n s
  | e, n, s => Q e n s
theorem Blk_normal {i n : Nat} {s : St} (h : Q .normal n s) : Blk i Q .normal n s := h
theorem Blk_ret {i n : Nat} {s : St} (h : Q .ret n s) : Blk i Q .ret n s := h
theorem Blk_here {i n : Nat} {s : St} (h : Q .normal n s) : Blk i Q (.exit i) n s := by show if i = i then _ else _; rw [if_pos rfl]; exact h
theorem Blk_other {i j n : Nat} {s : St} (hne : Nat.beq j i = false) (h : Q (.exit j) n s) : Blk i Q (.exit j) n s := by
  show if j = i then _ else _
  rw [if_neg (fun e => by subst e; rw [Nat.beq_refl] at hne; cases hne)]; exact h

theorem AC_block {i : Nat} {x : Code} (h : AC P x (Blk i Q) nid st) : AC P (.block i x) Q nid st := fun c ρ J a w hs => wpIn_block (wpIn_mono (h c ρ J a w hs) fun e a w ⟨n, s, r, j, h1, h2⟩ => by
  cases e with
  | exit k =>
    simp only [Exit.inBlock, Blk] at h2 ⊢
    split
    · rename_i hk; rw [if_pos hk] at h2; exact ⟨n, s, r, j, h1, h2⟩
    · rename_i hk; rw [if_neg hk] at h2; exact ⟨n, s, r, j, h1, h2⟩
  | _ => exact ⟨n, s, r, j, h1, h2⟩)

def ren (τ : Nat → Nat) : AV → AV
  | .val v => .val v
  | .isl z cs n => .isl z cs n
  | .ipt cs k => .ipt cs k
  | .sl id off len es => .sl (τ id) off len es
  | .pt id off => .pt (τ id) off
  | .mp id => .mp (τ id)
  | .yl id => .yl (τ id)
  | .agg cs => .agg (cs.map (ren τ))
  | .tup cs => .tup (cs.map (ren τ))
  | .fn f cs => .fn f (cs.map (ren τ))
  | .any => .any

def renO (τ : Nat → Nat) : AObj → AObj
  | .cells cs e => .cells (cs.map (ren τ)) e
  | .map ag n l => .map ag n (l.map fun x => (x.1, ren τ x.2))
  | .full cs e => .full (cs.map (ren τ)) e
  | .tr H j => .tr H j

def bnd (n : Nat) : AV → Prop
  | .sl id _ _ _ => id < n
  | .pt id _ => id < n
  | .mp id => id < n
  | .yl id => id < n
  | .agg cs => ∀ x ∈ cs, bnd n x
  | .tup cs => ∀ x ∈ cs, bnd n x
  | .fn _ cs => ∀ x ∈ cs, bnd n x
  | _ => True

def bndO (n : Nat) : AObj → Prop
  | .cells cs _ => ∀ x ∈ cs, bnd n x
  | .map _ _ l => ∀ x ∈ l, bnd n x.2
  | .full cs _ => ∀ x ∈ cs, bnd n x
  | .tr _ _ => True

theorem Rep.unren {w : World} {J : Nat → Prop} {ρ ρ0 : Rho} {τ : Nat → Nat} {n : Nat} {v : Value} {y : AV} (h : Rep w J ρ v y) (hρ : ∀ id, id < n → ρ0 id = ρ (τ id)) :
    ∀ {x : AV}, y = ren τ x → bnd n x → Rep w J ρ0 v x := by
  have lists : ∀ {vs : Array Value} {cs ds : List AV}, vs.size = cs.length → cs = ds.map (ren τ) → vs.size = ds.length := by
    intro vs cs ds h1 h2; rw [h1, h2]; simp
  induction h generalizing ρ0 with
  | val v => intro x hx _; cases x <;> simp [ren] at hx; subst hx; exact .val _
  | any v => intro x hx _; cases x <;> simp [ren] at hx; exact .any _
  | inil => intro x hx _; cases x <;> simp [ren] at hx; obtain ⟨rfl, rfl, rfl⟩ := hx; exact .inil
  | iemp a cap => intro x hx _; cases x <;> simp [ren] at hx; obtain ⟨rfl, rfl, rfl⟩ := hx; exact .iemp a cap
  | isl b off len cap cells u hb hc h0 h1 h2 ih => intro x hx _; cases x <;> simp [ren] at hx; obtain ⟨rfl, rfl, rfl⟩ := hx; exact .isl b off _ cap _ u hb hc h0 h1 h2
  | ipt b off k cells u hb h0 h1 h2 ih => intro x hx _; cases x <;> simp [ren] at hx; obtain ⟨rfl, rfl⟩ := hx; exact .ipt b off _ _ u hb h0 h1 h2
  | sl b s id off len es cap h hc hs => intro x hx hb; cases x <;> simp [ren] at hx; obtain ⟨rfl, rfl, rfl, rfl⟩ := hx; exact .sl b s _ _ _ _ cap (by rw [hρ _ (show _ < n by simpa [bnd] using hb)]; exact h) hc hs
  | pt b s id off h => intro x hx hb; cases x <;> simp [ren] at hx; obtain ⟨rfl, rfl⟩ := hx; exact .pt b s _ _ (by rw [hρ _ (show _ < n by simpa [bnd] using hb)]; exact h)
  | mp b s id h => intro x hx hb; cases x <;> simp [ren] at hx; subst hx; exact .mp b s _ (by rw [hρ _ (show _ < n by simpa [bnd] using hb)]; exact h)
  | yl b s id h => intro x hx hb; cases x <;> simp [ren] at hx; subst hx; exact .yl b s _ (by rw [hρ _ (show _ < n by simpa [bnd] using hb)]; exact h)
  | agg vs cs hs h ih =>
    intro x hx hb; cases x <;> simp [ren] at hx
    rename_i ds
    simp only [bnd] at hb
    refine .agg vs ds (lists hs hx) (fun j hj => ?_)
    exact ih j (by rw [hx]; simpa using hj) hρ (by simp [hx]) (hb _ (List.getElem_mem hj))
  | tup vs cs hs h ih =>
    intro x hx hb; cases x <;> simp [ren] at hx
    rename_i ds
    simp only [bnd] at hb
    refine .tup vs ds (lists hs hx) (fun j hj => ?_)
    exact ih j (by rw [hx]; simpa using hj) hρ (by simp [hx]) (hb _ (List.getElem_mem hj))
  | fn f vs cs hs h ih =>
    intro x hx hb; cases x <;> simp [ren] at hx
    obtain ⟨rfl, hx⟩ := hx
    rename_i ds
    simp only [bnd] at hb
    refine .fn _ vs ds (lists hs hx) (fun j hj => ?_)
    exact ih j (by rw [hx]; simpa using hj) hρ (by simp [hx]) (hb _ (List.getElem_mem hj))

theorem ObjRep.unren {w : World} {J : Nat → Prop} {ρ ρ0 : Rho} {τ : Nat → Nat} {n b s : Nat} {o : AObj} (h : ObjRep w J ρ b s (renO τ o)) (hρ : ∀ id, id < n → ρ0 id = ρ (τ id)) (hb : bndO n o) : ObjRep w J ρ0 b s o := by
  cases o with
  | cells cs e =>
    obtain ⟨c, hc, h1, h2, h3, h4⟩ := h
    refine ⟨c, hc, h1, by simpa using h2, fun j hj => ⟨(h3 j (by simpa using hj)).1, ?_⟩, h4⟩
    exact (h3 j (by simpa using hj)).2.unren hρ (by simp) (hb _ (List.getElem_mem hj))
  | map ag kn l =>
    obtain ⟨ms, k, hc, h1, h2⟩ := h
    refine ⟨ms, k, hc, by simpa using h1, fun j hj => ?_⟩
    have h3 := h2 j (by simpa using hj)
    have h4 := hb _ (List.getElem_mem hj)
    exact ⟨by simpa using h3.1, h3.2.unren hρ (by simp) h4⟩
  | full cs e =>
    obtain ⟨c, hc, h1, h2, h3, h4⟩ := h
    refine ⟨c, hc, h1, by simpa using h2, fun j hj => ⟨(h3 j (by simpa using hj)).1, ?_⟩, h4⟩
    exact (h3 j (by simpa using hj)).2.unren hρ (by simp) (hb _ (List.getElem_mem hj))
  | tr H j => exact h

structure Sub (σ : List Nat) (st0 st : St) : Prop where
  n : st0.n = st.n
  env : ∀ p ∈ st0.env, p.2 = .any ∨ st.ev p.1 = ren (σ.getD · 0) p.2
  ebnd : ∀ p ∈ st0.env, bnd σ.length p.2
  obj : ∀ p ∈ st0.objs, ∀ o, p.2 = some o → p.1 < σ.length ∧ st.ob (σ.getD p.1 0) = some (renO (σ.getD · 0) o) ∧ bndO σ.length o
  inj : σ.Nodup
  m : st0.m = st.m
  pin : σ.take st.m = List.range st.m

theorem Sub.sim {σ : List Nat} {st0 st : St} {c : Ctx} {ρ : Rho} {D J : Nat → Prop} {a : Act} {w : World} (h : Sub σ st0 st) (hs : Sim c ρ D J st a w) :
    Sim c (fun i => if i < σ.length then ρ (σ.getD i 0) else none) (· < σ.length) J st0 a w := by
  have hρ : ∀ id, id < σ.length → (fun i => if i < σ.length then ρ (σ.getD i 0) else none) id = ρ (σ.getD id 0) := fun id hid => by simp [hid]
  have hob : ∀ id o, st0.ob id = some o → id < σ.length ∧ st.ob (σ.getD id 0) = some (renO (σ.getD · 0) o) ∧ bndO σ.length o := by
    intro id o ho
    unfold St.ob at ho
    cases hl : look st0.objs id with
    | none => simp [hl] at ho
    | some x => rw [hl] at ho; exact h.obj _ (look_mem hl) o (by simpa using ho)
  refine ⟨hs.defers, by rw [hs.tmps, h.n], ?_, ?_, ?_, ?_, hs.jok, hs.jlt, hs.ilt, ?_, hs.kept, hs.hid_of (σ.getD · 0) (fun id o ho => ?_) (fun id id' H H' j j' h1 h2 e => ?_) (fun b hb => .inl hb), hs.laid⟩
  · intro t
    unfold St.ev
    cases hl : look st0.env t with
    | none => exact .any _
    | some x =>
      have hm := look_mem hl
      rcases h.env _ hm with he | he
      · simp only [Option.getD_some]; simp only at he; rw [he]; exact .any _
      · have := hs.env t
        simp only at he
        exact this.unren hρ he (h.ebnd _ hm)
  · intro id o ho
    obtain ⟨h1, h2, h3⟩ := hob id o ho
    obtain ⟨b, s, k1, k2, k3, k4⟩ := hs.obj _ _ h2
    exact ⟨b, s, (hρ id h1).trans k1, k2.unren hρ h3, k3, k4⟩
  · intro id id' o o' b s s' ho ho' hr hr'
    obtain ⟨h1, h2, _⟩ := hob id o ho
    obtain ⟨h1', h2', _⟩ := hob id' o' ho'
    replace hr := (hρ id h1).symm.trans hr; replace hr' := (hρ id' h1').symm.trans hr'
    have := hs.inj _ _ _ _ b s s' h2 h2' hr hr'
    simp only [List.getD_eq_getElem?_getD, List.getElem?_eq_getElem h1, List.getElem?_eq_getElem h1', Option.getD_some] at this
    exact (List.getElem_inj h.inj).1 this
  · intro id p hp
    refine Classical.byContradiction fun hn => ?_
    have : (fun i => if i < σ.length then ρ (σ.getD i 0) else none) id = none := if_neg hn
    have hx := this.symm.trans hp
    cases hx
  · intro j hj
    rw [h.m] at hj
    obtain ⟨p, h1, h2⟩ := hs.pin j hj
    have hlen : st.m ≤ σ.length := by have := congrArg List.length h.pin; simp at this; omega
    have hj2 : σ.getD j 0 = j := by
      have := congrArg (·[j]?) h.pin
      simp only [List.getElem?_take_of_lt hj] at this
      rw [List.getElem?_range hj] at this
      simp [List.getD_eq_getElem?_getD, this]
    exact ⟨p, h1, (hρ j (by omega)).trans (by rw [hj2]; exact h2)⟩
  · obtain ⟨h1, h2, _⟩ := hob id o ho
    refine ⟨_, h2, fun H j e => by subst e; rfl, hρ id h1⟩
  · have g1 := (hob _ _ h1).1; have g2 := (hob _ _ h2).1
    simp only [List.getD_eq_getElem?_getD, List.getElem?_eq_getElem g1, List.getElem?_eq_getElem g2, Option.getD_some] at e
    exact (List.getElem_inj h.inj).1 e

theorem AC_loop {code : Code} {ι : Type} (σ : List Nat) (m : Nat) (I : ι → St) (μ : ι → Nat) (i0 : ι) (hm : σ.length = m) (h0 : Sub σ (I i0) st)
    (round : ∀ i, AC P code (Thn (fun _ s => ∃ (σ' : List Nat) (j : ι), σ'.length = m ∧ Sub σ' (I j) s ∧ μ j < μ i) Q) m (I i)) : AC P (.loop code) Q nid st := fun c ρ J a w hs => by
  refine wpIn_loop_ghost (fun n a w => ∃ i ρ J, Sim c ρ (· < m) J (I i) a w ∧ μ i = n) (μ i0) ⟨i0, _, J, hm ▸ h0.sim hs, rfl⟩ ?_
  rintro n a w ⟨i, ρ, J, hs, rfl⟩
  refine wpIn_mono (round i c ρ J a w hs) ?_
  rintro e a' w' ⟨nid', st', ρ', J', hs', hq⟩
  cases e with
  | normal =>
    obtain ⟨σ', j, hl, hsub, hlt⟩ := hq
    exact ⟨μ j, hlt, j, _, J', hl ▸ hsub.sim hs', rfl⟩
  | _ => exact ⟨nid', st', ρ', J', hs', hq⟩

theorem AL_nil {ops : Array Oper} (h : Q .normal nid st) : AL P ops Q [] nid st := fun c ρ J a w hs => wpListIn_nil ⟨nid, st, ρ, J, hs, h⟩

theorem AC_region {id : Nat} {ops : Array Oper} (h : AL P ops Q ops.toList nid st) : AC P (.region id ops false) Q nid st := fun c ρ J a w hs => wpIn_region_list (h c ρ J a w hs)

theorem AC_region_lit {id : Nat} {l : List Oper} (h : AL P l.toArray Q l nid st) : AC P (.region id l.toArray false) Q nid st := AC_region (by simpa using h)

def dstOk (n : Nat) : Option Nat → Bool
  | some d => d < n
  | none => true

theorem dstOk_spec {n : Nat} {dst : Option Nat} (h : dstOk n dst = true) : ∀ d, dst = some d → d < n := by
  intro d hd; subst hd; simpa [dstOk] using h

theorem AL_op {ops : Array Oper} {rest : List Oper} {dst : Option Nat} {op : Op} {ty : TypeId} {pos : String} {af : Array Edge} {k : Nat} {e : Eff}
    (ho : OpT P ⟨dst, op, ty, pos, af, none⟩ nid k st e) (hd : dstOk st.n dst = true) (h : AL P ops Q rest (nid + k) (st.app dst e)) : AL P ops Q (⟨dst, op, ty, pos, af, none⟩ :: rest) nid st := fun c ρ J a w hs => by
  refine wpListIn_plain rfl fun K hK => ho.at_ hs (fun i h1 h2 h3 => by omega) fun v w' ρ' J' p => hK _ _ ?_
  exact h c ρ' J' _ w' (hs.app p (dstOk_spec hd) (fun i hi => by rcases hi with hi | hi <;> omega))

def dstAt (ops : Array Oper) (j : Nat) : Option Nat := (ops[j]?).bind (·.dst)

theorem yielded_of {c : Ctx} {ρ : Rho} {D J : Nat → Prop} {a : Act} {w : World} (hs : Sim c ρ D J st a w) {ops : Array Oper} {j t : Nat} {b : Bool} (ht : dstAt ops j = some t) (hb : st.ev t = .val (.bool b)) (hn : t < st.n) : yielded ops a.tmps j = some b := by
  have := hs.env t
  rw [hb] at this
  have e := rep_val_inv this
  have htn : t < a.tmps.size := by rw [hs.tmps]; exact hn
  have e' : a.tmps[t]? = some (.bool b) := by
    rw [Array.getElem?_eq_getElem htn]
    simpa [Array.getD, htn] using e
  unfold yielded dstAt at *
  rw [ht, Option.bind_some, e']

def noV : AV := .val undef
theorem no_yield {c : Ctx} {ρ : Rho} {D J : Nat → Prop} {a : Act} {w : World} (hs : Sim c ρ D J st a w) {ops : Array Oper} {j t : Nat} (ht : dstAt ops j = some t) (hb : st.ev t = noV) (hn : t < st.n) : yielded ops a.tmps j = none := by
  have := hs.env t
  rw [hb] at this
  have e := rep_val_inv this
  have htn : t < a.tmps.size := by rw [hs.tmps]; exact hn
  have e' : a.tmps[t]? = some undef := by
    rw [Array.getElem?_eq_getElem htn]
    simpa [Array.getD, htn] using e
  unfold yielded dstAt at *
  rw [ht, Option.bind_some, e']
  rfl
theorem Sim.skip {c : Ctx} {ρ : Rho} {D J : Nat → Prop} {a : Act} {w : World} (hs : Sim c ρ D J st a w) (dst : Option Nat) (hd : dstOk st.n dst = true) : Sim c ρ D J (st.put dst noV) (a.put dst undef) w := by
  have p : Post c 0 0 st ⟨noV, []⟩ ρ ρ J J w w undef := ⟨Nat.le_refl _, rfl, rfl, rfl, fun _ _ _ _ => rfl, fun _ _ h => h, fun _ _ h => .inl h, fun _ h => h, fun _ h => .inl h, .val _, fun id o h => by simp [look] at h, fun id id' o o' b s s' h => by simp [look] at h, fun h => absurd h trIn_nil⟩
  have := hs.app (dst := dst) (D' := D) p (dstOk_spec hd) (fun i hi => by rcases hi with hi | hi; exact hi; omega)
  have e : st.app dst ⟨noV, []⟩ = st.put dst noV := by cases dst <;> rfl
  rw [e] at this; exact this

theorem AL_pass {ops : Array Oper} {rest : List Oper} {dst : Option Nat} {op : Op} {ty : TypeId} {pos : String} {af : Array Edge} {j t : Nat} {b : Bool}
    (ht : dstAt ops j = some t) (hb : st.ev t = .val (.bool !b)) (hn : t < st.n) (hd : dstOk st.n dst = true) (h : AL P ops Q rest nid (st.put dst noV)) : AL P ops Q (⟨dst, op, ty, pos, af, some (j, b)⟩ :: rest) nid st := fun c ρ J a w hs => by
  refine wpListIn_step fun K hK => ?_
  have hy := yielded_of hs ht hb hn
  rw [if_neg (by simp [Region.wanted, hy])]
  exact ⟨fun _ _ => trivial, hK _ _ (h c ρ J _ w (hs.skip dst hd))⟩

theorem AL_pass' {ops : Array Oper} {rest : List Oper} {dst : Option Nat} {op : Op} {ty : TypeId} {pos : String} {af : Array Edge} {j t : Nat} {b : Bool}
    (ht : dstAt ops j = some t) (hb : st.ev t = noV) (hn : t < st.n) (hd : dstOk st.n dst = true) (h : AL P ops Q rest nid (st.put dst noV)) : AL P ops Q (⟨dst, op, ty, pos, af, some (j, b)⟩ :: rest) nid st := fun c ρ J a w hs => by
  refine wpListIn_step fun K hK => ?_
  have hy := no_yield hs ht hb hn
  rw [if_neg (by simp [Region.wanted, hy])]
  exact ⟨fun _ _ => trivial, hK _ _ (h c ρ J _ w (hs.skip dst hd))⟩

def gAV (b : Bool) (x : AV) (K1 K2 : Prop) : Prop := (∃ b', x = .val (.bool b') ∧ (b' = b → K1) ∧ (b' = (!b) → K2)) ∨ (x = noV ∧ K2)
theorem g_bool {b b' : Bool} {K1 K2 : Prop} : gAV b (.val (.bool b')) K1 K2 = ((b' = b → K1) ∧ (b' = (!b) → K2)) := by
  unfold gAV
  refine propext ⟨fun h => ?_, fun h => .inl ⟨b', rfl, h⟩⟩
  rcases h with ⟨b'', h1, h2⟩ | ⟨h1, h2⟩
  · cases h1; exact h2
  · cases h1
theorem g_no {b : Bool} {K1 K2 : Prop} : gAV b noV K1 K2 = K2 := by
  unfold gAV
  refine propext ⟨fun h => ?_, fun h => .inr ⟨rfl, h⟩⟩
  rcases h with ⟨b'', h1, h2⟩ | ⟨h1, h2⟩
  · cases h1
  · exact h2

def ACall (P : Program) (f : FuncId) (args : List AV) (objs : List AObj) (m : Nat) (r : AV) (objs' : List AObj) : Prop :=
  ∀ (w : World) (A I : Nat → Prop) (ρ : Rho) (vs : Array Value), vs.size = args.length → (∀ j (h : j < args.length), Rep w A ρ (vs.getD j undef) args[j]) →
    (∀ b, A b → b < w.heap.size ∧ ¬ I b) → (∀ b, I b → b < w.heap.size) →
    (∀ j (h : j < objs.length), ∃ b s, ρ j = some (b, s) ∧ I b ∧ ObjRep w A ρ b s objs[j]) → (∀ j p, ρ j = some p → j < objs.length) →
    (∀ i j b s s', ρ i = some (b, s) → ρ j = some (b, s') → i = j) → Hid ⟨w, A, I, ρ, none, fun H => H ∈ trs objs⟩ A (fun j => objs[j]?) ρ w → Laid A w →
    Calls P f vs w fun e w' => ∃ v ρ' J', e = .returned v ∧ Rep w' J' ρ' v r ∧ (∀ b, J' b → b < w'.heap.size ∧ (A b ∨ I b ∨ w.heap.size ≤ b)) ∧ Kept ⟨w, A, I, ρ, none, fun H => H ∈ trs objs⟩ w' ∧
      (∀ j, j < m → ρ' j = ρ j) ∧ (∀ j p, ρ' j = some p → j < objs'.length) ∧
      (∀ j (h : j < objs'.length), ∃ b s, ρ' j = some (b, s) ∧ ObjRep w' J' ρ' b s objs'[j] ∧ (I b ∨ w.heap.size ≤ b) ∧ ¬ J' b) ∧
      (∀ i j b s s', ρ' i = some (b, s) → ρ' j = some (b, s') → i = j) ∧ Hid ⟨w, A, I, ρ, none, fun H => H ∈ trs objs⟩ J' (fun j => objs'[j]?) ρ' w'

def resAV (P : Program) (st : St) : ResultVar → Option AV
  | .tmp t => some (st.ev t)
  | .cell x t => match st.ev x with
    | .pt id off => match st.ob id, isAggB P t, siz P t with
      | some (.cells cs _), some true, some n => if off + n ≤ cs.length then some (.agg ((cs.drop off).take n)) else none
      | some (.cells cs _), some false, _ => cs[off]?
      | _, _, _ => none
    | _ => none

def resultAV (P : Program) (st : St) (rs : List ResultVar) : Option AV := match rs.mapM (resAV P st) with
  | some [x] => some x
  | some l => some (.tup l)
  | none => none

def resSem (tmps : Array Value) : ResultVar → Sem Value
  | .tmp t => pure (tmps.getD t undef)
  | .cell y t => do loadVar t (← asAddr (tmps.getD y undef))

theorem run_resAV {c : Ctx} {ρ : Rho} {D J : Nat → Prop} {a : Act} {w : World} (hs : Sim c ρ D J st a w) {rv : ResultVar} {x : AV} (h : resAV P st rv = some x) :
    ∃ v, (resSem a.tmps rv).run P w = .ok v w ∧ Rep w J ρ v x := by
  cases rv with
  | tmp t => simp only [resAV, Option.some.injEq] at h; subst h; exact ⟨_, rfl, hs.env t⟩
  | cell y t =>
    simp only [resAV] at h
    have hy := hs.env y
    split at h
    · rename_i id off he
      rw [he] at hy
      generalize hv : a.tmps.getD y undef = v at hy
      cases hy with
      | pt b s _ _ hρ =>
        split at h
        · rename_i cs e n h1 h2 h3
          split at h
          · rename_i hle
            simp only [Option.some.injEq] at h; subst h
            obtain ⟨b', s', hρ', hob, _⟩ := hs.obj _ _ h1
            rw [hρ] at hρ'; cases hρ'
            obtain ⟨u, hu⟩ := cell_obj hob
            obtain ⟨vs, hr, hrep⟩ := run_loadCells_rep (P := P) (w := w) (J := J) (ρ := ρ) (b := b) (off := off) (n := n) (cs := (cs.drop off).take n) (fun j => u (off + j)) (fun j hj => by
              simp at hj
              have := hu (off + j) (by omega)
              exact ⟨this.1, by simpa using this.2.2⟩) (by simp; omega)
            exact ⟨.agg vs, by simp only [resSem, hv]; simp [asAddr, loadVar, run_isAggB h2, run_siz h3, hr], hrep⟩
          · cases h
        · rename_i cs e z h1 h2
          obtain ⟨b', s', hρ', hob, _⟩ := hs.obj _ _ h1
          rw [hρ] at hρ'; cases hρ'
          obtain ⟨u, hu⟩ := cell_obj hob
          obtain ⟨hlt, rfl⟩ := List.getElem?_eq_some_iff.1 h
          exact ⟨u off, by simp only [resSem, hv]; simp [asAddr, loadVar, run_isAggB h2, (hu off hlt).1], (hu off hlt).2.2⟩
        · cases h
    · cases h

theorem run_results {c : Ctx} {ρ : Rho} {D J : Nat → Prop} {a : Act} {w : World} (hs : Sim c ρ D J st a w) {fn : Func} {x : AV} (h : resultAV P st fn.results.toList = some x) :
    ∃ v, (results fn a.tmps).run P w = .ok v w ∧ Rep w J ρ v x := by
  have key : ∀ (l : List ResultVar) (xs : List AV), l.mapM (resAV P st) = some xs → ∃ vs : List Value, (l.mapM (resSem a.tmps)).run P w = .ok vs w ∧
      vs.length = xs.length ∧ ∀ j (hj : j < xs.length), Rep w J ρ (vs.getD j undef) xs[j] := by
    intro l
    induction l with
    | nil => intro xs h; simp at h; subst h; exact ⟨[], rfl, rfl, fun j hj => by simp at hj⟩
    | cons rv l ih =>
      intro xs h
      simp only [List.mapM_cons, Option.bind_eq_bind, Option.bind_eq_some_iff] at h
      obtain ⟨y, hy, ys, hys, he⟩ := h
      simp at he; subst he
      obtain ⟨v, h1, h2⟩ := run_resAV (P := P) hs hy
      obtain ⟨vs, h3, h4, h5⟩ := ih ys hys
      refine ⟨v :: vs, ?_, by simp [h4], fun j hj => ?_⟩
      · rw [List.mapM_cons, Sem.run_bind, h1, Result.andThen_ok, Sem.run_bind, h3, Result.andThen_ok]; rfl
      · cases j with
        | zero => simpa using h2
        | succ j => simpa using h5 j (by simpa using hj)
  unfold resultAV at h
  cases hm : fn.results.toList.mapM (resAV P st) with
  | none => simp [hm] at h
  | some xs =>
    obtain ⟨vs, h1, h2, h3⟩ := key _ _ hm
    have hrun : (results fn a.tmps).run P w = .ok (if h : vs.toArray.size = 1 then vs.toArray[0] else .tuple vs.toArray) w := by
      show (do let vs ← fn.results.mapM (resSem a.tmps); pure (if h : vs.size = 1 then vs[0] else .tuple vs) : Sem Value).run P w = _
      rw [Array.mapM_eq_mapM_toList, Sem.run_bind, Sem.run_map]
      rw [h1]
      simp only [Result.andThen_ok, Sem.run_pure]
    refine ⟨_, hrun, ?_⟩
    rw [hm] at h
    match xs, vs, h2, h3, h with
    | [x'], [v'], _, h3, h =>
      simp only [Option.some.injEq] at h; subst h
      simpa using h3 0 (by simp)
    | [], [], _, h3, h =>
      simp only [Option.some.injEq] at h; subst h
      exact .tup _ _ rfl (fun j hj => by simp at hj)
    | x1 :: x2 :: l, vs, h2, h3, h =>
      simp only [Option.some.injEq] at h; subst h
      have hne : ¬ vs.toArray.size = 1 := by simp at h2 ⊢; omega
      rw [dif_neg hne]
      exact .tup _ _ (by simpa using h2) (fun j hj => by simpa [Array.getD_eq_getD_getElem?, List.getD_eq_getElem?_getD] using h3 j hj)

end
end Go.Sy
/- Sym9. -/
set_option linter.unusedVariables false
set_option linter.unusedSectionVars false
set_option linter.unusedSimpArgs false
namespace Go.Sy

def idx {α : Type} : Nat → List α → List (Nat × α)
  | _, [] => []
  | k, x :: l => (k, x) :: idx (k + 1) l

theorem look_idx {α : Type} (l : List α) : ∀ (k t : Nat), look (idx k l) t = if k ≤ t then l[t - k]? else none := by
  induction l with
  | nil => intro k t; simp [idx, look]
  | cons x l ih =>
    intro k t
    simp only [idx, look, ih]
    by_cases h : t = k
    · subst h; simp
    · rw [if_neg h]
      by_cases h2 : k + 1 ≤ t
      · rw [if_pos h2, if_pos (by omega), show t - k = (t - (k + 1)) + 1 by omega]; simp
      · rw [if_neg h2, if_neg (by omega)]

theorem mem_idx {α : Type} {l : List α} {k : Nat} {p : Nat × α} (h : p ∈ idx k l) : k ≤ p.1 ∧ l[p.1 - k]? = some p.2 := by
  induction l generalizing k with
  | nil => simp [idx] at h
  | cons x l ih =>
    simp only [idx, List.mem_cons] at h
    rcases h with rfl | h
    · simp
    · obtain ⟨h1, h2⟩ := ih h
      exact ⟨by omega, by rw [show p.1 - k = (p.1 - (k + 1)) + 1 by omega]; simpa using h2⟩

def entry (n m : Nat) (args : List AV) (objs : List AObj) : St := ⟨n, m, idx 0 args, (idx 0 objs).map fun p => (p.1, some p.2)⟩

theorem look_map {α β : Type} (f : α → β) (l : List (Nat × α)) (t : Nat) : look (l.map fun p => (p.1, f p.2)) t = (look l t).map f := by
  induction l with
  | nil => rfl
  | cons x l ih => simp only [List.map_cons, look, ih]; split <;> rfl

theorem entry_ev (n m : Nat) (args : List AV) (objs : List AObj) (t : Nat) : (entry n m args objs).ev t = (args[t]?).getD .any := by
  simp [entry, St.ev, look_idx]
theorem entry_ob (n m : Nat) (args : List AV) (objs : List AObj) (t : Nat) : (entry n m args objs).ob t = objs[t]? := by
  simp only [entry, St.ob, look_map, look_idx]
  cases h : objs[t]? <;> simp [h]

theorem Rep.closed {w : World} {J : Nat → Prop} {ρ ρ' : Rho} {v : Value} {x : AV} (h : Rep w J ρ v x) (hn : bnd 0 x) : Rep w J ρ' v x := by
  induction h generalizing ρ' with
  | val v => exact .val v
  | any v => exact .any v
  | inil => exact .inil
  | iemp a cap => exact .iemp a cap
  | isl b off len cap cells u hb hc h0 h1 h2 ih => exact .isl b off len cap cells u hb hc h0 h1 h2
  | ipt b off k cells u hb h0 h1 h2 ih => exact .ipt b off k cells u hb h0 h1 h2
  | sl b s id off len es cap h hc hs => simp [bnd] at hn
  | pt b s id off h => simp [bnd] at hn
  | mp b s id h => simp [bnd] at hn
  | yl b s id h => simp [bnd] at hn
  | agg vs cs hs h ih => simp only [bnd] at hn; exact .agg vs cs hs (fun j hj => ih j hj (hn _ (List.getElem_mem hj)))
  | tup vs cs hs h ih => simp only [bnd] at hn; exact .tup vs cs hs (fun j hj => ih j hj (hn _ (List.getElem_mem hj)))
  | fn f vs cs hs h ih => simp only [bnd] at hn; exact .fn f vs cs hs (fun j hj => ih j hj (hn _ (List.getElem_mem hj)))

def frzV (id : Nat) (cs : List AV) : AV → AV
  | .sl i off len es => if i = id then .isl false ((cs.drop off).take (len * es)) len else .sl i off len es
  | .pt i off => if i = id then .ipt cs off else .pt i off
  | .agg l => .agg (l.map (frzV id cs))
  | .tup l => .tup (l.map (frzV id cs))
  | .fn f l => .fn f (l.map (frzV id cs))
  | .val v => .val v
  | .isl z l n => .isl z l n
  | .ipt l k => .ipt l k
  | .mp i => .mp i
  | .yl i => .yl i
  | .any => .any

def frzO (id : Nat) (cs : List AV) : AObj → AObj
  | .cells l e => .cells (l.map (frzV id cs)) e
  | .map ag n l => .map ag n (l.map fun x => (x.1, frzV id cs x.2))
  | .full l e => .full (l.map (frzV id cs)) e
  | .tr H j => .tr H j

def St.frz (id : Nat) (cs : List AV) (st : St) : St := ⟨st.n, st.m, st.env.map (fun p => (p.1, frzV id cs p.2)), (id, none) :: st.objs.map fun p => (p.1, p.2.map (frzO id cs))⟩

def Frz (st st' : St) : Prop := ∀ (c : Ctx) (ρ : Rho) (D J : Nat → Prop) (a : Act) (w : World), Sim c ρ D J st a w → ∃ J', Sim c ρ D J' st' a w

theorem Frz.refl (st : St) : Frz st st := fun _ _ _ J _ _ h => ⟨J, h⟩
theorem Frz.trans {st1 st2 st3 : St} (h1 : Frz st1 st2) (h2 : Frz st2 st3) : Frz st1 st3 := fun c ρ D J a w h => by
  obtain ⟨J', h'⟩ := h1 c ρ D J a w h
  exact h2 c ρ D J' a w h'

theorem look_frz {β : Type} (f : β → β) (l : List (Nat × β)) (t : Nat) : look (l.map fun p => (p.1, f p.2)) t = (look l t).map f := by
  induction l with
  | nil => rfl
  | cons x l ih => simp only [List.map_cons, look, ih]; split <;> rfl

theorem Rep.frz {w : World} {J J' : Nat → Prop} {ρ : Rho} {id b s : Nat} {cs : List AV} {u : Nat → Value} (hJ : ∀ b, J b → J' b) (hb : J' b) (hid : ρ id = some (b, s)) (hlt : b < w.heap.size) (h0 : ∀ j, j < cs.length → (u j).oneCell' = true)
    (h1 : ∀ j, j < cs.length → w.cell? ⟨b, j, none⟩ = some (u j)) (h2 : ∀ j (h : j < cs.length), Rep w J' (fun _ => none) (u j) cs[j]) {v : Value} {x : AV} (h : Rep w J ρ v x) : Rep w J' ρ v (frzV id cs x) := by
  have mono : ∀ {ρ : Rho} {v : Value} {x : AV}, Rep w J ρ v x → Rep w J' ρ v x := fun h => h.mono (fun b hb _ => ⟨hJ b hb, rfl⟩) (Nat.le_refl _) (fun _ _ h => h)
  induction h with
  | val v => unfold frzV; exact .val v
  | any v => unfold frzV; exact .any v
  | inil => unfold frzV; exact .inil
  | iemp a cap => unfold frzV; exact .iemp a cap
  | isl b off len cap cells u hb hc k0 k1 k2 ih => unfold frzV; exact mono (.isl b off len cap cells u hb hc k0 k1 k2)
  | ipt b off k cells u hb k0 k1 k2 ih => unfold frzV; exact mono (.ipt b off k cells u hb k0 k1 k2)
  | sl b' s' id' off len es cap h hc hs =>
    unfold frzV
    split
    · rename_i e; subst e
      rw [hid] at h; cases h
      refine .isl b off len cap _ (fun i => u (off + i)) (fun _ => ⟨hb, hlt⟩) hc (fun i hi => ?_) (fun i hi => ?_) (fun i hi => ?_)
      · simp at hi; exact h0 _ (by omega)
      · simp at hi; exact h1 _ (by omega)
      · simp at hi
        have := h2 (off + i) (by omega)
        simpa using this
    · exact .sl b' s' id' off len es cap h hc hs
  | pt b' s' id' off h =>
    unfold frzV
    split
    · rename_i e; subst e
      rw [hid] at h; cases h
      have := Rep.ipt (w := w) (J := J') (ρ := by assumption) b 0 off cs u (fun _ => ⟨hb, hlt⟩) h0 (fun j hj => by simpa using h1 j hj) h2
      simpa using this
    · exact .pt b' s' id' off h
  | mp b s id h => unfold frzV; exact .mp b s id h
  | yl b s id h => unfold frzV; exact .yl b s id h
  | agg vs cs hs _ ih => unfold frzV; exact .agg vs _ (by simpa using hs) (fun j hj => by simpa using ih j (by simpa using hj) hid)
  | tup vs cs hs _ ih => unfold frzV; exact .tup vs _ (by simpa using hs) (fun j hj => by simpa using ih j (by simpa using hj) hid)
  | fn f vs cs hs _ ih => unfold frzV; exact .fn f vs _ (by simpa using hs) (fun j hj => by simpa using ih j (by simpa using hj) hid)

theorem Frz.one {st : St} {id : Nat} {cs : List AV} {e : TypeId} (ho : st.ob id = some (.cells cs e)) (hc : ∀ x ∈ cs, bnd 0 x) : Frz st (st.frz id cs) := by
  intro c ρ D J a w hs
  obtain ⟨b, s, k1, k2, k3, k4⟩ := hs.obj _ _ ho
  obtain ⟨u, hu⟩ := cell_obj k2
  let J' : Nat → Prop := fun b' => J b' ∨ b' = b
  have hJ : ∀ b, J b → J' b := fun _ h => .inl h
  have mono : ∀ {ρ : Rho} {v : Value} {x : AV}, Rep w J ρ v x → Rep w J' ρ v x := fun h => h.mono (fun b hb _ => ⟨hJ b hb, rfl⟩) (Nat.le_refl _) (fun _ _ h => h)
  have rep : ∀ {v : Value} {x : AV}, Rep w J ρ v x → Rep w J' ρ v (frzV id cs x) := fun h =>
    Rep.frz (u := u) hJ (.inr rfl) k1 k2.lt (fun j hj => (hu j hj).2.1) (fun j hj => (hu j hj).1) (fun j hj => mono ((hu j hj).2.2.closed (hc _ (List.getElem_mem hj)))) h
  have hob : ∀ id', (st.frz id cs).ob id' = if id' = id then none else (st.ob id').map (frzO id cs) := fun id' => by
    show (look ((id, none) :: st.objs.map fun p => (p.1, p.2.map (frzO id cs))) id').join = _
    simp only [look]
    by_cases e : id' = id
    · simp [e]
    · rw [if_neg e, if_neg e, look_frz (f := Option.map (frzO id cs))]
      unfold St.ob
      cases look st.objs id' with
      | none => rfl
      | some o => cases o <;> rfl
  refine ⟨J', hs.defers.same (fun D d1 d2 => ⟨rfl, .inl d1⟩), hs.tmps, fun t => ?_, fun id' o hi => ?_, fun i1 i2 o1 o2 b s s' g1 g2 g3 g4 => ?_, hs.dom, fun b' hb' => ?_, fun b' hb' => ?_, hs.ilt, hs.pin, hs.kept,
    hs.hid_of (fun i => i) (fun id' o hi => ?_) (fun _ _ _ _ _ _ _ _ e => e) (fun b' hb' => ?_), hs.laid.mono (fun b h _ => ⟨.inl h, rfl⟩) (Nat.le_refl _)⟩
  · have := rep (hs.env t)
    have e : (st.frz id cs).ev t = frzV id cs (st.ev t) := by
      show (look (st.env.map fun p => (p.1, frzV id cs p.2)) t).getD .any = _
      rw [look_frz]
      unfold St.ev
      cases look st.env t with
      | none => simp [frzV]
      | some v => rfl
    rw [e]; exact this
  · rw [hob] at hi
    split at hi
    · cases hi
    · rename_i hne
      cases hk : st.ob id' with
      | none => rw [hk] at hi; cases hi
      | some o0 =>
        rw [hk] at hi; cases hi
        obtain ⟨b', s', g1, g2, g3, g4⟩ := hs.obj _ _ hk
        refine ⟨b', s', g1, ?_, g3, ?_⟩
        · cases o0 with
          | cells l e =>
            obtain ⟨c, q1, q2, q3, q4, q5⟩ := g2
            exact ⟨c, q1, q2, by simpa using q3, fun j hj => ⟨(q4 j (by simpa using hj)).1, by simpa using rep (q4 j (by simpa using hj)).2⟩, q5⟩
          | map ag kn l =>
            obtain ⟨ms, cl, q1, q2, q3⟩ := g2
            exact ⟨ms, cl, q1, by simpa using q2, fun j hj => ⟨by simpa using (q3 j (by simpa using hj)).1, by simpa using rep (q3 j (by simpa using hj)).2⟩⟩
          | full l e =>
            obtain ⟨c, q1, q2, q3, q4, q5⟩ := g2
            exact ⟨c, q1, q2, by simpa using q3, fun j hj => ⟨(q4 j (by simpa using hj)).1, by simpa using rep (q4 j (by simpa using hj)).2⟩, q5⟩
          | tr H j => exact g2
        · rintro (h | h)
          · exact g4 h
          · subst h; exact hne (hs.inj _ _ _ _ _ _ _ hk ho g1 k1)
  · rw [hob] at g1 g2
    split at g1
    · cases g1
    · split at g2
      · cases g2
      · cases h1 : st.ob i1 with
        | none => rw [h1] at g1; cases g1
        | some x1 => cases h2 : st.ob i2 with
          | none => rw [h2] at g2; cases g2
          | some x2 => exact hs.inj _ _ _ _ _ _ _ h1 h2 g3 g4
  · rcases hb' with h | h
    · exact hs.jok _ h
    · subst h; exact .inr k3
  · rcases hb' with h | h
    · exact hs.jlt _ h
    · subst h; exact k2.lt
  · rw [hob] at hi
    split at hi
    · cases hi
    · cases hk : st.ob id' with
      | none => rw [hk] at hi; cases hi
      | some o0 =>
        rw [hk] at hi; cases hi
        refine ⟨o0, rfl, fun H j e => ?_, rfl⟩
        cases o0 <;> simp [frzO] at e ⊢
        exact e
  · rcases hb' with h | h
    · exact .inl h
    · subst h; exact .inr ⟨id, _, s, ho, k1⟩

def Ends (P : Program) (fn : Func) (objs : List AObj) (m : Nat) (r : AV) (objs' : List AObj) (e : Exit) (st : St) : Prop :=
  (e = .normal ∨ e = .ret) ∧ ∃ (st' : St) (σ : List Nat), Frz st st' ∧ Sub σ ⟨st'.n, st'.m, [], (idx 0 objs').map fun p => (p.1, some p.2)⟩ st' ∧ σ.length = objs'.length ∧ st'.m = m ∧
    resultAV P st' fn.results.toList = some (ren (σ.getD · 0) r) ∧ bnd σ.length r

section
variable {P : Program}

def IsC (w : World) (b : Nat) : Prop := ∃ o : Obj, w.heap[b]? = some o ∧ o.isCells = true
theorem Rep.cut {w : World} {J : Nat → Prop} {ρ : Rho} {v : Value} {x : AV} (h : Rep w J ρ v x) : Rep w (fun b => J b ∧ IsC w b) ρ v x := by
  have key : ∀ {cells : List AV} {b off : Nat} {u : Nat → Value}, (cells ≠ [] → J b ∧ b < w.heap.size) → (∀ j, j < cells.length → w.cell? ⟨b, off + j, none⟩ = some (u j)) → cells ≠ [] → (J b ∧ IsC w b) ∧ b < w.heap.size := by
    intro cells b off u hb h1 hne
    refine ⟨⟨(hb hne).1, ?_⟩, (hb hne).2⟩
    have := h1 0 (List.length_pos_iff.2 hne)
    exact cells_of_cell this
  induction h with
  | val v => exact .val v
  | any v => exact .any v
  | inil => exact .inil
  | iemp a cap => exact .iemp a cap
  | isl b off len cap cells u hb hc h0 h1 h2 ih => exact .isl b off len cap cells u (key hb h1) hc h0 h1 ih
  | ipt b off k cells u hb h0 h1 h2 ih => exact .ipt b off k cells u (key hb h1) h0 h1 ih
  | sl b s id off len es cap h hc hs => exact .sl b s id off len es cap h hc hs
  | pt b s id off h => exact .pt b s id off h
  | mp b s id h => exact .mp b s id h
  | yl b s id h => exact .yl b s id h
  | agg vs cs hs h ih => exact .agg vs cs hs ih
  | tup vs cs hs h ih => exact .tup vs cs hs ih
  | fn f vs cs hs h ih => exact .fn f vs cs hs ih
theorem ObjRep.imp {w : World} {J J' : Nat → Prop} {ρ : Rho} {b s : Nat} {o : AObj} (k : ∀ {v x}, Rep w J ρ v x → Rep w J' ρ v x) (h : ObjRep w J ρ b s o) : ObjRep w J' ρ b s o := by
  cases o with
  | cells cs e => obtain ⟨c, h1, h2, h3, h4, h5⟩ := h; exact ⟨c, h1, h2, h3, fun j hj => ⟨(h4 j hj).1, k (h4 j hj).2⟩, h5⟩
  | map ag n l => obtain ⟨ms, cl, h1, h2, h3⟩ := h; exact ⟨ms, cl, h1, h2, fun j hj => ⟨(h3 j hj).1, k (h3 j hj).2⟩⟩
  | full cs e => obtain ⟨c, h1, h2, h3, h4, h5⟩ := h; exact ⟨c, h1, h2, h3, fun j hj => ⟨(h4 j hj).1, k (h4 j hj).2⟩, h5⟩
  | tr H j => exact h
theorem isC_def {w : World} {b : Nat} {x : Option (List Deferred)} (h : IsC w b) (k : w.heap[b]? = some (.deferred x)) : False := by
  obtain ⟨o, h1, h2⟩ := h; rw [h1] at k; cases k; cases h2

theorem Sim.shut {c : Ctx} {ρ : Rho} {D J : Nat → Prop} {st : St} {a : Act} {w : World} {x : Deferred} {ds : List Deferred} (hs : Sim c ρ D J st a w) (hd : a.defers = x :: ds) :
    ∃ d, x = mark d ∧ w.heap[d]? = some (.deferred (some [])) ∧ ∃ J', Sim c ρ D J' st { a with defers := ds } (w.putObj d (.deferred none)) := by
  obtain ⟨⟨l, h1, h2, h3⟩, h4⟩ := hs.defers
  rw [hd] at h1
  cases l with
  | nil => cases h1
  | cons d l =>
    obtain ⟨e1, e2⟩ := List.cons.inj h1
    obtain ⟨k1, k2, k3⟩ := h3 d List.mem_cons_self
    obtain ⟨n1, n2⟩ := List.nodup_cons.1 h2
    have hg : w.grownBy (w.putObj d (.deferred none)) (some d) := grownBy_putObj' w d _
    have hg' := hg
    let J' : Nat → Prop := fun b => J b ∧ b ≠ d
    have cut : ∀ {v x}, Rep w J ρ v x → Rep w J' ρ v x := fun h => h.cut.mono (J' := J') (fun b hb _ => ⟨⟨hb.1, fun e => by subst e; exact isC_def hb.2 k1⟩, rfl⟩) (Nat.le_refl _) (fun _ _ h => h)
    have hJ : ∀ b, J' b → b < w.heap.size → J' b ∧ (w.putObj d (.deferred none)).heap[b]? = w.heap[b]? := fun b hb _ => ⟨hb, World.putObj_heap_other hb.2⟩
    refine ⟨d, e1, k1, J', ⟨⟨l, e2, n2, fun D hD => ?_⟩, fun l hl => absurd (hd.symm.trans (h4 l hl).1) (by simp)⟩, hs.tmps, fun t => (cut (hs.env t)).mono hJ hg.size (fun _ _ h => h), fun id o ho => ?_, hs.inj, hs.dom, fun b hb => hs.jok b hb.1, fun b hb => Nat.lt_of_lt_of_le (hs.jlt b hb.1) hg.size, hs.ilt, hs.pin,
      ⟨Nat.le_trans hs.kept.size hg.size, hs.kept.os, hs.kept.tape, hs.kept.output, fun b hb hI => ?_⟩, ?_, fun g zs hg => ?_⟩
    · obtain ⟨q1, q2, q3⟩ := h3 D (List.mem_cons_of_mem _ hD)
      have hne : D ≠ d := fun e => by subst e; exact n1 hD
      exact ⟨(World.putObj_heap_other hne).trans q1, ⟨q2, hne⟩, q3⟩
    · obtain ⟨b, s, q1, q2, q3, q4⟩ := hs.obj id o ho
      exact ⟨b, s, q1, (q2.imp cut).mono hJ hg.size (fun _ _ h => h) (World.putObj_heap_other (fun e => by subst e; exact q2.not_def k1)), q3, fun h => q4 h.1⟩
    · exact (World.putObj_heap_other (fun e => by subst e; omega)).trans (hs.kept.block b hb hI)
    · refine hs.hid.step (fun i => i) (fun id H j h => h) (fun _ _ _ _ _ _ _ _ e => e) hg.size rfl rfl rfl (fun b hb => World.putObj_heap_other (fun e => by subst e; exact hb.2.2.1 k2)) (fun b hb _ => World.putObj_heap_other (fun e => by subst e; omega))
        (fun id H j h => World.putObj_heap_other (fun e => ?_)) (fun b hb => ⟨Nat.lt_of_lt_of_le hb.1 hg.size, hb.2.1, fun hj => hb.2.2.1 hj.1, hb.2.2.2⟩) (fun id H j h hx => ?_)
      · obtain ⟨s, r, g1, g2, g3, _⟩ := hs.nl h
        exact g3 (e ▸ k2)
      · obtain ⟨s, r, g1, _⟩ := hs.nl h
        exact hx.2.2.2 _ _ _ h g1
    · obtain ⟨q1, q2, q3⟩ := hs.laid g zs hg
      have hne : zs ≠ [] → g ≠ d := fun hz e => by
        subst e
        exact isC_def (cells_of_cell (q3 0 (List.length_pos_iff.2 hz))) k1
      have hz : zs ≠ [] := gtab_ne hg
      refine ⟨⟨q1, hne hz⟩, Nat.lt_of_lt_of_le q2 hg'.size, fun i hi => ?_⟩
      rw [World.cell?_of_block (w := w) (a := ⟨g, i, none⟩) (World.putObj_heap_other (hne hz))]; exact q3 i hi
theorem Sim.leave {F : Fence} {n : Nat} {fn : Func} {R : Ending → World → Prop} {c : Ctx} {ρ : Rho} {D : Nat → Prop} {st : St} : ∀ (ds : List Deferred) (a : Act) (w : World) (J : Nat → Prop), a.defers = ds → Sim c ρ D J st a w →
    (∀ a' w' J, a'.tmps = a.tmps → Sim c ρ D J st a' w' → ∃ v, (results fn a'.tmps).run P w' = .ok v w' ∧ R (.returned v) w') → LeavesInM F n P fn a.tmps R ds .returning w := by
  intro ds
  induction ds with
  | nil => exact fun a w J _ hs k => k a w J rfl hs
  | cons x ds ih =>
    intro a w J hd hs k
    obtain ⟨d, rfl, h1, J', h2⟩ := hs.shut hd
    exact ⟨by simp, .inl ⟨d, _, rfl, run_takeDeferred h1, ih { a with defers := ds } _ J' rfl h2 k⟩⟩

theorem ACall.enter {f : FuncId} {fn : Func} {code : Code} {args : List AV} {objs : List AObj} {m : Nat} {r : AV} {objs' : List AObj} (hf : P.funcs[f]? = some fn) (hb : fn.body = some code) (hn : args.length ≤ fn.ntmps) (hm : m ≤ objs.length)
    (h : AC P code (fun e _ st => Ends P fn objs m r objs' e st) objs.length (entry fn.ntmps m args objs)) : ACall P f args objs m r objs' := by
  intro w A I ρ vs hvs hargs hA hI hobj hdom hinj hhid hlaid
  refine (callsIn_fen (r := none) (n := 0)).1 (callsIn_of_wp_marks hf hb trivial ?_ rfl)
  let c : Ctx := ⟨w, A, I, ρ, none, fun H => H ∈ trs objs⟩
  have hsim : Sim c ρ (· < objs.length) A (entry fn.ntmps m args objs) { tmps := vs ++ Array.replicate (fn.ntmps - vs.size) undef, defers := [] } w := by
    refine ⟨Marks.nil (fun l h => (by cases h)), ?_, ?_, ?_, ?_, fun id p hp => hdom id p hp, fun b hb => .inl hb, fun b hb => (hA b hb).1, hI, ?_, ⟨Nat.le_refl _, rfl, rfl, rfl, fun _ _ _ => rfl⟩, ?_, hlaid⟩
    · show (vs ++ Array.replicate (fn.ntmps - vs.size) undef).size = fn.ntmps
      simp; omega
    · intro t
      rw [entry_ev]
      by_cases ht : t < args.length
      · rw [List.getElem?_eq_getElem ht]
        have : (vs ++ Array.replicate (fn.ntmps - vs.size) undef).getD t undef = vs.getD t undef := by
          have htv : t < vs.size := by omega
          simp [Array.getD_eq_getD_getElem?, Array.getElem?_append, htv]
        show Rep w A ρ ((vs ++ Array.replicate (fn.ntmps - vs.size) undef).getD t undef) args[t]
        rw [this]; exact hargs t ht
      · rw [List.getElem?_eq_none (by omega)]; exact .any _
    · intro id o ho
      rw [entry_ob] at ho
      obtain ⟨hlt, rfl⟩ := List.getElem?_eq_some_iff.1 ho
      obtain ⟨b, s, h1, h2, h3⟩ := hobj id hlt
      exact ⟨b, s, h1, h3, .inl h2, fun hj => (hA b hj).2 h2⟩
    · intro id id' o o' b s s' _ _ h1 h2; exact hinj id id' b s s' h1 h2
    · intro j hj
      have hj : j < m := hj
      obtain ⟨b, s, h1, _⟩ := hobj j (by omega)
      exact ⟨_, h1, h1⟩
    · rw [show (entry fn.ntmps m args objs).ob = fun j => objs[j]? from funext (entry_ob _ _ _ _)]; exact hhid
  refine wpIn_mono (h c ρ A _ w hsim) ?_
  rintro e a' w' ⟨nid, st0, ρ', J0, hs0, he, st, σ, hfrz, hsub, hl, ht, hr, hbn⟩
  obtain ⟨J', hs⟩ := hfrz _ _ _ _ _ _ hs0
  have hres : bodyPostM (fen none) 0 P fn (fun e w' => ∃ v ρ' J', e = .returned v ∧ Rep w' J' ρ' v r ∧ (∀ b, J' b → b < w'.heap.size ∧ (A b ∨ I b ∨ w.heap.size ≤ b)) ∧ Kept ⟨w, A, I, ρ, none, fun H => H ∈ trs objs⟩ w' ∧
      (∀ j, j < m → ρ' j = ρ j) ∧ (∀ j p, ρ' j = some p → j < objs'.length) ∧
      (∀ j (h : j < objs'.length), ∃ b s, ρ' j = some (b, s) ∧ ObjRep w' J' ρ' b s objs'[j] ∧ (I b ∨ w.heap.size ≤ b) ∧ ¬ J' b) ∧
      (∀ i j b s s', ρ' i = some (b, s) → ρ' j = some (b, s') → i = j) ∧ Hid ⟨w, A, I, ρ, none, fun H => H ∈ trs objs⟩ J' (fun j => objs'[j]?) ρ' w') .ret a' w' := by
    refine Sim.leave (R := _) a'.defers a' w' J' rfl hs (fun a' w' J' _ hs => ?_)
    obtain ⟨v, hrun, hrep⟩ := run_results hs hr
    have hs0 := hsub.sim hs
    refine ⟨v, hrun, v, (fun i => if i < σ.length then ρ' (σ.getD i 0) else none), J', rfl, hrep.unren (n := σ.length) (fun id hid => if_pos hid) rfl hbn, fun b hb => ⟨hs.jlt b hb, hs.jok b hb⟩, ?_, ?_, ?_, ?_, ?_, ?_⟩
    · exact ⟨hs.kept.size, hs.kept.os, hs.kept.tape, hs.kept.output, hs.kept.block⟩
    · intro j hj
      obtain ⟨p, h1, h2⟩ := hs0.pin j (by show j < st.m; omega)
      exact h2.trans h1.symm
    · intro j p hp; rw [← hl]; exact hs0.dom j p hp
    · intro j hj
      have ho : (⟨st.n, st.m, [], (idx 0 objs').map fun p => (p.1, some p.2)⟩ : St).ob j = some objs'[j] := by
        have := entry_ob st.n st.m [] objs' j
        simp only [entry, idx] at this
        rw [this, List.getElem?_eq_getElem hj]
      obtain ⟨b, s, h1, h2, h3, h4⟩ := hs0.obj j _ ho
      exact ⟨b, s, h1, h2, h3, h4⟩
    · intro i j b s s' h1 h2
      have hi := hs0.dom i _ h1; have hj := hs0.dom j _ h2
      have hob : ∀ k, k < σ.length → ∃ o, (⟨st.n, st.m, [], (idx 0 objs').map fun p => (p.1, some p.2)⟩ : St).ob k = some o := by
        intro k hk
        have := entry_ob st.n st.m [] objs' k
        simp only [entry, idx] at this
        rw [this, List.getElem?_eq_getElem (by omega)]; exact ⟨_, rfl⟩
      obtain ⟨o, ho⟩ := hob i hi
      obtain ⟨o', ho'⟩ := hob j hj
      exact hs0.inj i j o o' b s s' ho ho' h1 h2
    · have := hs0.hid
      rw [show (⟨st.n, st.m, [], (idx 0 objs').map fun p => (p.1, some p.2)⟩ : St).ob = fun j => objs'[j]? from funext (entry_ob st.n st.m [] objs')] at this
      exact this
  rcases he with rfl | rfl
  · exact hres
  · exact hres

theorem Rep.ren {w : World} {J : Nat → Prop} {ρ ρ' : Rho} {τ : Nat → Nat} (hρ : ∀ id p, ρ id = some p → ρ' (τ id) = some p) {v : Value} {x : AV} (h : Rep w J ρ v x) : Rep w J ρ' v (Sy.ren τ x) := by
  induction h generalizing ρ' τ with
  | val v => simp only [Sy.ren]; exact .val v
  | any v => simp only [Sy.ren]; exact .any v
  | inil => simp only [Sy.ren]; exact .inil
  | iemp a cap => simp only [Sy.ren]; exact .iemp a cap
  | isl b off len cap cells u hb hc h0 h1 h2 ih => simp only [Sy.ren]; exact .isl b off len cap cells u hb hc h0 h1 h2
  | ipt b off k cells u hb h0 h1 h2 ih => simp only [Sy.ren]; exact .ipt b off k cells u hb h0 h1 h2
  | sl b s id off len es cap h hc hs => simp only [Sy.ren]; exact .sl b s _ off len es cap (hρ _ _ h) hc hs
  | pt b s id off h => simp only [Sy.ren]; exact .pt b s _ off (hρ _ _ h)
  | mp b s id h => simp only [Sy.ren]; exact .mp b s _ (hρ _ _ h)
  | yl b s id h => simp only [Sy.ren]; exact .yl b s _ (hρ _ _ h)
  | agg vs cs hs h ih =>
    simp only [Sy.ren]
    exact .agg vs _ (by simpa using hs) (fun j hj => by simpa using ih j (by simpa using hj) hρ)
  | tup vs cs hs h ih =>
    simp only [Sy.ren]
    exact .tup vs _ (by simpa using hs) (fun j hj => by simpa using ih j (by simpa using hj) hρ)
  | fn f vs cs hs h ih =>
    simp only [Sy.ren]
    exact .fn f vs _ (by simpa using hs) (fun j hj => by simpa using ih j (by simpa using hj) hρ)

theorem ObjRep.ren {w : World} {J : Nat → Prop} {ρ ρ' : Rho} {τ : Nat → Nat} (hρ : ∀ id p, ρ id = some p → ρ' (τ id) = some p) {b s : Nat} {o : AObj} (h : ObjRep w J ρ b s o) : ObjRep w J ρ' b s (renO τ o) := by
  cases o with
  | cells cs e =>
    obtain ⟨c, hc, h1, h2, h3, h4⟩ := h
    exact ⟨c, hc, h1, by simpa using h2, fun j hj => by
      have := h3 j (by simpa using hj)
      exact ⟨this.1, by simpa using this.2.ren hρ⟩, h4⟩
  | map ag kn l =>
    obtain ⟨ms, k, hc, h1, h2⟩ := h
    exact ⟨ms, k, hc, by simpa using h1, fun j hj => by
      have := h2 j (by simpa using hj)
      exact ⟨by simpa using this.1, by simpa using this.2.ren hρ⟩⟩
  | full cs e =>
    obtain ⟨c, hc, h1, h2, h3, h4⟩ := h
    exact ⟨c, hc, h1, by simpa using h2, fun j hj => by
      have := h3 j (by simpa using hj)
      exact ⟨this.1, by simpa using this.2.ren hρ⟩, h4⟩
  | tr H j => exact h

def noImm : AV → Prop
  | .isl _ cs _ => cs = []
  | .ipt cs _ => cs = []
  | .agg cs => ∀ x ∈ cs, noImm x
  | .tup cs => ∀ x ∈ cs, noImm x
  | .fn _ cs => ∀ x ∈ cs, noImm x
  | _ => True

def noImmO : AObj → Prop
  | .cells cs _ => ∀ x ∈ cs, noImm x
  | .map _ _ l => ∀ x ∈ l, noImm x.2
  | .full cs _ => ∀ x ∈ cs, noImm x
  | .tr _ _ => True

theorem Rep.noImm {w : World} {J J' : Nat → Prop} {ρ : Rho} {v : Value} {x : AV} (h : Rep w J ρ v x) (hn : Sy.noImm x) : Rep w J' ρ v x := by
  induction h with
  | val v => exact .val v
  | any v => exact .any v
  | inil => exact .inil
  | iemp a cap => exact .iemp a cap
  | isl b off len cap cells u hb hc h0 h1 h2 ih =>
    have : cells = [] := by simpa [Sy.noImm] using hn
    subst this
    exact .isl b off len cap [] u (fun h => absurd rfl h) hc (fun j hj => by simp at hj) (fun j hj => by simp at hj) (fun j hj => by simp at hj)
  | ipt b off k cells u hb h0 h1 h2 ih =>
    have : cells = [] := by simpa [Sy.noImm] using hn
    subst this
    exact .ipt b off k [] u (fun h => absurd rfl h) (fun j hj => by simp at hj) (fun j hj => by simp at hj) (fun j hj => by simp at hj)
  | sl b s id off len es cap h hc hs => exact .sl b s _ off len es cap h hc hs
  | pt b s id off h => exact .pt b s _ off h
  | mp b s id h => exact .mp b s _ h
  | yl b s id h => exact .yl b s _ h
  | agg vs cs hs h ih => simp only [Sy.noImm] at hn; exact .agg vs cs hs (fun j hj => ih j hj (hn _ (List.getElem_mem hj)))
  | tup vs cs hs h ih => simp only [Sy.noImm] at hn; exact .tup vs cs hs (fun j hj => ih j hj (hn _ (List.getElem_mem hj)))
  | fn f vs cs hs h ih => simp only [Sy.noImm] at hn; exact .fn f vs cs hs (fun j hj => ih j hj (hn _ (List.getElem_mem hj)))

theorem ObjRep.noImm {w : World} {J J' : Nat → Prop} {ρ : Rho} {b s : Nat} {o : AObj} (h : ObjRep w J ρ b s o) (hn : noImmO o) : ObjRep w J' ρ b s o := by
  cases o with
  | cells cs e =>
    obtain ⟨c, hc, h1, h2, h3, h4⟩ := h
    exact ⟨c, hc, h1, h2, fun j hj => ⟨(h3 j hj).1, (h3 j hj).2.noImm (hn _ (List.getElem_mem hj))⟩, h4⟩
  | map ag kn l =>
    obtain ⟨ms, k, hc, h1, h2⟩ := h
    exact ⟨ms, k, hc, h1, fun j hj => ⟨(h2 j hj).1, (h2 j hj).2.noImm (hn _ (List.getElem_mem hj))⟩⟩
  | full cs e =>
    obtain ⟨c, hc, h1, h2, h3, h4⟩ := h
    exact ⟨c, hc, h1, h2, fun j hj => ⟨(h3 j hj).1, (h3 j hj).2.noImm (hn _ (List.getElem_mem hj))⟩, h4⟩
  | tr H j => exact h

def npos : List Nat → Nat → Nat
  | [], _ => 0
  | a :: l, i => if i = a then 0 else npos l i + 1

def hasN : List Nat → Nat → Bool
  | [], _ => false
  | a :: l, i => if i = a then true else hasN l i

theorem hasN_pos : ∀ {σ : List Nat} {i : Nat}, hasN σ i = true → npos σ i < σ.length ∧ σ.getD (npos σ i) 0 = i
  | [], _, h => by simp [hasN] at h
  | a :: l, i, h => by
    simp only [npos]
    by_cases e : i = a
    · simp [e]
    · simp only [hasN, if_neg e] at h
      obtain ⟨h1, h2⟩ := hasN_pos h
      rw [if_neg e]
      exact ⟨by simpa using h1, by simpa [List.getD_eq_getElem?_getD] using h2⟩
theorem hasN_mem : ∀ {σ : List Nat} {i : Nat}, hasN σ i = false → i ∉ σ
  | [], _, _ => by simp
  | a :: l, i, h => by
    simp only [hasN] at h
    split at h
    · cases h
    · rename_i e; simp only [List.mem_cons, not_or]; exact ⟨e, hasN_mem h⟩

def dfz (st : St) (σ : List Nat) : Nat → AV → AV
  | 0, _ => .any
  | k + 1, .sl id off len es => if hasN σ id = true then .any else match (look st.objs id).join with
    | some (.cells cs _) => .isl false (((cs.drop off).take (len * es)).map (dfz st σ k)) len
    | _ => .any
  | k + 1, .pt id off => if hasN σ id = true then .any else match (look st.objs id).join with
    | some (.cells cs _) => .ipt (cs.map (dfz st σ k)) off
    | _ => .any
  | _ + 1, .mp _ => .any
  | _ + 1, .yl _ => .any
  | k + 1, .agg l => .agg (l.map (dfz st σ k))
  | k + 1, .tup l => .tup (l.map (dfz st σ k))
  | k + 1, .fn f l => .fn f (l.map (dfz st σ k))
  | _ + 1, .val v => .val v
  | _ + 1, .isl z l n => .isl z l n
  | _ + 1, .ipt l n => .ipt l n
  | _ + 1, .any => .any

def toA (st : St) (σ : List Nat) (fz : Bool) : Nat → AV → AV
  | 0, _ => .any
  | k + 1, .sl id off len es => if hasN σ id = true then .sl (npos σ id) off len es else if fz = true then dfz st σ k (.sl id off len es) else .any
  | k + 1, .pt id off => if hasN σ id = true then .pt (npos σ id) off else if fz = true then dfz st σ k (.pt id off) else .any
  | _ + 1, .mp id => if hasN σ id = true then .mp (npos σ id) else .any
  | _ + 1, .yl id => if hasN σ id = true then .yl (npos σ id) else .any
  | k + 1, .agg l => .agg (l.map (toA st σ fz k))
  | k + 1, .tup l => .tup (l.map (toA st σ fz k))
  | k + 1, .fn f l => .fn f (l.map (toA st σ fz k))
  | _ + 1, .val v => .val v
  | _ + 1, .isl z l n => .isl z l n
  | _ + 1, .ipt l n => .ipt l n
  | _ + 1, .any => .any

def toO (st : St) (σ : List Nat) (fz : Bool) : AObj → AObj
  | .cells cs e => .cells (cs.map (toA st σ fz 8)) e
  | .map ag n l => .map ag n (l.map fun x => (x.1, toA st σ fz 8 x.2))
  | .full cs e => .full (cs.map (toA st σ fz 8)) e
  | .tr H j => .tr H j

section
variable {c : Ctx} {ρ ρc : Rho} {D J A : Nat → Prop} {st : St} {a : Act} {w : World} {σ : List Nat} {fz : Bool}

theorem rep_dfz (hs : Sim c ρ D J st a w) (hJ : ∀ b, J b → b < w.heap.size → A b) (hA : ∀ id o b s, st.ob id = some o → ρ id = some (b, s) → id ∉ σ → b < w.heap.size → A b) :
    ∀ (k : Nat) (v : Value) (x : AV), Rep w J ρ v x → Rep w A (fun _ => none) v (dfz st σ k x) := by
  intro k
  induction k with
  | zero => intro v x _; unfold dfz; exact .any _
  | succ k ih =>
    intro v x h
    have mono : ∀ {ρ : Rho} {v : Value} {x : AV}, Rep w J ρ v x → Rep w A ρ v x := fun h => h.mono (fun b hb hlt => ⟨hJ b hb hlt, rfl⟩) (Nat.le_refl _) (fun _ _ h => h)
    cases h with
    | val v => unfold dfz; exact .val v
    | any v => unfold dfz; exact .any v
    | inil => unfold dfz; exact .inil
    | iemp a cap => unfold dfz; exact .iemp a cap
    | isl b off len cap cells u hb hc h0 h1 h2 => unfold dfz; exact mono (.isl b off len cap cells u hb hc h0 h1 h2)
    | ipt b off k cells u hb h0 h1 h2 => unfold dfz; exact mono (.ipt b off k cells u hb h0 h1 h2)
    | mp => unfold dfz; exact .any _
    | yl => unfold dfz; exact .any _
    | agg vs cs hs' h => unfold dfz; exact .agg vs _ (by simpa using hs') (fun j hj => by have := ih _ _ (h j (by simpa using hj)); simpa using this)
    | tup vs cs hs' h => unfold dfz; exact .tup vs _ (by simpa using hs') (fun j hj => by have := ih _ _ (h j (by simpa using hj)); simpa using this)
    | fn f vs cs hs' h => unfold dfz; exact .fn f vs _ (by simpa using hs') (fun j hj => by have := ih _ _ (h j (by simpa using hj)); simpa using this)
    | sl b s id off len es cap h hc hsz =>
      unfold dfz
      split
      · exact .any _
      · rename_i hn
        split
        · rename_i cs e ho
          have ho' : st.ob id = some (.cells cs e) := ho
          obtain ⟨b', s', k1, k2, _⟩ := hs.obj _ _ ho'
          rw [h] at k1; cases k1
          obtain ⟨u, hu⟩ := cell_obj k2
          have hid : id ∉ σ := hasN_mem (by simpa using hn)
          refine .isl b off len cap _ (fun i => u (off + i)) (fun _ => ⟨hA _ _ _ _ ho' h hid k2.lt, k2.lt⟩) hc (fun i hi => ?_) (fun i hi => ?_) (fun i hi => ?_)
          · simp at hi; exact (hu (off + i) (by omega)).2.1
          · simp at hi; exact (hu (off + i) (by omega)).1
          · simp at hi
            have := ih _ _ (hu (off + i) (by omega)).2.2
            simpa using this
        · exact .any _
    | pt b s id off h =>
      unfold dfz
      split
      · exact .any _
      · rename_i hn
        split
        · rename_i cs e ho
          have ho' : st.ob id = some (.cells cs e) := ho
          obtain ⟨b', s', k1, k2, _⟩ := hs.obj _ _ ho'
          rw [h] at k1; cases k1
          obtain ⟨u, hu⟩ := cell_obj k2
          have hid : id ∉ σ := hasN_mem (by simpa using hn)
          have := Rep.ipt (w := w) (J := A) (ρ := fun _ => none) b 0 off (cs.map (dfz st σ k)) u (fun _ => ⟨hA _ _ _ _ ho' h hid k2.lt, k2.lt⟩) (fun i hi => ?_) (fun i hi => ?_) (fun i hi => ?_)
          · simpa using this
          · simp at hi; exact (hu i hi).2.1
          · simp at hi; simpa using (hu i hi).1
          · simp at hi
            have := ih _ _ (hu i hi).2.2
            simpa using this
        · exact .any _

theorem rep_toA (hs : Sim c ρ D J st a w) (hρ : ∀ id, hasN σ id = true → ρc (npos σ id) = ρ id) (hJ : ∀ b, J b → b < w.heap.size → A b) (hA : fz = true → ∀ id o b s, st.ob id = some o → ρ id = some (b, s) → id ∉ σ → b < w.heap.size → A b) :
    ∀ (k : Nat) (v : Value) (x : AV), Rep w J ρ v x → Rep w A ρc v (toA st σ fz k x) := by
  intro k
  induction k with
  | zero => intro v x _; unfold toA; exact .any _
  | succ k ih =>
    intro v x h
    have mono : ∀ {v : Value} {x : AV}, Rep w J (fun _ => none) v x → Rep w A ρc v x := fun h => (h.up (ρ := ρc)).mono (fun b hb hlt => ⟨hJ b hb hlt, rfl⟩) (Nat.le_refl _) (fun _ _ h => h)
    cases h with
    | val v => unfold toA; exact .val v
    | any v => unfold toA; exact .any v
    | inil => unfold toA; exact .inil
    | iemp a cap => unfold toA; exact .iemp a cap
    | isl b off len cap cells u hb hc h0 h1 h2 => unfold toA; exact mono (.isl b off len cap cells u hb hc h0 h1 h2)
    | ipt b off k cells u hb h0 h1 h2 => unfold toA; exact mono (.ipt b off k cells u hb h0 h1 h2)
    | mp b s id h =>
      unfold toA
      split
      · rename_i hn; exact .mp b s _ ((hρ id hn).trans h)
      · exact .any _
    | yl b s id h =>
      unfold toA
      split
      · rename_i hn; exact .yl b s _ ((hρ id hn).trans h)
      · exact .any _
    | agg vs cs hs' h => unfold toA; exact .agg vs _ (by simpa using hs') (fun j hj => by have := ih _ _ (h j (by simpa using hj)); simpa using this)
    | tup vs cs hs' h => unfold toA; exact .tup vs _ (by simpa using hs') (fun j hj => by have := ih _ _ (h j (by simpa using hj)); simpa using this)
    | fn f vs cs hs' h => unfold toA; exact .fn f vs _ (by simpa using hs') (fun j hj => by have := ih _ _ (h j (by simpa using hj)); simpa using this)
    | sl b s id off len es cap h hc hsz =>
      unfold toA
      split
      · rename_i hn; exact .sl b s _ off len es cap ((hρ id hn).trans h) hc hsz
      · split
        · rename_i hf; exact (rep_dfz hs hJ (hA hf) k _ _ (.sl b s id off len es cap h hc hsz)).up
        · exact .any _
    | pt b s id off h =>
      unfold toA
      split
      · rename_i hn; exact .pt b s _ off ((hρ id hn).trans h)
      · split
        · rename_i hf; exact (rep_dfz hs hJ (hA hf) k _ _ (.pt b s id off h)).up
        · exact .any _

theorem obj_toO (hs : Sim c ρ D J st a w) (hρ : ∀ id, hasN σ id = true → ρc (npos σ id) = ρ id) (hJ : ∀ b, J b → b < w.heap.size → A b) (hA : fz = true → ∀ id o b s, st.ob id = some o → ρ id = some (b, s) → id ∉ σ → b < w.heap.size → A b)
    {b s : Nat} {o : AObj} (h : ObjRep w J ρ b s o) : ObjRep w A ρc b s (toO st σ fz o) := by
  cases o with
  | cells cs e =>
    obtain ⟨c, hc, h1, h2, h3, h4⟩ := h
    exact ⟨c, hc, h1, by simpa using h2, fun j hj => by
      have := h3 j (by simpa using hj)
      exact ⟨this.1, by simpa using rep_toA hs hρ hJ hA 8 _ _ this.2⟩, h4⟩
  | map ag kn l =>
    obtain ⟨ms, k, hc, h1, h2⟩ := h
    exact ⟨ms, k, hc, by simpa using h1, fun j hj => by
      have := h2 j (by simpa using hj)
      exact ⟨by simpa using this.1, by simpa using rep_toA hs hρ hJ hA 8 _ _ this.2⟩⟩
  | full cs e =>
    obtain ⟨c, hc, h1, h2, h3, h4⟩ := h
    exact ⟨c, hc, h1, by simpa using h2, fun j hj => by
      have := h3 j (by simpa using hj)
      exact ⟨this.1, by simpa using rep_toA hs hρ hJ hA 8 _ _ this.2⟩, h4⟩
  | tr H j => exact h
end

def outName (σ : List Nat) (m nid : Nat) (j : Nat) : Nat := if j < m then σ.getD j 0 else nid + (j - m)

def callUpd (σ : List Nat) (m nid : Nat) (objs' : List AObj) : List (Nat × Option AObj) :=
  (idx 0 objs').map (fun p => (outName σ m nid p.1, some (renO (outName σ m nid) p.2))) ++ (σ.drop m).map fun i => (i, none)

def plainFn (P : Program) (f : FuncId) : Bool := match P.funcs[f]? with
  | some fn => fn.name != "runtime.NumGoroutine" && fn.body.isSome
  | none => false

theorem run_call {f : FuncId} (h : plainFn P f = true) (vs : Array Value) (w : World) : (callFunc f vs).run P w = .ok (.enter f vs) w := by
  unfold plainFn at h
  split at h
  · rename_i fn hf
    simp only [Bool.and_eq_true, bne_iff_ne, ne_eq] at h
    have h2 : fn.body.isNone = false := by cases hb : fn.body <;> simp [hb] at h ⊢
    have h3 : fn.body ≠ none := by intro e; simp [e] at h2
    simp [callFunc, hf, h.1, h3]
  · cases h

theorem opT_callV {o : Oper} {nid : Nat} {st : St} {f : FuncId} {xvs : List AV}
    {cargs : List AV} {cobjs : List AObj} {m : Nat} {r : AV} {cobjs' : List AObj} (hc : ACall P f cargs cobjs m r cobjs') (σ : List Nat) (fz : Bool) (hm : m ≤ cobjs.length) (hm' : m ≤ cobjs'.length)
    (hexec : ∀ (c : Ctx) (ρ : Rho) (D J : Nat → Prop) (a : Act) (w : World), Sim c ρ D J st a w → ∃ vs : Array Value, (execOp a.eval o).run P w = .ok (.enter f vs) w ∧ vs.size = xvs.length ∧ ∀ j (h : j < xvs.length), Rep w J ρ (vs.getD j undef) xvs[j])
    (hσ : σ.length = cobjs.length) (hnd : σ.Nodup) (hlt : ∀ i ∈ σ, i < nid)
    (hob : ∀ j (h : j < cobjs.length), ∃ o, st.ob (σ.getD j 0) = some o ∧ cobjs[j] = toO st σ fz o)
    (hargs : cargs = xvs.map (toA st σ fz 8))
    (hfz : fz = true → noImm r ∧ ∀ j (h : j < cobjs'.length), noImmO cobjs'[j]) (htr : trs cobjs' = trs cobjs) :
    OpT P o nid (cobjs'.length - m) st ⟨ren (outName σ m nid) r, callUpd σ m nid cobjs'⟩ := by
  intro c ρ D J a w hs hD _ K Q hK
  obtain ⟨vs, hrun, hvl, hvr⟩ := hexec c ρ D J a w hs
  -- the callee's view
  let ρc : Rho := fun j => if j < σ.length then ρ (σ.getD j 0) else none
  let T : Prop := ∃ H, H ∈ trs cobjs
  let X : Nat → Prop := Xm c J st.ob ρ w
  let I : Nat → Prop := fun b => (∃ j s, j < σ.length ∧ ρ (σ.getD j 0) = some (b, s)) ∨ (T ∧ X b)
  let A : Nat → Prop := fun b => (J b ∨ (fz = true ∧ ∃ id o s, st.ob id = some o ∧ ρ id = some (b, s) ∧ id ∉ σ)) ∧ b < w.heap.size
  have hmem : ∀ j, j < σ.length → σ.getD j 0 ∈ σ := fun j hj => by simp [List.getD_eq_getElem?_getD, hj]
  have hown : ∀ j, j < σ.length → ∃ o b s, st.ob (σ.getD j 0) = some o ∧ ρ (σ.getD j 0) = some (b, s) ∧ ObjRep w J ρ b s o ∧ ¬ J b := fun j hj => by
    obtain ⟨o, h1, _⟩ := hob j (by omega)
    obtain ⟨b, s, k1, k2, _, k3⟩ := hs.obj _ _ h1
    exact ⟨_, b, s, h1, k1, k2, k3⟩
  have hτ : ∀ id, id < σ.length → ρc id = ρ (σ.getD id 0) := fun id hid => if_pos hid
  have hτ' : ∀ id, hasN σ id = true → ρc (npos σ id) = ρ id := fun id hn => by
    obtain ⟨h1, h2⟩ := hasN_pos hn
    rw [hτ _ h1, h2]
  have hJA : ∀ b, J b → b < w.heap.size → A b := fun b hb hlt => ⟨.inl hb, hlt⟩
  have hOA : fz = true → ∀ id o b s, st.ob id = some o → ρ id = some (b, s) → id ∉ σ → b < w.heap.size → A b := fun hf id o b s h1 h2 h3 h4 => ⟨.inr ⟨hf, id, o, s, h1, h2, h3⟩, h4⟩
  have hlen : xvs.length = cargs.length := by rw [hargs]; simp
  have hargv : ∀ j (h : j < cargs.length), Rep w A ρc (vs.getD j undef) cargs[j] := by
    intro j hj
    subst hargs
    have := rep_toA (fz := fz) hs hτ' hJA hOA 8 _ _ (hvr j (by simpa using hj))
    simpa using this
  -- the call
  have hA : ∀ b, A b → b < w.heap.size ∧ ¬ I b := by
    rintro b ⟨h1, h2⟩
    refine ⟨h2, ?_⟩
    rintro (⟨j, s, hj, hr⟩ | ⟨_, hx⟩)
    · obtain ⟨o, b', s', k1, k2, k3, k4⟩ := hown j hj
      rw [hr] at k2; cases k2
      rcases h1 with h1 | ⟨_, id, o2, s2, q1, q2, q3⟩
      · exact k4 h1
      · have := hs.inj _ _ _ _ b s s2 k1 q1 hr q2
        exact q3 (this ▸ hmem j hj)
    · rcases h1 with h1 | ⟨_, id, o2, s2, q1, q2, q3⟩
      · exact hx.2.2.1 h1
      · exact hx.2.2.2 _ _ _ q1 q2
  have hI : ∀ b, I b → b < w.heap.size := by
    rintro b (⟨j, s, hj, hr⟩ | ⟨_, hx⟩)
    · obtain ⟨o, b', s', k1, k2, k3, k4⟩ := hown j hj
      rw [hr] at k2; cases k2; exact k3.lt
    · exact hx.1
  have hIc : ∀ b, I b → (c.I b ∨ c.w0.heap.size ≤ b) ∧ ¬ J b := by
    rintro b (⟨j, s, hj, hr⟩ | ⟨_, hx⟩)
    · obtain ⟨o, h1, _⟩ := hob j (by omega)
      obtain ⟨b', s', k1, _, k2, k3⟩ := hs.obj _ _ h1
      rw [hr] at k1; cases k1; exact ⟨k2, k3⟩
    · exact ⟨hx.2.1, hx.2.2.1⟩
  have hρc : ∀ {j p}, ρc j = some p → j < σ.length := fun {j p} h => by
    refine Classical.byContradiction fun hn => ?_
    have : ρc j = none := if_neg hn
    rw [this] at h; cases h
  have htr0 : ∀ {j H k}, cobjs[j]? = some (.tr H k) → j < σ.length ∧ st.ob (σ.getD j 0) = some (.tr H k) ∧ T := fun {j H k} h => by
    obtain ⟨h1, h2⟩ := List.getElem?_eq_some_iff.1 h
    obtain ⟨o, h3, h4⟩ := hob j h1
    refine ⟨by omega, ?_, H, mem_trs.2 ⟨k, h2 ▸ List.getElem_mem h1⟩⟩
    rw [h3]
    rw [h2] at h4
    cases o <;> simp [toO] at h4 ⊢
    exact ⟨h4.1.symm, h4.2.symm⟩
  have hσinj : ∀ {i j}, i < σ.length → j < σ.length → σ.getD i 0 = σ.getD j 0 → i = j := fun {i j} hi hj this => by
    simp only [List.getD_eq_getElem?_getD, List.getElem?_eq_getElem hi, List.getElem?_eq_getElem hj, Option.getD_some] at this
    exact (List.getElem_inj hnd).1 this
  have hentry : Hid ⟨w, A, I, ρc, none, fun H => H ∈ trs cobjs⟩ A (fun j => cobjs[j]?) ρc w := by
    refine ⟨fun i j H H' k k' h1 h2 => ?_, fun j H k h => ?_⟩
    · obtain ⟨g1, g2, _⟩ := htr0 h1; obtain ⟨g3, g4, _⟩ := htr0 h2
      exact hσinj g1 g3 (hs.hid.one _ _ _ _ _ _ g2 g4)
    · obtain ⟨g1, g2, g3⟩ := htr0 h
      obtain ⟨k1, k2, _⟩ := hs.hid.on _ _ _ g2
      obtain ⟨s, r, q1, q2, q3, q4⟩ := hs.nl g2
      have hB : ∀ b, H.B b → ¬ I b := fun b hb hi => by
        have := k2 b hb
        rcases (hIc b hi).1 with h | h
        · exact this.2 h
        · omega
      refine ⟨H.keep k1 (Nat.le_refl _) rfl rfl rfl (fun _ _ => rfl) (fun b hb => ⟨hb.1, .inl (.inr ⟨g3, hb⟩), fun ha => (hA b ha).2 (.inr ⟨g3, hb⟩), fun i o s' hi hr => ?_⟩) (fun b hb => ⟨hb.1, fun hB' => ?_, fun e => ?_⟩), fun b hb => ⟨Nat.lt_of_lt_of_le (k2 b hb).1 hs.kept.size, hB b hb⟩, mem_trs.2 ⟨k, List.mem_of_getElem? h⟩⟩
      · have hi' := hρc hr
        obtain ⟨o, b', s', q1, q2, _⟩ := hown i hi'
        rw [hτ i hi'] at hr
        exact hb.2.2.2 _ _ _ q1 hr
      · rcases hb.2.1 with h | h
        · exact hB b hB' h
        · have := hb.1; have h : w.heap.size ≤ b := h; omega
      · subst e; exact hb.2.2.2 j _ s h ((hτ j g1).trans q1)
  have hcall := hc w A I ρc vs (by rw [hvl]; exact hlen) hargv hA hI (fun j hj => by
    obtain ⟨o, h1, h2⟩ := hob j hj
    obtain ⟨b, s, k1, k2, _, k3⟩ := hs.obj _ _ h1
    exact ⟨b, s, (hτ j (by omega)).trans k1, .inl ⟨j, s, by omega, k1⟩, h2 ▸ obj_toO (fz := fz) hs hτ' hJA hOA k2⟩) (fun j p hj => by
    refine Classical.byContradiction fun hn => ?_
    have : ρc j = none := if_neg (by omega)
    rw [this] at hj; cases hj) (fun i j b s s' h1 h2 => by
    have hi : i < σ.length := by
      refine Classical.byContradiction fun hn => ?_
      have : ρc i = none := if_neg hn
      rw [this] at h1; cases h1
    have hj : j < σ.length := by
      refine Classical.byContradiction fun hn => ?_
      have : ρc j = none := if_neg hn
      rw [this] at h2; cases h2
    rw [hτ i hi] at h1; rw [hτ j hj] at h2
    obtain ⟨o, b1, s1, k1, _⟩ := hown i hi
    obtain ⟨o', b2, s2, k2, _⟩ := hown j hj
    have := hs.inj _ _ _ _ b s s' k1 k2 h1 h2
    simp only [List.getD_eq_getElem?_getD, List.getElem?_eq_getElem hi, List.getElem?_eq_getElem hj, Option.getD_some] at this
    exact (List.getElem_inj hnd).1 this) hentry (hs.laid.mono (fun b hb hlt => ⟨hJA b hb hlt, rfl⟩) (Nat.le_refl _))
  refine wpIn_enter hrun (Calls.mono hcall ?_)
  rintro e w' ⟨v, ρ', J', rfl, hv, hJ', hkept, hpin, hdom', hobj', hinj', hhid'⟩
  refine ⟨v, rfl, ?_⟩
  -- back at the caller
  let ρn : Rho := fun i => if nid ≤ i ∧ i < nid + (cobjs'.length - m) then ρ' (i - nid + m) else ρ i
  let Jn : Nat → Prop := fun b => J b ∨ (J' b ∧ (I b ∨ w.heap.size ≤ b))
  have hfresh : ∀ i p, ρ i = some p → ¬ (nid ≤ i ∧ i < nid + (cobjs'.length - m)) := fun i p hi hcon => hD i hcon.1 hcon.2 (hs.dom i p hi)
  have hρmono : ∀ i p, ρ i = some p → ρn i = some p := fun i p hi => by
    show (if nid ≤ i ∧ i < nid + (cobjs'.length - m) then ρ' (i - nid + m) else ρ i) = some p
    rw [if_neg (hfresh i p hi)]; exact hi
  have hout : ∀ j p, ρ' j = some p → ρn (outName σ m nid j) = some p := by
    intro j p hj
    have hjl := hdom' j p hj
    unfold outName
    by_cases h1 : j < m
    · rw [if_pos h1]
      have := hpin j h1
      rw [hj, hτ j (by omega)] at this
      exact hρmono _ _ this.symm
    · rw [if_neg h1]
      show (if nid ≤ nid + (j - m) ∧ nid + (j - m) < nid + (cobjs'.length - m) then ρ' (nid + (j - m) - nid + m) else ρ (nid + (j - m))) = some p
      rw [if_pos (by omega), show nid + (j - m) - nid + m = j by omega]; exact hj
  have hsame : ∀ b, b < w.heap.size → ¬ I b → w'.heap[b]? = w.heap[b]? := fun b hb hn => hkept.block b hb hn
  have conv : ∀ {v x}, Rep w' J' ρ' v x → (fz = true → noImm x) → Rep w' Jn ρn v (ren (outName σ m nid) x) := by
    intro v x h hn
    refine Rep.ren hout ?_
    cases hfz' : fz with
    | true => exact h.noImm (hn hfz')
    | false =>
      refine h.mono (J := J') (J' := Jn) (fun b hb _ => ⟨?_, rfl⟩) (Nat.le_refl _) (fun _ _ h => h)
      rcases (hJ' b hb).2 with h1 | h1
      · rcases h1.1 with h1 | ⟨h1, _⟩
        · exact .inl h1
        · rw [hfz'] at h1; cases h1
      · exact .inr ⟨hb, h1⟩
  have convO : ∀ {b s o}, ObjRep w' J' ρ' b s o → (fz = true → noImmO o) → ObjRep w' Jn ρn b s (renO (outName σ m nid) o) := by
    intro b s o h hn
    refine ObjRep.ren hout ?_
    cases hfz' : fz with
    | true => exact h.noImm (hn hfz')
    | false =>
      refine h.mono (J := J') (J' := Jn) (fun b hb _ => ⟨?_, rfl⟩) (Nat.le_refl _) (fun _ _ h => h) rfl
      rcases (hJ' b hb).2 with h1 | h1
      · rcases h1.1 with h1 | ⟨h1, _⟩
        · exact .inl h1
        · rw [hfz'] at h1; cases h1
      · exact .inr ⟨hb, h1⟩
  have hkeys : ∀ i ∈ σ, i ∈ (callUpd σ m nid cobjs').map (·.1) := by
    intro i hi
    obtain ⟨j, hj, rfl⟩ := List.getElem_of_mem hi
    simp only [callUpd, List.map_append, List.mem_append, List.map_map]
    by_cases h1 : j < m
    · left
      refine List.mem_map.2 ⟨(j, cobjs'[j]'(by omega)), ?_, by simp [outName, h1, List.getD_eq_getElem?_getD, hj]⟩
      refine look_mem ?_
      rw [look_idx]; simp
    · right
      refine List.mem_map.2 ⟨σ[j], ?_, rfl⟩
      rw [List.mem_iff_getElem]
      exact ⟨j - m, by simp; omega, by simp; congr 1; omega⟩
  have hlook : ∀ id o, look (callUpd σ m nid cobjs') id = some (some o) → ∃ j, ∃ (h : j < cobjs'.length), id = outName σ m nid j ∧ o = renO (outName σ m nid) cobjs'[j] := by
    intro id o ho
    have := look_mem ho
    simp only [callUpd, List.mem_append, List.mem_map] at this
    rcases this with ⟨p, hp, he⟩ | ⟨p, hp, he⟩
    · obtain ⟨_, h2⟩ := mem_idx hp
      simp only [Nat.sub_zero] at h2
      obtain ⟨hlt, h3⟩ := List.getElem?_eq_some_iff.1 h2
      simp only [Prod.mk.injEq, Option.some.injEq] at he
      exact ⟨p.1, hlt, he.1.symm, by rw [h3]; exact he.2.symm⟩
    · simp at he
  have htrIn : T → trIn (callUpd σ m nid cobjs') := by
    rintro ⟨H, hH⟩
    rw [← htr] at hH
    obtain ⟨k, hk⟩ := mem_trs.1 hH
    obtain ⟨j, hj, e⟩ := List.getElem_of_mem hk
    refine ⟨(outName σ m nid j, some (renO (outName σ m nid) cobjs'[j])), ?_, H, k, by rw [e]; rfl⟩
    simp only [callUpd, List.mem_append]
    refine .inl (List.mem_map.2 ⟨(j, cobjs'[j]), look_mem ?_, rfl⟩)
    rw [look_idx]; simp
  have htr' : ∀ {id H k}, look (callUpd σ m nid cobjs') id = some (some (.tr H k)) → ∃ j, ∃ (h : j < cobjs'.length), id = outName σ m nid j ∧ cobjs'[j] = .tr H k := fun {id H k} h => by
    obtain ⟨j, hj, h1, h2⟩ := hlook id _ h
    refine ⟨j, hj, h1, ?_⟩
    revert h2
    cases cobjs'[j] <;> simp [renO]
    intro a b; exact ⟨a.symm, b.symm⟩
  have hT' : trIn (callUpd σ m nid cobjs') → T := by
    rintro ⟨p, hp, H, k, e⟩
    simp only [callUpd, List.mem_append, List.mem_map] at hp
    rcases hp with ⟨q, hq, he⟩ | ⟨q, hq, he⟩
    · obtain ⟨_, h2⟩ := mem_idx hq
      simp only [Nat.sub_zero] at h2
      obtain ⟨hlt, h3⟩ := List.getElem?_eq_some_iff.1 h2
      have h4 : q.2 = .tr H k := by
        rw [← he] at e
        revert e
        cases q.2 <;> simp [renO]
      refine ⟨H, ?_⟩
      rw [← htr]
      exact mem_trs.2 ⟨k, h4 ▸ h3 ▸ List.getElem_mem hlt⟩
    · rw [← he] at e; cases e
  have hkmem : ∀ {id}, id ∈ (callUpd σ m nid cobjs').map (·.1) → ∀ {o}, (look (callUpd σ m nid cobjs') id).join = some o → look (callUpd σ m nid cobjs') id = some (some o) := fun {id} _ {o} h => by
    cases hl : look (callUpd σ m nid cobjs') id with | none => simp [hl] at h | some x => rw [hl] at h; simpa using h
  refine hK v w' ρn Jn ⟨hkept.size, hkept.os, hkept.tape, hkept.output, ?_, hρmono, ?_, fun b hb => .inl hb, ?_, conv hv (fun h => (hfz h).1), ?_, ?_, ?_⟩
  · intro b hb hne hnx
    refine hsame b hb ?_
    rintro (⟨j, s, hj, hr⟩ | ⟨hT, hx⟩)
    · obtain ⟨o, b', s', k1, k2, _⟩ := hown j hj
      exact hne (σ.getD j 0) o s (hkeys _ (hmem j hj)) k1 hr
    · exact hnx (htrIn hT) hx
  · intro i p hi
    by_cases hr : nid ≤ i ∧ i < nid + (cobjs'.length - m)
    · exact .inr hr
    · refine .inl ?_
      have : ρn i = ρ i := if_neg hr
      rw [this] at hi; exact hi
  · intro b hb
    rcases hb with hb | ⟨h1, (⟨j, s, hj, hr⟩ | ⟨hT, hx⟩) | h2⟩
    · exact .inl hb
    · obtain ⟨o, b', s', k1, k2, _⟩ := hown j hj
      exact .inr (.inr ⟨σ.getD j 0, o, s, hkeys _ (hmem j hj), k1, hr⟩)
    · exact .inr (.inl ⟨.inr ⟨htrIn hT, hx⟩, (hJ' b h1).1⟩)
    · exact .inr (.inl ⟨.inl h2, (hJ' b h1).1⟩)
  · intro id o ho
    obtain ⟨j, hj, rfl, rfl⟩ := hlook id o ho
    obtain ⟨b, s, k1, k2, k3, k4⟩ := hobj' j hj
    refine ⟨b, s, hout _ _ k1, convO k2 (fun h => (hfz h).2 j hj), ?_, ?_⟩
    · rintro (h1 | ⟨h1, _⟩)
      · rcases k3 with k3 | k3
        · exact (hIc b k3).2 h1
        · have := hs.jlt b h1; omega
      · exact k4 h1
    · rcases k3 with (⟨i, s2, hi, hr⟩ | ⟨hT, hx⟩) | k3
      · obtain ⟨o, b', s', q1, q2, _⟩ := hown i hi
        exact .inr ⟨σ.getD i 0, o, s2, hkeys _ (hmem i hi), q1, hr⟩
      · exact .inl (.inr ⟨htrIn hT, hx⟩)
      · exact .inl (.inl k3)
  · intro id id' o o' b s s' h1 h2 h3 h4
    obtain ⟨j, hj, rfl, rfl⟩ := hlook id o h1
    obtain ⟨j', hj', rfl, rfl⟩ := hlook id' o' h2
    obtain ⟨b1, s1, k1, _⟩ := hobj' j hj
    obtain ⟨b2, s2, k2, _⟩ := hobj' j' hj'
    have e1 := hout _ _ k1; rw [h3] at e1; cases e1
    have e2 := hout _ _ k2; rw [h4] at e2; cases e2
    rw [hinj' j j' b _ _ k1 k2]
  · intro hup
    have hT := hT' hup
    obtain ⟨H0, hH0⟩ := hT
    -- the caller's only one is handed over
    have hone : ∀ {id H k}, st.ob id = some (.tr H k) → id ∈ (callUpd σ m nid cobjs').map (·.1) := fun {id H k} h => by
      obtain ⟨k0, hk0⟩ := mem_trs.1 hH0
      obtain ⟨j, hj, e⟩ := List.getElem_of_mem hk0
      obtain ⟨g1, g2, _⟩ := htr0 (j := j) (H := H0) (k := k0) (by rw [List.getElem?_eq_getElem hj, e])
      rw [hs.hid.one _ _ _ _ _ _ h g2]
      exact hkeys _ (hmem j g1)
    have hin : ∀ {id H k}, (st.app none ⟨ren (outName σ m nid) r, callUpd σ m nid cobjs'⟩).ob id = some (.tr H k) → ∃ j, ∃ (h : j < cobjs'.length), id = outName σ m nid j ∧ cobjs'[j] = .tr H k := fun {id H k} h => by
      rw [St.ob_app] at h
      split at h
      · rename_i hk; exact htr' (hkmem hk h)
      · rename_i hk; exact absurd (hone h) hk
    refine ⟨fun id id' H H' k k' h1 h2 => ?_, fun id H k h => ?_⟩
    · obtain ⟨j, hj, rfl, e1⟩ := hin h1
      obtain ⟨j', hj', rfl, e2⟩ := hin h2
      rw [hhid'.one j j' H H' k k' (by rw [List.getElem?_eq_getElem hj, e1]) (by rw [List.getElem?_eq_getElem hj', e2])]
    · obtain ⟨j, hj, rfl, e1⟩ := hin h
      obtain ⟨k1, _⟩ := hhid'.on j H k (by rw [List.getElem?_eq_getElem hj, e1])
      have hB : (∀ b, H.B b → b < c.w0.heap.size ∧ ¬ c.I b) ∧ c.tr H := by
        have : H ∈ trs cobjs := by rw [← htr]; exact mem_trs.2 ⟨k, e1 ▸ List.getElem_mem hj⟩
        obtain ⟨k0, hk0⟩ := mem_trs.1 this
        obtain ⟨i, hi, e⟩ := List.getElem_of_mem hk0
        obtain ⟨g1, g2, _⟩ := htr0 (j := i) (H := H) (k := k0) (by rw [List.getElem?_eq_getElem hi, e])
        exact (hs.hid.on _ _ _ g2).2
      refine ⟨H.keep k1 (Nat.le_refl _) rfl rfl rfl (fun _ _ => rfl) (fun b hb => ?_) (fun b hb => ⟨hb.1, fun hB' => ?_, fun e => ?_⟩), hB⟩
      · obtain ⟨g1, g2, g3, g4⟩ := hb
        refine ⟨g1, ?_, ?_, fun id o s ho hr => ?_⟩
        · rcases g2 with g2 | g2
          · exact (hIc b g2).1
          · have := hs.kept.size; exact .inr (Nat.le_trans this g2)
        · rintro (h1 | ⟨h1, _⟩)
          · rcases g2 with g2 | g2
            · exact (hIc b g2).2 h1
            · have := hs.jlt b h1; have g2 : w.heap.size ≤ b := g2; omega
          · exact g3 h1
        · rw [St.ob_app] at ho
          split at ho
          · rename_i hk
            obtain ⟨i, hi, rfl, rfl⟩ := hlook id o (hkmem hk ho)
            obtain ⟨b1, s1, q1, _⟩ := hobj' i hi
            have e1 := hout _ _ q1; rw [hr] at e1; cases e1
            exact g4 i _ _ (List.getElem?_eq_getElem hi) q1
          · rename_i hk
            obtain ⟨b1, s1, q1, q2, _⟩ := hs.obj id o ho
            have e1 := hρmono _ _ q1; rw [hr] at e1; cases e1
            rcases g2 with (⟨i, s2, hi, hr2⟩ | ⟨_, hx⟩) | g2
            · obtain ⟨o2, b', s', p1, p2, _⟩ := hown i hi
              exact hk (by rw [hs.inj _ _ _ _ _ _ _ ho p1 q1 hr2]; exact hkeys _ (hmem i hi))
            · exact hx.2.2.2 _ _ _ ho q1
            · have := q2.lt; have g2 : w.heap.size ≤ b := g2; omega
      · have := hB.1 b hB'
        rcases hb.2.1 with h | h
        · exact this.2 h
        · omega
      · obtain ⟨b1, s1, q1, ⟨q2, _⟩, _⟩ := e1 ▸ hobj' j hj
        subst q2; subst e
        exact hb.2.2.2 _ _ _ h (hout _ _ q1)


theorem opT_call {dst : Option Nat} {ty : TypeId} {pos : String} {af : Array Edge} {g : Option (Nat × Bool)} {nid : Nat} {st : St} {f : FuncId} {xs : Array Operand} {tys : Array TypeId}
    {cargs : List AV} {cobjs : List AObj} {m : Nat} {r : AV} {cobjs' : List AObj} (hc : ACall P f cargs cobjs m r cobjs') (σ : List Nat) (fz : Bool) (hp : plainFn P f = true) (hm : m ≤ cobjs.length) (hm' : m ≤ cobjs'.length)
    (hσ : σ.length = cobjs.length) (hnd : σ.Nodup) (hlt : ∀ i ∈ σ, i < nid)
    (hob : ∀ j (h : j < cobjs.length), ∃ o, st.ob (σ.getD j 0) = some o ∧ cobjs[j] = toO st σ fz o)
    (hargs : cargs = xs.toList.map fun x => toA st σ fz 8 (st.op x))
    (hfz : fz = true → noImm r ∧ ∀ j (h : j < cobjs'.length), noImmO cobjs'[j]) (htr : trs cobjs' = trs cobjs) :
    OpT P ⟨dst, .call ⟨.value (.func f), xs, tys⟩, ty, pos, af, g⟩ nid (cobjs'.length - m) st ⟨ren (outName σ m nid) r, callUpd σ m nid cobjs'⟩ := by
  refine opT_callV (xvs := xs.toList.map fun x => st.op x) hc σ fz hm hm' (fun c ρ D J a w hs => ⟨xs.map a.eval, ?_, by simp, fun j hj => ?_⟩) hσ hnd hlt hob (by rw [hargs, List.map_map]; rfl) hfz htr
  · simp [execOp, resolve, Act.eval, Deferred.ofValue, invoke, run_call hp]
  · have hj' : j < xs.size := by simpa using hj
    have := hs.op xs[j]
    simpa [Array.getD, hj'] using this

end
end Go.Sy
/- Sym10. -/
set_option linter.unusedVariables false
set_option linter.unusedSectionVars false
set_option linter.unusedSimpArgs false
namespace Go.Sy

class TAgg (P : Program) (t : TypeId) (b : outParam Bool) : Prop where out : isAggB P t = some b
class TSiz (P : Program) (t : TypeId) (n : outParam Nat) : Prop where out : siz P t = some n
class TByt (P : Program) (t : TypeId) (n : outParam Nat) : Prop where out : byt P t = some n
class TZero (P : Program) (t : TypeId) (zs : outParam (List Value)) : Prop where out : zcells P t = some zs
class TElem (P : Program) (t : TypeId) (e : outParam TypeId) : Prop where out : elemOf P t = some e
class TArr (P : Program) (t : TypeId) (n : outParam Nat) (e : outParam TypeId) : Prop where out : arrOf P t = some (n, e)
class TField (P : Program) (t f : Nat) (off : outParam Nat) (ft : outParam TypeId) : Prop where out : fieldOf P t f = some (off, ft)
class TKind (P : Program) (t : TypeId) (k : outParam IntKind) : Prop where out : kindOf P t = some k
class TPlaces (P : Program) (t : TypeId) (l : outParam (List (Nat × Nat))) : Prop where out : placesOf P t = some l
class TStr (P : Program) (t : TypeId) : Prop where out : isStrB P t = true
class TPlain (P : Program) (f : FuncId) : Prop where out : plainFn P f = true

def AO (P : Program) (o : Oper) (nid : Nat) (st : St) (K : Nat → Eff → Prop) : Prop := ∃ k e, OpT P o nid k st e ∧ K k e

section
variable {P : Program} {Q : Exit → Nat → St → Prop} {nid : Nat} {st : St} {ops : Array Oper} {rest : List Oper} {dst : Option Nat} {op : Op} {ty : TypeId} {pos : String} {af : Array Edge} {g : Option (Nat × Bool)} {K : Nat → Eff → Prop}

theorem AL_go {n m d : Nat} {env : List (Nat × AV)} {objs : List (Nat × Option AObj)} (hd : dstOk n (some d) = true)
    (h : ∀ K : Nat → AV → List (Nat × Option AObj) → Prop, (∀ nid' v objs', AL P ops Q rest nid' ⟨n, m, (d, v) :: env, objs'⟩ → K nid' v objs') →
      AO P ⟨some d, op, ty, pos, af, none⟩ nid ⟨n, m, env, objs⟩ (fun k e => K (nid + k) e.v (e.upd ++ objs))) :
    AL P ops Q (⟨some d, op, ty, pos, af, none⟩ :: rest) nid ⟨n, m, env, objs⟩ := by
  obtain ⟨k, e, h1, h2⟩ := h (fun nid' v objs' => AL P ops Q rest nid' ⟨n, m, (d, v) :: env, objs'⟩) (fun _ _ _ h => h)
  exact AL_op h1 hd h2

theorem AL_go0 {n m : Nat} {env : List (Nat × AV)} {objs : List (Nat × Option AObj)}
    (h : ∀ K : Nat → AV → List (Nat × Option AObj) → Prop, (∀ nid' v objs', AL P ops Q rest nid' ⟨n, m, env, objs'⟩ → K nid' v objs') →
      AO P ⟨none, op, ty, pos, af, none⟩ nid ⟨n, m, env, objs⟩ (fun k e => K (nid + k) e.v (e.upd ++ objs))) :
    AL P ops Q (⟨none, op, ty, pos, af, none⟩ :: rest) nid ⟨n, m, env, objs⟩ := by
  obtain ⟨k, e, h1, h2⟩ := h (fun nid' v objs' => AL P ops Q rest nid' ⟨n, m, env, objs'⟩) (fun _ _ _ h => h)
  exact AL_op h1 rfl h2

theorem AL_guard {n m d j t : Nat} {env : List (Nat × AV)} {objs : List (Nat × Option AObj)} {b : Bool} (ht : dstAt ops j = some t) (hn : dstOk n (some t) = true)
    (h : ∀ K1 K2 : Prop, (AL P ops Q (⟨some d, op, ty, pos, af, none⟩ :: rest) nid ⟨n, m, env, objs⟩ → K1) → (AL P ops Q rest nid ⟨n, m, (d, noV) :: env, objs⟩ → K2) →
      gAV b (St.ev ⟨n, m, env, objs⟩ t) K1 K2) (hd : dstOk n (some d) = true) :
    AL P ops Q (⟨some d, op, ty, pos, af, some (j, b)⟩ :: rest) nid ⟨n, m, env, objs⟩ := by
  have hn' : t < n := by simpa [dstOk] using hn
  rcases h _ _ (fun h => h) (fun h => h) with ⟨b', hb, h1, h2⟩ | ⟨hb, h2⟩
  · by_cases e : b' = b
    · subst e
      intro c ρ J a w hs
      have := h1 rfl c ρ J a w hs
      unfold wpListIn at this ⊢
      rw [if_pos (by simp [Region.wanted])] at this
      rw [if_pos (by simp [Region.wanted, yielded_of hs ht hb hn'])]
      exact this
    · have e' : b' = !b := by cases b <;> cases b' <;> simp_all
      subst e'
      exact AL_pass ht hb hn' hd (h2 rfl)
  · exact AL_pass' ht hb hn' hd h2

theorem AC_cond_k {o : Operand} {x y : Code} (h : ∀ K1 K2 : Prop, (AC P x Q nid st → K1) → (AC P y Q nid st → K2) → ∃ b, st.op o = .val (.bool b) ∧ (b = true → K1) ∧ (b = false → K2)) : AC P (.cond o x y) Q nid st :=
  AC_cond (h _ _ (fun h => h) (fun h => h))

def keepE (env : List (Nat × AV)) : List Nat → List (Nat × AV)
  | [] => []
  | t :: ks => match look env t with
    | some v => (t, v) :: keepE env ks
    | none => keepE env ks

def dropKey (k : Nat) : List (Nat × Option AObj) → List (Nat × Option AObj)
  | [] => []
  | (i, o) :: l => if i = k then dropKey k l else (i, o) :: dropKey k l

def dedupO : Nat → List (Nat × Option AObj) → List (Nat × Option AObj)
  | 0, l => l
  | _, [] => []
  | f + 1, (i, some o) :: l => (i, some o) :: dedupO f (dropKey i l)
  | f + 1, (i, none) :: l => dedupO f (dropKey i l)

def subEnv (σ : List Nat) (st : St) : List (Nat × AV) → Prop
  | [] => True
  | (t, v) :: l => (v = .any ∨ st.ev t = ren (σ.getD · 0) v) ∧ bnd σ.length v ∧ subEnv σ st l
def subObj (σ : List Nat) (st : St) : List (Nat × Option AObj) → Prop
  | [] => True
  | (_, none) :: l => subObj σ st l
  | (i, some o) :: l => i < σ.length ∧ st.ob (σ.getD i 0) = some (renO (σ.getD · 0) o) ∧ bndO σ.length o ∧ subObj σ st l

theorem subEnv_mem {σ : List Nat} {l : List (Nat × AV)} (h : subEnv σ st l) : ∀ p ∈ l, (p.2 = .any ∨ st.ev p.1 = ren (σ.getD · 0) p.2) ∧ bnd σ.length p.2 := by
  induction l with
  | nil => intro p hp; cases hp
  | cons x l ih =>
    obtain ⟨t, v⟩ := x
    obtain ⟨h1, h2, h3⟩ := h
    intro p hp
    rcases List.mem_cons.1 hp with rfl | hp
    · exact ⟨h1, h2⟩
    · exact ih h3 p hp
theorem subObj_mem {σ : List Nat} {l : List (Nat × Option AObj)} (h : subObj σ st l) : ∀ p ∈ l, ∀ o, p.2 = some o → p.1 < σ.length ∧ st.ob (σ.getD p.1 0) = some (renO (σ.getD · 0) o) ∧ bndO σ.length o := by
  induction l with
  | nil => intro p hp; cases hp
  | cons x l ih =>
    obtain ⟨t, v⟩ := x
    intro p hp o ho
    cases v with
    | none =>
      rcases List.mem_cons.1 hp with rfl | hp
      · cases ho
      · exact ih h p hp o ho
    | some v =>
      obtain ⟨h1, h2, h3, h4⟩ := h
      rcases List.mem_cons.1 hp with rfl | hp
      · cases ho; exact ⟨h1, h2, h3⟩
      · exact ih h4 p hp o ho

theorem Sub.mk' {σ : List Nat} {n m : Nat} {env env' : List (Nat × AV)} {objs objs' : List (Nat × Option AObj)} (h1 : subEnv σ ⟨n, m, env, objs⟩ env') (h2 : subObj σ ⟨n, m, env, objs⟩ objs') (h3 : σ.Nodup) (h4 : σ.take m = List.range m) :
    Sub σ ⟨n, m, env', objs'⟩ ⟨n, m, env, objs⟩ :=
  ⟨rfl, fun p hp => (subEnv_mem h1 p hp).1, fun p hp => (subEnv_mem h1 p hp).2, fun p hp o ho => subObj_mem h2 p hp o ho, h3, rfl, h4⟩

theorem Ends.mk' {fn : Func} {objs0 : List AObj} {m : Nat} {r : AV} {objs' : List AObj} {e : Exit} {n : Nat} {env : List (Nat × AV)} {objs : List (Nat × Option AObj)} (he : e = .normal ∨ e = .ret) (σ : List Nat)
    (h1 : σ.length = objs'.length) (h2 : subObj σ ⟨n, m, env, objs⟩ ((idx 0 objs').map fun p => (p.1, some p.2))) (h3 : σ.Nodup) (h4 : σ.take m = List.range m)
    (h5 : resultAV P ⟨n, m, env, objs⟩ fn.results.toList = some (ren (σ.getD · 0) r)) (h6 : bnd σ.length r) : Ends P fn objs0 m r objs' e ⟨n, m, env, objs⟩ :=
  ⟨he, _, σ, Frz.refl _, Sub.mk' trivial h2 h3 h4, h1, rfl, h5, h6⟩

theorem R_move (x : Operand) (h : K 0 ⟨st.op x, []⟩) : AO P ⟨dst, .move x, ty, pos, af, g⟩ nid st K := ⟨_, _, opT_move x, h⟩
theorem R_assign (x : Operand) (h : K 0 ⟨st.op x, []⟩) : AO P ⟨dst, .assign x, ty, pos, af, g⟩ nid st K := ⟨_, _, opT_assign x, h⟩

theorem R_pick (x y z : Operand) (h : ∃ b, st.op x = .val (.bool b) ∧ K 0 ⟨pickAV b (st.op y) (st.op z), []⟩) : AO P ⟨dst, .pick x y z, ty, pos, af, g⟩ nid st K := by
  obtain ⟨b, h1, h2⟩ := h; exact ⟨_, _, opT_pick x y z b h1, h2⟩

def plainEq : Value → Value → Bool
  | .nilIface, .nilIface => false
  | .agg _, .agg _ => false
  | _, _ => true

theorem eqGuard_plain (bo : BinOp) (t : TypeId) (x y : Operand) (u v : Value) (h : plainEq u v = true) (w : World) : (eqGuard bo t x y u v).run P w = .ok () w := by
  unfold eqGuard
  cases bo <;> first | rfl | (simp only [Bool.not_true, Bool.false_eq_true, if_false]; split <;> first | (simp [plainEq] at h; done) | rfl)

def binAV (P : Program) (bo : BinOp) (t : TypeId) (x y : AV) : Option AV := match x, y with
  | .val u, .val v => if plainEq u v then (pbin P bo t u v).map ofV else none
  | _, _ => none

section
variable {t : TypeId} {k : IntKind} {a b : Int}
theorem bin_add : binAV P .add t (.val (.int k a)) (.val (.int k b)) = some (.val (.int k (k.wrap (a + b)))) := by simp [binAV, plainEq, pbin, ofV]
theorem bin_sub : binAV P .sub t (.val (.int k a)) (.val (.int k b)) = some (.val (.int k (k.wrap (a - b)))) := by simp [binAV, plainEq, pbin, ofV]
theorem bin_mul : binAV P .mul t (.val (.int k a)) (.val (.int k b)) = some (.val (.int k (k.wrap (a * b)))) := by simp [binAV, plainEq, pbin, ofV]
theorem bin_quo : binAV P .quo t (.val (.int k a)) (.val (.int k b)) = if b = 0 then none else some (.val (.int k (k.wrap (a.tdiv b)))) := by by_cases h : b = 0 <;> simp [binAV, plainEq, pbin, ofV, h]
theorem bin_rem : binAV P .rem t (.val (.int k a)) (.val (.int k b)) = if b = 0 then none else some (.val (.int k (a.tmod b))) := by by_cases h : b = 0 <;> simp [binAV, plainEq, pbin, ofV, h]
theorem bin_and : binAV P .and t (.val (.int k a)) (.val (.int k b)) = some (.val (.int k (k.wrap (BitVec.ofInt k.bits a &&& BitVec.ofInt k.bits b).toNat))) := by simp [binAV, plainEq, pbin, ofV]
theorem bin_or : binAV P .or t (.val (.int k a)) (.val (.int k b)) = some (.val (.int k (k.wrap (BitVec.ofInt k.bits a ||| BitVec.ofInt k.bits b).toNat))) := by simp [binAV, plainEq, pbin, ofV]
theorem bin_xor : binAV P .xor t (.val (.int k a)) (.val (.int k b)) = some (.val (.int k (k.wrap (BitVec.ofInt k.bits a ^^^ BitVec.ofInt k.bits b).toNat))) := by simp [binAV, plainEq, pbin, ofV]
theorem bin_andNot : binAV P .andNot t (.val (.int k a)) (.val (.int k b)) = some (.val (.int k (k.wrap (BitVec.ofInt k.bits a &&& ~~~ BitVec.ofInt k.bits b).toNat))) := by simp [binAV, plainEq, pbin, ofV]
theorem bin_shl {j : IntKind} : binAV P .shl t (.val (.int k a)) (.val (.int j b)) = if b < 0 then none else some (.val (.int k (k.wrap (a * 2 ^ (min b.toNat k.bits))))) := by by_cases h : b < 0 <;> simp [binAV, plainEq, pbin, ofV, h]
theorem bin_shr {j : IntKind} : binAV P .shr t (.val (.int k a)) (.val (.int j b)) = if b < 0 then none else some (.val (.int k (a.fdiv (2 ^ (min b.toNat k.bits))))) := by by_cases h : b < 0 <;> simp [binAV, plainEq, pbin, ofV, h]
theorem bin_eql : binAV P .eql t (.val (.int k a)) (.val (.int k b)) = some (.val (.bool (decide (a = b)))) := by simp [binAV, plainEq, pbin, ofV]
theorem bin_neq : binAV P .neq t (.val (.int k a)) (.val (.int k b)) = some (.val (.bool (decide (a ≠ b)))) := by simp [binAV, plainEq, pbin, ofV]
theorem bin_lss : binAV P .lss t (.val (.int k a)) (.val (.int k b)) = some (.val (.bool (decide (a < b)))) := by simp [binAV, plainEq, pbin, ofV]
theorem bin_leq : binAV P .leq t (.val (.int k a)) (.val (.int k b)) = some (.val (.bool (decide (a ≤ b)))) := by simp [binAV, plainEq, pbin, ofV]
theorem bin_gtr : binAV P .gtr t (.val (.int k a)) (.val (.int k b)) = some (.val (.bool (decide (b < a)))) := by simp [binAV, plainEq, pbin, ofV]
theorem bin_geq : binAV P .geq t (.val (.int k a)) (.val (.int k b)) = some (.val (.bool (decide (b ≤ a)))) := by simp [binAV, plainEq, pbin, ofV]
theorem bin_eqlS {x y : ByteArray} : binAV P .eql t (.val (.string x)) (.val (.string y)) = some (.val (.bool (decide (x = y)))) := by simp [binAV, plainEq, pbin, ofV]
theorem bin_neqS {x y : ByteArray} : binAV P .neq t (.val (.string x)) (.val (.string y)) = some (.val (.bool (decide (x ≠ y)))) := by simp [binAV, plainEq, pbin, ofV]
theorem bin_addS {x y : ByteArray} : binAV P .add t (.val (.string x)) (.val (.string y)) = if ((x.size + y.size : Nat) : Int) ≤ 9223372036854775807 then some (.val (.string (x ++ y))) else none := by
  simp only [binAV, plainEq, pbin, if_true]; split <;> simp [ofV]
end

class TBool (P : Program) (t : TypeId) : Prop where out : isBoolB P t = true
theorem bin_eqlB {t : TypeId} [h : TBool P t] {x y : Bool} : binAV P .eql t (.val (.bool x)) (.val (.bool y)) = some (.val (.bool (x == y))) := by simp [binAV, plainEq, pbin, ofV, h.out]
theorem bin_neqB {t : TypeId} [h : TBool P t] {x y : Bool} : binAV P .neq t (.val (.bool x)) (.val (.bool y)) = some (.val (.bool (x != y))) := by simp [binAV, plainEq, pbin, ofV, h.out]
class TPtr (P : Program) (t : TypeId) : Prop where out : isPtrB P t = true
theorem bin_eqlP {t : TypeId} [h : TPtr P t] {y : Option Addr} : binAV P .eql t (.val (.pointer none)) (.val (.pointer y)) = some (.val (.bool y.isNone)) := by simp [binAV, plainEq, pbin, ofV, h.out]
theorem bin_neqP {t : TypeId} [h : TPtr P t] {y : Option Addr} : binAV P .neq t (.val (.pointer none)) (.val (.pointer y)) = some (.val (.bool !y.isNone)) := by simp [binAV, plainEq, pbin, ofV, h.out]

theorem R_bin (bo : BinOp) (t : TypeId) (x y : Operand) (t' : TypeId) (h : ∃ r, binAV P bo t (st.op x) (st.op y) = some r ∧ K 0 ⟨r, []⟩) : AO P ⟨dst, .binOp bo t x y t', ty, pos, af, g⟩ nid st K := by
  obtain ⟨r, h1, h2⟩ := h
  unfold binAV at h1
  split at h1
  · rename_i u v hu hv
    split at h1
    · rename_i hp
      cases hb : pbin P bo t u v with
      | none => simp [hb] at h1
      | some q => simp [hb] at h1; subst h1; exact ⟨_, _, opT_binOp bo t x y t' u v q hu hv hb (eqGuard_plain bo t x y u v hp), h2⟩
    · cases h1
  · cases h1

theorem eq_isl {t e : TypeId} [h : TElem P t e] {z : Bool} {cs : List AV} {n : Nat} : eqAV P t (.isl z cs n) (.isl true [] 0) = some z := by unfold eqAV; rw [run_elemOf h.out]; rfl
theorem eq_sl {t e : TypeId} [h : TElem P t e] {id off n es : Nat} : eqAV P t (.sl id off n es) (.isl true [] 0) = some false := by unfold eqAV; rw [run_elemOf h.out]; rfl
theorem eq_pt {t : TypeId} [h : TPtr P t] {id off : Nat} : eqAV P t (.pt id off) (.val (.pointer none)) = some false := by obtain ⟨e, hu⟩ := run_isPtrB h.out; unfold eqAV; rw [hu]
theorem eq_ipt {t : TypeId} [h : TPtr P t] {cs : List AV} {off : Nat} : eqAV P t (.ipt cs off) (.val (.pointer none)) = some false := by obtain ⟨e, hu⟩ := run_isPtrB h.out; unfold eqAV; rw [hu]

theorem R_eqnil (t : TypeId) (x y : Operand) (t' : TypeId) (h : ∃ b, eqAV P t (st.op x) (st.op y) = some b ∧ K 0 ⟨.val (.bool b), []⟩) : AO P ⟨dst, .binOp .eql t x y t', ty, pos, af, g⟩ nid st K := by
  obtain ⟨b, h1, h2⟩ := h; exact ⟨_, _, opT_eqnil t x y t' b h1, h2⟩
theorem R_neqnil (t : TypeId) (x y : Operand) (t' : TypeId) (h : ∃ b, eqAV P t (st.op x) (st.op y) = some b ∧ K 0 ⟨.val (.bool !b), []⟩) : AO P ⟨dst, .binOp .neq t x y t', ty, pos, af, g⟩ nid st K := by
  obtain ⟨b, h1, h2⟩ := h; exact ⟨_, _, opT_neqnil t x y t' b h1, h2⟩

theorem R_not (t : TypeId) (x : Operand) (h : ∃ b, st.op x = .val (.bool b) ∧ K 0 ⟨.val (.bool !b), []⟩) : AO P ⟨dst, .unOp .not t x, ty, pos, af, g⟩ nid st K := by
  obtain ⟨b, h1, h2⟩ := h; exact ⟨_, _, opT_unOp_not t x b h1, h2⟩
theorem R_neg (t : TypeId) (x : Operand) (h : ∃ k n, st.op x = .val (.int k n) ∧ K 0 ⟨.val (.int k (k.wrap (0 - n))), []⟩) : AO P ⟨dst, .unOp .neg t x, ty, pos, af, g⟩ nid st K := by
  obtain ⟨k, n, h1, h2⟩ := h; exact ⟨_, _, opT_unOp_neg t x k n h1, h2⟩

theorem R_convert {ks k : IntKind} (s t : TypeId) (x : Operand) [hs : TKind P s ks] [ht : TKind P t k] (h : ∃ k' n, st.op x = .val (.int k' n) ∧ K 0 ⟨.val (.int k (k.wrap n)), []⟩) : AO P ⟨dst, .convert s t x, ty, pos, af, g⟩ nid st K := by
  obtain ⟨k', n, h1, h2⟩ := h; exact ⟨_, _, opT_convert_int s t x k k' n ks hs.out ht.out h1, h2⟩

theorem R_nilCheck (x : Operand) (h : (st.op x).notNil = true ∧ K 0 ⟨st.op x, []⟩) : AO P ⟨dst, .nilCheck x, ty, pos, af, g⟩ nid st K := ⟨_, _, opT_nilCheck x h.1, h.2⟩

def addPt (n : Nat) : AV → Option AV
  | .pt id off => some (.pt id (off + n))
  | .ipt cs off => some (.ipt cs (off + n))
  | _ => none

theorem R_fieldAddr {fo n : Nat} {ft : TypeId} (s : TypeId) (x : Operand) (f : Nat) [hf : TField P s f fo ft] [hz : TSiz P ft (n + 1)] (h : ∃ y, addPt fo (st.op x) = some y ∧ K 0 ⟨y, []⟩) : AO P ⟨dst, .fieldAddr s x f, ty, pos, af, g⟩ nid st K := by
  obtain ⟨y, h1, h2⟩ := h
  unfold addPt at h1
  split at h1
  · rename_i id off hx; cases h1; exact ⟨_, _, opT_fieldAddr_pt s x f id off fo n ft hx hf.out hz.out, h2⟩
  · rename_i cs off hx; cases h1; exact ⟨_, _, opT_fieldAddr_ipt s x f cs off fo n ft hx hf.out hz.out, h2⟩
  · cases h1

def idxAV (i es : Nat) : AV → Option (AV × Nat)
  | .sl id off len _ => some (.pt id (off + i * es), len)
  | .isl _ cs len => some (.ipt cs (i * es), len)
  | _ => none

theorem R_indexAddr {e : TypeId} {es : Nat} (t : TypeId) (x ix : Operand) [he : TElem P t e] [hz : TSiz P e es] (h : ∃ k i y len, st.op ix = .val (.int k i) ∧ idxAV i.toNat es (st.op x) = some (y, len) ∧ (0 ≤ i ∧ i < len) ∧ K 0 ⟨y, []⟩) : AO P ⟨dst, .indexAddr t x ix, ty, pos, af, g⟩ nid st K := by
  obtain ⟨k, i, y, len, h1, h2, h3, h4⟩ := h
  unfold idxAV at h2
  split at h2
  · rename_i id off l es' hx
    cases h2
    by_cases hes : es' = es
    · subst hes; exact ⟨_, _, opT_indexAddr_sl t x ix id off _ es' k i e hx h1 he.out hz.out h3, h4⟩
    · exact ⟨_, _, opT_indexAddr_sl' t x ix id off _ es es' k i e hx h1 he.out hz.out h3, h4⟩
  · rename_i z cs l hx
    cases h2
    exact ⟨_, _, opT_indexAddr_isl t x ix z cs _ es k i e hx h1 he.out hz.out h3, h4⟩
  · cases h2

theorem R_indexArr {e : TypeId} {n es : Nat} (t : TypeId) (x ix : Operand) [he : TArr P t n e] [hz : TSiz P e es] (h : ∃ k i y, st.op ix = .val (.int k i) ∧ addPt (i.toNat * es) (st.op x) = some y ∧ (0 ≤ i ∧ i < n) ∧ K 0 ⟨y, []⟩) : AO P ⟨dst, .indexAddr t x ix, ty, pos, af, g⟩ nid st K := by
  obtain ⟨k, i, y, h1, h2, h3, h4⟩ := h
  unfold addPt at h2
  split at h2
  · rename_i id off hx; cases h2; exact ⟨_, _, opT_indexAddr_arr t x ix id off n es k i e hx h1 he.out hz.out h3, h4⟩
  · rename_i cs off hx; cases h2; exact ⟨_, _, opT_indexAddr_iarr t x ix cs off n es k i e hx h1 he.out hz.out h3, h4⟩
  · cases h2

def cellsOb (off : Nat) : Option AObj → Option (List AV × Nat)
  | some (.cells cs _) => some (cs, off)
  | _ => none
def cellsAt (st : St) : AV → Option (List AV × Nat)
  | .pt id off => cellsOb off (st.ob id)
  | .ipt cs off => some (cs, off)
  | _ => none

theorem R_load (t : TypeId) (x : Operand) [ha : TAgg P t false] (h : ∃ cs off y, cellsAt st (st.op x) = some (cs, off) ∧ cs[off]? = some y ∧ K 0 ⟨y, []⟩) : AO P ⟨dst, .load t x, ty, pos, af, g⟩ nid st K := by
  obtain ⟨cs, off, y, h1, h2, h3⟩ := h
  unfold cellsAt at h1
  split at h1
  · rename_i id o hx
    unfold cellsOb at h1
    split at h1
    · rename_i cs' e ho; cases h1; exact ⟨_, _, opT_load_pt t x id _ _ e y hx ho ha.out h2, h3⟩
    · cases h1
  · rename_i cs' o hx; cases h1; exact ⟨_, _, opT_load_ipt t x _ _ y hx ha.out h2, h3⟩
  · cases h1

theorem R_loadAgg {n : Nat} (t : TypeId) (x : Operand) [ha : TAgg P t true] [hz : TSiz P t n] (h : ∃ cs off, cellsAt st (st.op x) = some (cs, off) ∧ off + n ≤ cs.length ∧ K 0 ⟨.agg ((cs.drop off).take n), []⟩) : AO P ⟨dst, .load t x, ty, pos, af, g⟩ nid st K := by
  obtain ⟨cs, off, h1, h2, h3⟩ := h
  unfold cellsAt at h1
  split at h1
  · rename_i id o hx
    unfold cellsOb at h1
    split at h1
    · rename_i cs' e ho; cases h1; exact ⟨_, _, opT_load_pt_agg t x id _ n _ e hx ho ha.out hz.out h2, h3⟩
    · cases h1
  · rename_i cs' o hx; cases h1; exact ⟨_, _, opT_load_ipt_agg t x _ n _ hx ha.out hz.out h2, h3⟩
  · cases h1

theorem R_extract (x : Operand) (i : Nat) (h : ∃ cs y, st.op x = .tup cs ∧ cs[i]? = some y ∧ K 0 ⟨y, []⟩) : AO P ⟨dst, .extract x i, ty, pos, af, g⟩ nid st K := by
  obtain ⟨cs, y, h1, h2, h3⟩ := h; exact ⟨_, _, opT_extract x i cs y h1 h2, h3⟩

theorem R_lenStr (t : TypeId) (x : Operand) [ht : TStr P t] (h : ∃ s, st.op x = .val (.string s) ∧ K 0 ⟨.val (.int .i64 s.size), []⟩) : AO P ⟨dst, .call ⟨.builtin .len, #[x], #[t]⟩, ty, pos, af, g⟩ nid st K := by
  obtain ⟨s, h1, h2⟩ := h; exact ⟨_, _, opT_len t x s.size (by rw [h1]; rfl) (by rw [h1]; unfold lenType; rw [run_isStrB ht.out]), h2⟩

def lenSl : AV → Option Nat
  | .isl _ _ n => some n
  | .sl _ _ n _ => some n
  | _ => none

theorem R_len {e : TypeId} (t : TypeId) (x : Operand) [ht : TElem P t e] (h : ∃ n, lenSl (st.op x) = some n ∧ K 0 ⟨.val (.int .i64 n), []⟩) : AO P ⟨dst, .call ⟨.builtin .len, #[x], #[t]⟩, ty, pos, af, g⟩ nid st K := by
  obtain ⟨n, h1, h2⟩ := h
  have hu := run_elemOf ht.out
  refine ⟨_, _, opT_len t x n ?_ ?_, h2⟩
  · revert h1; unfold lenSl lenAV; split <;> simp_all
  · revert h1; unfold lenSl lenType; rw [hu]; split <;> simp_all

end
end Go.Sy
/- Sym11. -/
set_option linter.unusedVariables false
set_option linter.unusedSectionVars false
set_option linter.unusedSimpArgs false
namespace Go.Sy

section
variable {P : Program} {Q : Exit → Nat → St → Prop} {nid : Nat} {st : St} {dst : Option Nat} {ty : TypeId} {pos : String} {af : Array Edge} {g : Option (Nat × Bool)} {K : Nat → Eff → Prop}

theorem R_alloc {zs : List Value} (e : TypeId) [hz : TZero P e zs] (h : zs.all Value.oneCell' = true ∧ K 1 ⟨.pt nid 0, [(nid, some (.cells (zs.map ofV) e))]⟩) : AO P ⟨dst, .alloc e, ty, pos, af, g⟩ nid st K :=
  ⟨_, _, opT_alloc e zs hz.out h.1, h.2⟩

theorem R_box (e : TypeId) (x : Operand) (h : ∃ cs, (st.op x).parts = some cs ∧ cs.all AV.scalar = true ∧ K 1 ⟨.pt nid 0, [(nid, some (.cells cs e))]⟩) : AO P ⟨dst, .box e x, ty, pos, af, g⟩ nid st K := by
  obtain ⟨cs, h1, h2, h3⟩ := h; exact ⟨_, _, opT_box e x cs h1 h2, h3⟩

def putAV (cs : List AV) (off : Nat) (vs : List AV) : List AV := match vs with
  | [v] => cs.set off v
  | vs => spl cs off vs

theorem putAV_spl (cs : List AV) (off : Nat) (vs : List AV) (h : off + vs.length ≤ cs.length) : putAV cs off vs = spl cs off vs := by
  unfold putAV
  split
  · rw [spl_one]; simp at h; omega
  · rfl

theorem R_store {n : Nat} (t : TypeId) (x y : Operand) [hz : TSiz P t n] (h : ∃ id off cs e vs, st.op x = .pt id off ∧ st.ob id = some (.cells cs e) ∧ (st.op y).parts = some vs ∧ vs.all AV.scalar = true ∧ vs.length = n ∧ off + n ≤ cs.length ∧
      K 0 ⟨.any, [(id, some (.cells (putAV cs off vs) e))]⟩) : AO P ⟨dst, .store t x y, ty, pos, af, g⟩ nid st K := by
  obtain ⟨id, off, cs, e, vs, h1, h2, h3, h4, h5, h6, h7⟩ := h
  rw [putAV_spl _ _ _ (by omega)] at h7
  exact ⟨_, _, opT_store t x y id off n cs vs e h1 h2 h3 h4 hz.out h5 h6, h7⟩

theorem R_build {zs : List Value} {pl : List (Nat × Nat)} (t : TypeId) (ps : Array (Nat × Operand)) [hz : TZero P t zs] [hp : TPlaces P t pl]
    (h : ∃ out, fillAV (pl[·]?) (zs.map ofV) (ps.toList.map fun p => (p.1, st.op p.2)) = some out ∧ K 0 ⟨.agg out, []⟩) : AO P ⟨dst, .build t ps, ty, pos, af, g⟩ nid st K := by
  obtain ⟨out, h1, h2⟩ := h; exact ⟨_, _, opT_build t ps zs pl out hz.out hp.out h1, h2⟩

theorem R_buildSlice {e : TypeId} {es : Nat} {zs : List Value} (t : TypeId) (len : Nat) (ps : Array (Nat × Operand)) [he : TElem P t e] [hs : TSiz P e es] [hz : TZero P e zs]
    (h : ∃ out, fillAV (fun i => some (i * es, es)) (zrow zs len) (ps.toList.map fun p => (p.1, st.op p.2)) = some out ∧ zs.length = es ∧ zs.all Value.oneCell' = true ∧ len * es ≤ 16777216 ∧ out.all AV.scalar = true ∧ out.length = len * es ∧
      K 1 ⟨.sl nid 0 len es, [(nid, some (.cells out e))]⟩) : AO P ⟨dst, .buildSlice t len ps, ty, pos, af, g⟩ nid st K := by
  obtain ⟨out, h1, h2, h3, h4, h5, h6, h7⟩ := h; exact ⟨_, _, opT_buildSlice t len ps e es zs out he.out hs.out hz.out h2 h3 h4 h1 h5 h6, h7⟩

theorem R_makeSlice {e : TypeId} {es by' : Nat} {zs : List Value} (t : TypeId) (l c : Operand) [he : TElem P t e] [hs : TSiz P e es] [hb : TByt P e by'] [hz : TZero P e zs]
    (h : ∃ kl kc n, st.op l = .val (.int kl n) ∧ st.op c = .val (.int kc n) ∧ zs.length = es ∧ zs.all Value.oneCell' = true ∧ 0 ≤ n ∧ n ≤ 9223372036854775807 ∧ (by' : Int) * n ≤ 281474976710656 ∧
      K 1 ⟨.sl nid 0 n.toNat es, [(nid, some (.cells (zrow zs n.toNat) e))]⟩) : AO P ⟨dst, .makeSlice t l c, ty, pos, af, g⟩ nid st K := by
  obtain ⟨kl, kc, n, h1, h2, h3, h4, h5, h6, h7, h8⟩ := h
  exact ⟨_, _, opT_makeSlice t l c e es by' zs kl kc n he.out hs.out hz.out h3 h4 hb.out h1 h2 h5 h6 h7, h8⟩

theorem R_sliceStr (t : TypeId) (x : Operand) (lo hi : Option Operand) [ht : TStr P t] (h : ∃ s l u, st.op x = .val (.string s) ∧ boundAV st 0 lo = some l ∧ boundAV st s.size hi = some u ∧ (0 ≤ l ∧ l ≤ u ∧ u ≤ s.size) ∧ K 0 ⟨.val (.string (s.extract l.toNat u.toNat)), []⟩) :
    AO P ⟨dst, .slice t x lo hi none, ty, pos, af, g⟩ nid st K := by
  obtain ⟨s, l, u, h1, h2, h3, ⟨h4, h5, h6⟩, h7⟩ := h; exact ⟨_, _, opT_slice_str t x lo hi s l u ht.out h1 h2 h3 h4 h5 h6, h7⟩

theorem R_sliceI {e : TypeId} {es : Nat} (t : TypeId) (x : Operand) (lo hi : Option Operand) [ht : TElem P t e] [hs : TSiz P e es] (h : ∃ z cs len l u, st.op x = .isl z cs len ∧ boundAV st 0 lo = some l ∧ boundAV st len hi = some u ∧ (0 ≤ l ∧ l ≤ u ∧ u ≤ len) ∧
      K 0 ⟨.isl z ((cs.drop (l.toNat * es)).take ((u.toNat - l.toNat) * es)) (u.toNat - l.toNat), []⟩) : AO P ⟨dst, .slice t x lo hi none, ty, pos, af, g⟩ nid st K := by
  obtain ⟨z, cs, len, l, u, h1, h2, h3, ⟨h4, h5, h6⟩, h7⟩ := h; exact ⟨_, _, opT_slice_isl t e x lo hi z cs len es l u ht.out hs.out h1 h2 h3 h4 h5 h6, h7⟩

theorem R_slice {e : TypeId} {es : Nat} (t : TypeId) (x : Operand) (lo hi : Option Operand) [ht : TElem P t e] [hs : TSiz P e es] (h : ∃ id off len es' l u, st.op x = .sl id off len es' ∧ es' = es ∧ boundAV st 0 lo = some l ∧ boundAV st len hi = some u ∧ (0 ≤ l ∧ l ≤ u ∧ u ≤ len) ∧
      (l < len ∨ l = 0) ∧ K 0 ⟨.sl id (off + l.toNat * es) (u.toNat - l.toNat) es, []⟩) : AO P ⟨dst, .slice t x lo hi none, ty, pos, af, g⟩ nid st K := by
  obtain ⟨id, off, len, es', l, u, h1, rfl, h2, h3, ⟨h4, h5, h6⟩, h7, h8⟩ := h; exact ⟨_, _, opT_slice_sl t e x lo hi id off len es' l u ht.out hs.out h1 h2 h3 h4 h5 h6 h7, h8⟩

theorem R_sliceEnd {e : TypeId} {es : Nat} (t : TypeId) (x : Operand) (lo hi : Option Operand) [ht : TElem P t e] [hs : TSiz P e es] (h : ∃ id off len es' l u, st.op x = .sl id off len es' ∧ es' = es ∧ boundAV st 0 lo = some l ∧ boundAV st len hi = some u ∧ (0 ≤ l ∧ l = u ∧ u ≤ len) ∧
      K 0 ⟨.isl false [] 0, []⟩) : AO P ⟨dst, .slice t x lo hi none, ty, pos, af, g⟩ nid st K := by
  obtain ⟨id, off, len, es', l, u, h1, rfl, h2, h3, ⟨h4, h5, h6⟩, h7⟩ := h; exact ⟨_, _, opT_slice_end t e x lo hi id off len es' l u ht.out hs.out h1 h2 h3 h4 h5 h6, h7⟩

theorem R_appendNil {e : TypeId} {es by' : Nat} {zs : List Value} (t : TypeId) (x y : Operand) [he : TElem P t e] [hs : TSiz P e es] [hb : TByt P e by'] [hz : TZero P e zs]
    (h : ∃ cells m, st.op x = .isl true [] 0 ∧ srcOf st (st.op y) = some (cells, m) ∧ zs.length = es ∧ zs.all Value.oneCell' = true ∧ cells.length = m * es ∧ 0 < m ∧ m * by' ≤ 140737488355328 ∧ m ≤ 9223372036854775807 ∧ K 1 ⟨.sl nid 0 m es, [(nid, some (.cells cells e))]⟩) :
    AO P ⟨dst, .call ⟨.builtin .append, #[x, y], #[t, t]⟩, ty, pos, af, g⟩ nid st K := by
  obtain ⟨cells, m, h1, h2, h3, hz1, h4, h5, h6, h7, h8⟩ := h
  exact ⟨_, _, opT_append_nil t x y e es by' m zs cells he.out hs.out hz.out h3 hz1 hb.out h1 h2 h4 h5 h6 h7, h8⟩

theorem R_append {e : TypeId} {es by' : Nat} {zs : List Value} (t : TypeId) (x y : Operand) [he : TElem P t e] [hs : TSiz P e es] [hb : TByt P e by'] [hz : TZero P e zs]
    (h : ∃ id n cs cells m, st.op x = .sl id 0 n es ∧ st.ob id = some (.cells cs e) ∧ srcOf st (st.op y) = some (cells, m) ∧ zs.length = es ∧ zs.all Value.oneCell' = true ∧ cs.length = n * es ∧ cells.length = m * es ∧ (n + m) * by' ≤ 140737488355328 ∧ n + m ≤ 9223372036854775807 ∧
      K 1 ⟨.sl nid 0 (n + m) es, [(nid, some (.cells (cs ++ cells) e)), (id, none)]⟩) :
    AO P ⟨dst, .call ⟨.builtin .append, #[x, y], #[t, t]⟩, ty, pos, af, g⟩ nid st K := by
  obtain ⟨id, n, cs, cells, m, h1, h2, h3, h4, hz1, h5, h6, h7, h8, h9⟩ := h
  exact ⟨_, _, opT_append_own t x y e id n es by' m zs cs cells he.out hs.out hz.out h4 hz1 hb.out h1 h2 h5 h3 h6 h7 h8, h9⟩

theorem R_call {f : FuncId} {xs : Array Operand} {tys : Array TypeId} {cargs : List AV} {cobjs : List AObj} {m : Nat} {r : AV} {cobjs' : List AObj} [hp : TPlain P f] (hc : ACall P f cargs cobjs m r cobjs') (σ : List Nat) (fz : Bool)
    (hm : m ≤ cobjs.length ∧ m ≤ cobjs'.length ∧ σ.length = cobjs.length ∧ σ.Nodup ∧ (∀ i ∈ σ, i < nid))
    (hob : ∀ j (h : j < cobjs.length), ∃ o, st.ob (σ.getD j 0) = some o ∧ cobjs[j] = toO st σ fz o)
    (hargs : cargs = xs.toList.map fun x => toA st σ fz 8 (st.op x))
    (hfz : fz = true → noImm r ∧ ∀ j (h : j < cobjs'.length), noImmO cobjs'[j]) (htr : trs cobjs' = trs cobjs)
    (h : K (cobjs'.length - m) ⟨ren (outName σ m nid) r, callUpd σ m nid cobjs'⟩) : AO P ⟨dst, .call ⟨.value (.func f), xs, tys⟩, ty, pos, af, g⟩ nid st K :=
  ⟨_, _, opT_call hc σ fz hp.out hm.1 hm.2.1 hm.2.2.1 hm.2.2.2.1 hm.2.2.2.2 hob hargs hfz htr, h⟩

end
end Go.Sy
