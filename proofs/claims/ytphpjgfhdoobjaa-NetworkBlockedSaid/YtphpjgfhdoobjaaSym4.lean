/-
  The operations of the symbolic walk that make memory or change it. No condition.
-/
import Derived.Test.YtphpjgfhdoobjaaSym3
set_option linter.unusedVariables false
set_option linter.unusedSectionVars false
set_option linter.unusedSimpArgs false
namespace Go.Sy

/-- One new block, nothing else. -/
structure Grew (w w' : World) (o : Obj) : Prop where
  heap : w'.heap = w.heap.push o
  os : w'.os = w.os
  tape : w'.tape = w.tape
  output : w'.output = w.output

theorem Grew.alloc (w : World) (o : Obj) : Grew w (w.alloc o) o := ⟨rfl, rfl, rfl, rfl⟩
theorem Grew.drew (w : World) (o : Obj) : Grew w (w.drew.alloc o) o := ⟨rfl, rfl, rfl, rfl⟩

theorem Grew.old {w w' : World} {o : Obj} (h : Grew w w' o) {b : Nat} (hb : b < w.heap.size) : w'.heap[b]? = w.heap[b]? := by
  rw [h.heap, Array.getElem?_push, if_neg (by omega)]
theorem Grew.size {w w' : World} {o : Obj} (h : Grew w w' o) : w'.heap.size = w.heap.size + 1 := by rw [h.heap, Array.size_push]
theorem Grew.new {w w' : World} {o : Obj} (h : Grew w w' o) : w'.heap[w.heap.size]? = some o := by rw [h.heap]; simp

/-- ρ with a new name. -/
def Rho.add (ρ : Rho) (id b s : Nat) : Rho := fun i => if i = id then some (b, s) else ρ i

theorem Rho.add_mono {ρ : Rho} {id b s : Nat} (h : ρ id = none) : ∀ i p, ρ i = some p → (ρ.add id b s) i = some p := by
  intro i p hi; unfold Rho.add; split
  · rename_i e; subst e; rw [h] at hi; cases hi
  · exact hi

theorem Rep.grew {w w' : World} {J : Nat → Prop} {ρ ρ' : Rho} {o : Obj} (g : Grew w w' o) (hρ : ∀ i p, ρ i = some p → ρ' i = some p) {v : Value} {x : AV} (h : Rep w J ρ v x) : Rep w' J ρ' v x := by
  refine h.mono (J := J) (J' := J) ?_ (by rw [g.size]; omega) hρ
  exact fun b hb hlt => ⟨hb, g.old hlt⟩

section
variable {P : Program} {dst : Option Nat} {ty : TypeId} {pos : String} {af : Array Edge} {g : Option (Nat × Bool)} {nid : Nat} {st : St}

/-- An operation that makes one object. -/
theorem OpT.alloc {o : Oper} {x : AV} {ob : AObj}
    (h : ∀ (c : Ctx) (ρ : Rho) (D J : Nat → Prop) (a : Act) (w : World), Sim c ρ D J st a w → ∃ v w' obj s, (execOp a.eval o).run P w = .ok (.value v) w' ∧ Grew w w' obj ∧
      ∀ ρ' : Rho, ρ' nid = some (w.heap.size, s) → (∀ i p, ρ i = some p → ρ' i = some p) → Rep w' J ρ' v x ∧ ObjRep w' J ρ' w.heap.size s ob) :
    OpT P o nid 1 st ⟨x, [(nid, some ob)]⟩ := by
  intro c ρ D J a w hs hD K Q hK
  obtain ⟨v, w', obj, s, hr, hg, hrep⟩ := h c ρ D J a w hs
  have hn : ρ nid = none := by
    cases hp : ρ nid with
    | none => rfl
    | some p => exact absurd (hs.dom nid p hp) (hD nid (Nat.le_refl _) (by omega))
  have hmono := Rho.add_mono (b := w.heap.size) (s := s) hn
  have hnew : (ρ.add nid w.heap.size s) nid = some (w.heap.size, s) := by simp [Rho.add]
  obtain ⟨h1, h2⟩ := hrep _ hnew hmono
  unfold Oper.wp; rw [hr]
  refine hK v w' (ρ.add nid w.heap.size s) J ⟨by rw [hg.size]; omega, hg.os, hg.tape, hg.output, fun b hb _ => hg.old hb, hmono, ?_, fun _ h => h, fun _ h => .inl h, h1, ?_, ?_⟩
  · intro i p hi
    unfold Rho.add at hi
    split at hi
    · rename_i e; exact .inr (by omega)
    · exact .inl hi
  · intro id o' ho
    simp only [look] at ho
    split at ho
    · rename_i e; subst e; cases ho
      exact ⟨w.heap.size, s, hnew, h2, fun hj => by have := hs.jlt _ hj; omega, .inl (Nat.le_refl _)⟩
    · cases ho
  · intro id id' o1 o2 b s1 s2 h1 h2 _ _
    simp only [look] at h1 h2
    split at h1
    · split at h2
      · omega
      · cases h2
    · cases h1

/-- An operation that changes one object in place. 'r': its value (nothing, for a store). -/
theorem OpT.modify {o : Oper} {x : AV} {id : Nat} {o0 o1 : AObj} (ho : st.ob id = some o0)
    (h : ∀ (c : Ctx) (ρ : Rho) (D J : Nat → Prop) (a : Act) (w : World) (b s : Nat), Sim c ρ D J st a w → ρ id = some (b, s) → ObjRep w J ρ b s o0 → ¬ J b →
      ∃ nx w' v, (execOp a.eval o).run P w = .ok nx w' ∧ (nx = .value v ∨ nx = .skip ∧ v = undef) ∧ w'.heap.size = w.heap.size ∧ w'.os = w.os ∧ w'.tape = w.tape ∧ w'.output = w.output ∧
        (∀ k, k ≠ b → w'.heap[k]? = w.heap[k]?) ∧ ((∀ u y, Rep w J ρ u y → Rep w' J ρ u y) → Rep w' J ρ v x ∧ ObjRep w' J ρ b s o1)) :
    OpT P o nid 0 st ⟨x, [(id, some o1)]⟩ := by
  intro c ρ D J a w hs hD K Q hK
  obtain ⟨b, s, hρ, hob, _, hnJ⟩ := hs.obj id o0 ho
  obtain ⟨nx, w', v, hr, hnx, hsz, hos, htp, hout, hoth, hrep⟩ := h c ρ D J a w b s hs hρ hob hnJ
  obtain ⟨h1, h2⟩ := hrep (fun u y hu => hu.mono (J := J) (J' := J) (fun k hk _ => ⟨hk, hoth k (fun e => hnJ (e ▸ hk))⟩) (by omega) (fun _ _ h => h))
  have hpost : Post c nid 0 st ⟨x, [(id, some o1)]⟩ ρ ρ J J w w' v := by
    refine ⟨by omega, hos, htp, hout, ?_, fun _ _ h => h, fun _ _ h => .inl h, fun _ h => h, fun _ h => .inl h, h1, ?_, ?_⟩
    · intro k hk hne
      exact hoth k (fun e => hne id o0 s (by simp [Eff.keys]) ho (e ▸ hρ))
    · intro i o' hi
      simp only [look] at hi
      split at hi
      · rename_i e; subst e; cases hi
        exact ⟨b, s, hρ, h2, hnJ, .inr ⟨i, o0, s, by simp [Eff.keys], ho, hρ⟩⟩
      · cases hi
    · intro i i' o1 o2 b s1 s2 h1 h2 _ _
      simp only [look] at h1 h2
      split at h1
      · split at h2
        · omega
        · cases h2
      · cases h1
  unfold Oper.wp; rw [hr]
  rcases hnx with rfl | ⟨rfl, rfl⟩
  · exact hK v w' ρ J hpost
  · exact hK undef w' ρ J hpost

/-- An operation that puts an object's content, longer now, into the same block or into a new one: under a new name. -/
theorem OpT.regrow {o : Oper} {x : AV} {id : Nat} {o0 o1 : AObj} (ho : st.ob id = some o0)
    (h : ∀ (c : Ctx) (ρ : Rho) (D J : Nat → Prop) (a : Act) (w : World) (b s : Nat), Sim c ρ D J st a w → ρ id = some (b, s) → ObjRep w J ρ b s o0 → ¬ J b →
      ∃ w' v b' s', (execOp a.eval o).run P w = .ok (.value v) w' ∧ w.heap.size ≤ w'.heap.size ∧ w'.os = w.os ∧ w'.tape = w.tape ∧ w'.output = w.output ∧ (b' = b ∨ b' = w.heap.size) ∧
        (∀ k, k < w.heap.size → k ≠ b → w'.heap[k]? = w.heap[k]?) ∧
        ∀ ρ' : Rho, ρ' nid = some (b', s') → (∀ i p, ρ i = some p → ρ' i = some p) → (∀ u y, Rep w J ρ u y → Rep w' J ρ' u y) → Rep w' J ρ' v x ∧ ObjRep w' J ρ' b' s' o1) :
    OpT P o nid 1 st ⟨x, [(nid, some o1), (id, none)]⟩ := by
  intro c ρ D J a w hs hD K Q hK
  obtain ⟨b, s, hρ, hob, _, hnJ⟩ := hs.obj id o0 ho
  obtain ⟨w', v, b', s', hr, hsz, hos, htp, hout, hbb, hoth, hrep⟩ := h c ρ D J a w b s hs hρ hob hnJ
  have hn : ρ nid = none := by
    cases hp : ρ nid with
    | none => rfl
    | some p => exact absurd (hs.dom nid p hp) (hD nid (Nat.le_refl _) (by omega))
  have hmono := Rho.add_mono (b := b') (s := s') hn
  have hnew : (ρ.add nid b' s') nid = some (b', s') := by simp [Rho.add]
  obtain ⟨h1, h2⟩ := hrep _ hnew hmono (fun u y hu => hu.mono (J := J) (J' := J) (fun k hk hlt => ⟨hk, hoth k hlt (fun e => hnJ (e ▸ hk))⟩) hsz hmono)
  unfold Oper.wp; rw [hr]
  refine hK v w' (ρ.add nid b' s') J ⟨hsz, hos, htp, hout, ?_, hmono, ?_, fun _ h => h, fun _ h => .inl h, h1, ?_, ?_⟩
  · intro k hk hne
    exact hoth k hk (fun e => hne id o0 s (by simp [Eff.keys]) ho (e ▸ hρ))
  · intro i p hi
    unfold Rho.add at hi
    split at hi
    · rename_i e; exact .inr (by omega)
    · exact .inl hi
  · intro i o' hi
    simp only [look] at hi
    split at hi
    · rename_i e; subst e; cases hi
      refine ⟨b', s', hnew, h2, ?_, ?_⟩
      · rcases hbb with rfl | rfl
        · exact hnJ
        · intro hj; have := hs.jlt _ hj; omega
      · rcases hbb with rfl | rfl
        · exact .inr ⟨id, o0, s, by simp [Eff.keys], ho, hρ⟩
        · exact .inl (Nat.le_refl _)
    · split at hi
      · cases hi
      · cases hi
  · intro i i' o1 o2 b s1 s2 h1 h2 _ _
    simp only [look] at h1 h2
    split at h1
    · split at h2
      · omega
      · split at h2 <;> cases h2
    · split at h1 <;> cases h1

/-- The cells of a value that is stored or boxed. -/
def AV.parts : AV → Option (List AV)
  | .agg cs => some cs
  | .tup _ | .any => none
  | .val v => if v.oneCell' then some [.val v] else none
  | x => some [x]

theorem parts_rep {w : World} {J : Nat → Prop} {ρ : Rho} {v : Value} {x : AV} {cs : List AV} (h : Rep w J ρ v x) (hc : x.parts = some cs) (hs : cs.all AV.scalar = true) :
    v.cells.size = cs.length ∧ ∀ j (hj : j < cs.length), (v.cells.getD j undef).oneCell' = true ∧ Rep w J ρ (v.cells.getD j undef) cs[j] := by
  have one : ∀ {v : Value} {x : AV}, Rep w J ρ v x → x.scalar = true → v.cells = #[v] → cs = [x] → v.cells.size = cs.length ∧ ∀ j (hj : j < cs.length), (v.cells.getD j undef).oneCell' = true ∧ Rep w J ρ (v.cells.getD j undef) cs[j] := by
    intro v x h hx hv hcs
    subst hcs
    rw [hv]
    refine ⟨rfl, fun j hj => ?_⟩
    have : j = 0 := by simpa using hj
    subst this
    exact ⟨h.oneCell hx, h⟩
  cases h with
  | agg vs _ h1 h2 =>
    simp only [AV.parts, Option.some.injEq] at hc
    subst hc
    refine ⟨h1, fun j hj => ⟨(h2 j hj).oneCell ?_, h2 j hj⟩⟩
    exact List.all_eq_true.1 hs _ (List.getElem_mem hj)
  | val v =>
    simp only [AV.parts] at hc
    split at hc
    · rename_i hv
      simp only [Option.some.injEq] at hc
      exact one (.val v) hv (by cases v <;> first | rfl | cases hv) hc.symm
    · cases hc
  | any v => cases hc
  | tup => cases hc
  | inil => simp only [AV.parts, Option.some.injEq] at hc; exact one .inil rfl rfl hc.symm
  | iemp a cap => simp only [AV.parts, Option.some.injEq] at hc; exact one (.iemp a cap) rfl rfl hc.symm
  | isl b off len cap cells u hb hcc h0 h1 h2 => simp only [AV.parts, Option.some.injEq] at hc; exact one (.isl b off len cap cells u hb hcc h0 h1 h2) rfl rfl hc.symm
  | ipt b off k cells u hb h0 h1 h2 => simp only [AV.parts, Option.some.injEq] at hc; exact one (.ipt b off k cells u hb h0 h1 h2) rfl rfl hc.symm
  | sl b s id off len es cap h hcc hs' => simp only [AV.parts, Option.some.injEq] at hc; exact one (.sl b s id off len es cap h hcc hs') rfl rfl hc.symm
  | pt b s id off h => simp only [AV.parts, Option.some.injEq] at hc; exact one (.pt b s id off h) rfl rfl hc.symm
  | mp b s id h => simp only [AV.parts, Option.some.injEq] at hc; exact one (.mp b s id h) rfl rfl hc.symm
  | fn f vs cs' h1 h2 => simp only [AV.parts, Option.some.injEq] at hc; exact one (.fn f vs cs' h1 h2) rfl rfl hc.symm

/-- An object as its cells' values. -/
def CRep (w : World) (J : Nat → Prop) (ρ : Rho) (c : Array Value) (cs : List AV) : Prop := cs.length ≤ c.size ∧ (∀ j (h : j < cs.length), (c.getD j undef).oneCell' = true ∧ Rep w J ρ (c.getD j undef) cs[j]) ∧ c.all Value.oneCell' = true

def spl {α : Type} (cs : List α) (off : Nat) (vs : List α) : List α := cs.take off ++ (vs ++ cs.drop (off + vs.length))

theorem spl_one {α : Type} (cs : List α) (off : Nat) (v : α) (h : off < cs.length) : spl cs off [v] = cs.set off v := by
  unfold spl; rw [List.set_eq_take_append_cons_drop, if_pos h]; rfl

theorem CRep.splice {w : World} {J : Nat → Prop} {ρ : Rho} {c : Array Value} {cs avs : List AV} {vs : List Value} {off : Nat} (h : CRep w J ρ c cs) (hl : vs.length = avs.length)
    (hv : ∀ j (hj : j < avs.length), (vs.getD j undef).oneCell' = true ∧ Rep w J ρ (vs.getD j undef) avs[j]) (ho : off ≤ cs.length) (hs : off + vs.length ≤ c.size) :
    CRep w J ρ (c.toList.take off ++ vs ++ c.toList.drop (off + vs.length)).toArray (spl cs off avs) ∧ (c.toList.take off ++ vs ++ c.toList.drop (off + vs.length)).toArray.size = c.size := by
  have hsz : (c.toList.take off ++ vs ++ c.toList.drop (off + vs.length)).toArray.size = c.size := by simp; omega
  have h1 := h.1
  have hall : (c.toList.take off ++ vs ++ c.toList.drop (off + vs.length)).toArray.all Value.oneCell' = true := by
    have hc := h.2.2
    rw [Array.all_eq_true_iff_forall_mem] at hc ⊢
    intro u hu
    simp only [List.mem_toArray, List.mem_append] at hu
    rcases hu with (hu | hu) | hu
    · exact hc u (by simpa using List.mem_of_mem_take hu)
    · obtain ⟨j, hj, rfl⟩ := List.getElem_of_mem hu
      have := (hv j (by omega)).1
      simpa [List.getD_eq_getElem?_getD, hj] using this
    · exact hc u (by simpa using List.mem_of_mem_drop hu)
  refine ⟨⟨by rw [hsz]; simp [spl]; omega, fun j hj => ?_, hall⟩, hsz⟩
  have hj' : j < off + (avs.length + (cs.length - (off + avs.length))) := by
    simp [spl] at hj; omega
  have hto : off ≤ c.toList.length := by simp; omega
  have eA : (c.toList.take off ++ vs ++ c.toList.drop (off + vs.length)).toArray.getD j undef = if j < off then c.getD j undef else if j < off + vs.length then vs.getD (j - off) undef else c.getD j undef := by
    simp only [Array.getD_eq_getD_getElem?, List.getElem?_toArray, List.append_assoc]
    by_cases h1 : j < off
    · rw [if_pos h1, List.getElem?_append_left (by simp; omega), List.getElem?_take_of_lt h1]; simp
    · rw [if_neg h1, List.getElem?_append_right (by simp; omega)]
      simp only [List.length_take, Nat.min_eq_left hto]
      by_cases h2 : j < off + vs.length
      · rw [if_pos h2, List.getElem?_append_left (by omega)]; simp [List.getD_eq_getElem?_getD]
      · rw [if_neg h2, List.getElem?_append_right (by omega), List.getElem?_drop]
        rw [show off + vs.length + (j - off - vs.length) = j by omega]; simp
  have eB : ∀ y, (spl cs off avs)[j]? = some y → (if j < off then cs[j]? else if j < off + avs.length then avs[j - off]? else cs[j]?) = some y := by
    intro y
    unfold spl
    by_cases h1 : j < off
    · rw [if_pos h1, List.getElem?_append_left (by simp; omega), List.getElem?_take_of_lt h1]; exact id
    · rw [if_neg h1, List.getElem?_append_right (by simp; omega)]
      simp only [List.length_take, Nat.min_eq_left ho]
      by_cases h2 : j < off + avs.length
      · rw [if_pos h2, List.getElem?_append_left (by omega)]; exact id
      · rw [if_neg h2, List.getElem?_append_right (by omega), List.getElem?_drop]
        rw [show off + avs.length + (j - off - avs.length) = j by omega]; exact id
  rw [eA]
  have hB := eB _ (List.getElem?_eq_getElem hj)
  generalize (spl cs off avs)[j] = y at hB
  by_cases h1 : j < off
  · rw [if_pos h1] at hB ⊢
    obtain ⟨hlt, rfl⟩ := List.getElem?_eq_some_iff.1 hB
    exact h.2.1 j hlt
  · rw [if_neg h1] at hB ⊢
    rw [← hl] at hB
    by_cases h2 : j < off + vs.length
    · rw [if_pos h2] at hB ⊢
      obtain ⟨hlt, rfl⟩ := List.getElem?_eq_some_iff.1 hB
      exact hv _ hlt
    · rw [if_neg h2] at hB ⊢
      obtain ⟨hlt, rfl⟩ := List.getElem?_eq_some_iff.1 hB
      exact h.2.1 j hlt

theorem CRep.imp {w w' : World} {J : Nat → Prop} {ρ ρ' : Rho} {c : Array Value} {cs : List AV} (h : CRep w J ρ c cs) (hi : ∀ u y, Rep w J ρ u y → Rep w' J ρ' u y) : CRep w' J ρ' c cs :=
  ⟨h.1, fun j hj => ⟨(h.2.1 j hj).1, hi _ _ (h.2.1 j hj).2⟩, h.2.2⟩

def zcells (P : Program) (t : TypeId) : Option (List Value) := ((P.info? t).bind (·.zero)).map (·.cells.toList)

theorem run_zcells {w : World} {t : TypeId} {zs : List Value} (h : zcells P t = some zs) : ∃ z, (zeroValue t).run P w = .ok z w ∧ z.cells = zs.toArray := by
  unfold zcells at h
  cases hi : P.info? t with
  | none => simp [hi] at h
  | some i =>
    cases hz : i.zero with
    | none => simp [hi, hz] at h
    | some z =>
      simp [hi, hz] at h
      exact ⟨z, by simp [zeroValue, typeInfo, hi, hz], by rw [← h]⟩

theorem crep_vals {w : World} {J : Nat → Prop} {ρ : Rho} (vs : List Value) (h : vs.all Value.oneCell' = true) : CRep w J ρ vs.toArray (vs.map ofV) := by
  refine ⟨by simp, fun j hj => ?_, by simpa using h⟩
  have hj' : j < vs.length := by simpa using hj
  have e : vs.toArray.getD j undef = vs[j] := by simp [Array.getD, hj']
  rw [e]
  exact ⟨List.all_eq_true.1 h _ (List.getElem_mem hj'), by simpa using rep_ofV vs[j]⟩

theorem run_newRow {w : World} (e : TypeId) (c : Array Value) : (newRow e c).run P w = .ok ⟨w.heap.size, 0, none⟩ (w.alloc (.cells c e)) := by
  rfl

theorem opT_alloc (e : TypeId) (zs : List Value) (hz : zcells P e = some zs) (h1 : zs.all Value.oneCell' = true) :
    OpT P ⟨dst, .alloc e, ty, pos, af, g⟩ nid 1 st ⟨.pt nid 0, [(nid, some (.cells (zs.map ofV) e))]⟩ := .alloc fun c ρ D J a w h => by
  obtain ⟨z, hr, hc⟩ := run_zcells (w := w) hz
  refine ⟨.pointer (some ⟨w.heap.size, 0, none⟩), w.alloc (.cells zs.toArray e), .cells zs.toArray e, zs.length, ?_, Grew.alloc w _, fun ρ' h1' h2' => ⟨.pt _ _ nid 0 h1', zs.toArray, (Grew.alloc w _).new, rfl, (crep_vals (J := J) (ρ := ρ') zs h1)⟩⟩
  simp [execOp, Instr.alloc, hr, newVar, hc, run_newRow]

theorem opT_box (e : TypeId) (x : Operand) (cs : List AV) (hx : (st.op x).parts = some cs) (hs : cs.all AV.scalar = true) :
    OpT P ⟨dst, .box e x, ty, pos, af, g⟩ nid 1 st ⟨.pt nid 0, [(nid, some (.cells cs e))]⟩ := .alloc fun c ρ D J a w h => by
  obtain ⟨h1, h2⟩ := parts_rep (h.op x) hx hs
  refine ⟨.pointer (some ⟨w.heap.size, 0, none⟩), w.alloc (.cells (a.eval x).cells e), .cells (a.eval x).cells e, cs.length, ?_, Grew.alloc w _, fun ρ' h1' h2' => ⟨.pt _ _ nid 0 h1', (a.eval x).cells, (Grew.alloc w _).new, h1, Nat.le_refl _, fun j hj => ⟨(h2 j hj).1, (h2 j hj).2.grew (Grew.alloc w _) h2'⟩, ?all⟩⟩
  · simp [execOp, Instr.box, newVar, run_newRow]
  · rw [Array.all_eq_true_iff_forall_mem]
    intro u hu
    obtain ⟨j, hj, rfl⟩ := Array.getElem_of_mem hu
    have := (h2 j (by omega)).1
    simpa [Array.getD, hj] using this

theorem opT_store (t : TypeId) (x y : Operand) (id off n : Nat) (cs vs : List AV) (e : TypeId) (hx : st.op x = .pt id off) (ho : st.ob id = some (.cells cs e)) (hy : (st.op y).parts = some vs) (hs : vs.all AV.scalar = true)
    (hz : siz P t = some n) (hn : vs.length = n) (hlt : off + n ≤ cs.length) :
    OpT P ⟨dst, .store t x y, ty, pos, af, g⟩ nid 0 st ⟨.any, [(id, some (.cells (spl cs off vs) e))]⟩ := OpT.modify ho fun c ρ D J a w b s h hρ hob hJ => by
  obtain ⟨arr, ha, hsz, hcr⟩ := hob
  obtain ⟨h1, h2⟩ := parts_rep (h.op y) hy hs
  have hxv := h.op x
  rw [hx] at hxv
  generalize hv : a.eval x = v at hxv
  cases hxv with
  | pt b' s' _ _ hρ' =>
    rw [hρ] at hρ'; cases hρ'
    have hcr' : CRep w J ρ arr cs := ⟨by have := hcr.1; omega, hcr.2⟩
    have hcells : ∀ v ∈ (a.eval y).cells.toList, v.oneCell' = true := by
      intro u hu
      obtain ⟨j, hj, rfl⟩ := List.getElem_of_mem hu
      have hj' : j < vs.length := by rw [← h1]; simpa using hj
      have := (h2 j hj').1
      simpa [Array.getD, h1, hj'] using this
    have hlen : (a.eval y).cells.toList.length = vs.length := by simpa using h1
    have hst := run_storeCells_at P b off e (a.eval y).cells.toList 0 arr w ha (by have := hcr.1; omega) hcells
    simp only [Nat.add_zero] at hst
    have hsp := hcr'.splice (avs := vs) (vs := (a.eval y).cells.toList) (off := off) hlen (fun j hj => by
      have := h2 j hj
      rwa [show (a.eval y).cells.toList.getD j undef = (a.eval y).cells.getD j undef by simp [List.getD_eq_getElem?_getD, Array.getD_eq_getD_getElem?]]) (by omega) (by have := hcr.1; omega)
    refine ⟨.skip, w.setRow b (arr.toList.take off ++ (a.eval y).cells.toList ++ arr.toList.drop (off + (a.eval y).cells.toList.length)).toArray, undef, ?_, .inr ⟨rfl, rfl⟩, ?_, ?_, ?_, ?_, ?_, fun hi => ⟨.any _, _, setRow_heap w b arr _ e _ ha, ?_, ?_, ?_⟩⟩
    · simp only [execOp, hv, Instr.storeAt, Instr.sureAddr, storeVar, Sem.run_bind, Sem.run_pure, Result.andThen_ok, run_siz hz, h1, hn, ne_eq, not_true, if_false]
      rw [hst]; rfl
    · simp
    · rfl
    · rfl
    · rfl
    · intro k hk; exact setRow_other w b k _ hk
    · rw [hsp.2]; exact hsz
    · have := (hsp.1.imp hi).1; rw [hsp.2, hsz] at this; exact this
    · exact (hsp.1.imp hi).2

end
end Go.Sy
