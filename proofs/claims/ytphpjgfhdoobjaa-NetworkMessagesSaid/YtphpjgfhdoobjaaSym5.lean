/-
  The operations of the symbolic walk that build values, make slices, append, copy, clear, cut. No condition.
-/
import Derived.Test.YtphpjgfhdoobjaaSym4
set_option linter.unusedVariables false
set_option linter.unusedSectionVars false
set_option linter.unusedSimpArgs false
namespace Go.Sy

def placesOf (P : Program) (t : TypeId) : Option (List (Nat × Nat)) := match P.underlying t with
  | some (.struct fs) => fs.toList.mapM fun f => (siz P f.type).map fun n => (f.offset, n)
  | _ => none

/-- The pointwise relation between an array of cells and their abstract values. -/
def VRep (w : World) (J : Nat → Prop) (ρ : Rho) (c : Array Value) (cs : List AV) : Prop := c.size = cs.length ∧ ∀ j (h : j < cs.length), Rep w J ρ (c.getD j undef) cs[j]

theorem VRep.set {w : World} {J : Nat → Prop} {ρ : Rho} {c : Array Value} {cs : List AV} (h : VRep w J ρ c cs) (i : Nat) {v : Value} {x : AV} (hv : Rep w J ρ v x) : VRep w J ρ (c.setIfInBounds i v) (cs.set i x) := by
  refine ⟨by simpa using h.1, fun j hj => ?_⟩
  have hj' : j < cs.length := by simpa using hj
  have hjc : j < c.size := by rw [h.1]; exact hj'
  have := h.2 j hj'
  rw [List.getElem_set]
  by_cases e : i = j
  · subst e; simpa [Array.getD_eq_getD_getElem?, Array.getElem?_setIfInBounds, hjc] using hv
  · rw [if_neg e]; simpa [Array.getD_eq_getD_getElem?, Array.getElem?_setIfInBounds, e] using this

def fillOne (cs : List AV) (off : Nat) : List AV → List AV
  | [] => cs
  | v :: vs => fillOne (cs.set off v) (off + 1) vs

def fillAV (place : Nat → Option (Nat × Nat)) (cells : List AV) : List (Nat × AV) → Option (List AV)
  | [] => some cells
  | (i, x) :: rest =>
    match place i, x.parts with
    | some (off, size), some vs => if vs.length = size ∧ off + size ≤ cells.length ∧ vs.all AV.scalar = true then fillAV place (fillOne cells off vs) rest else none
    | _, _ => none

theorem fillOne_length (cs : List AV) (off : Nat) (vs : List AV) : (fillOne cs off vs).length = cs.length := by
  induction vs generalizing cs off with
  | nil => rfl
  | cons v vs ih => simp [fillOne, ih]

theorem fillOne_rep {w : World} {J : Nat → Prop} {ρ : Rho} (vs : List AV) : ∀ (us : List Value) (k off : Nat) (c : Array Value) (cs : List AV), VRep w J ρ c cs → us.length = vs.length → (∀ j (hj : j < vs.length), Rep w J ρ (us.getD j undef) vs[j]) →
    VRep w J ρ ((us.zipIdx k).foldl (fun cs (x : Value × Nat) => cs.setIfInBounds (off + x.2) x.1) c) (fillOne cs (off + k) vs) := by
  induction vs with
  | nil => intro us k off c cs h hl _; cases us with | nil => exact h | cons => simp at hl
  | cons v vs ih =>
    intro us k off c cs h hl hr
    cases us with
    | nil => simp at hl
    | cons u us =>
      simp only [List.zipIdx_cons, List.foldl_cons, fillOne]
      have := ih us (k + 1) off (c.setIfInBounds (off + k) u) (cs.set (off + k) v) (h.set _ (by have := hr 0 (by simp); simpa using this)) (by simpa using hl) (fun j hj => by have := hr (j + 1) (by simpa using hj); simpa using this)
      rw [← Nat.add_assoc] at this
      exact this

theorem fill_rep {w : World} {J : Nat → Prop} {ρ : Rho} (place : Nat → Option (Nat × Nat)) (ps : List (Nat × AV)) : ∀ (qs : List (Nat × Value)) (c : Array Value) (cs out : List AV), VRep w J ρ c cs → fillAV place cs ps = some out →
    qs.map (·.1) = ps.map (·.1) → (∀ j (hj : j < ps.length), Rep w J ρ ((qs.map (·.2)).getD j undef) ps[j].2) → ∃ c', Instr.fill place c qs = some c' ∧ VRep w J ρ c' out := by
  induction ps with
  | nil => intro qs c cs out h ho hk _; cases qs with
    | nil => simp only [fillAV, Option.some.injEq] at ho; subst ho; exact ⟨c, rfl, h⟩
    | cons => simp at hk
  | cons p ps ih =>
    intro qs c cs out h ho hk hr
    cases qs with
    | nil => simp at hk
    | cons q qs =>
      obtain ⟨i, x⟩ := p
      obtain ⟨i', v⟩ := q
      simp only [List.map_cons, List.cons.injEq] at hk
      obtain ⟨rfl, hk⟩ := hk
      simp only [fillAV] at ho
      split at ho
      · rename_i off size vs hp hx
        split at ho
        · rename_i hc
          obtain ⟨h1, h2, h3⟩ := hc
          have hv : Rep w J ρ v x := by have := hr 0 (by simp); simpa using this
          obtain ⟨hs, hp'⟩ := parts_rep hv hx h3
          have hsz : v.cells.size = size := by omega
          have hle : ¬ (off + v.cells.size > c.size) := by rw [hsz, h.1]; omega
          have hrep := fillOne_rep (w := w) (J := J) (ρ := ρ) vs v.cells.toList 0 off c cs h (by simpa using hs) (fun j hj => by
            have := (hp' j hj).2
            rwa [show v.cells.toList.getD j undef = v.cells.getD j undef by simp [List.getD_eq_getElem?_getD, Array.getD_eq_getD_getElem?]])
          have hfold : v.cells.zipIdx.foldl (fun cs (x : Value × Nat) => cs.setIfInBounds (off + x.2) x.1) c = (v.cells.toList.zipIdx 0).foldl (fun cs (x : Value × Nat) => cs.setIfInBounds (off + x.2) x.1) c := by
            rw [← Array.foldl_toList, Array.toList_zipIdx]
          rw [← hfold] at hrep
          obtain ⟨c', hf, hv'⟩ := ih qs _ _ out hrep ho hk (fun j hj => by have := hr (j + 1) (by simpa using hj); simpa using this)
          refine ⟨c', ?_, hv'⟩
          simp only [Instr.fill, hp]
          rw [if_neg (by simp [hsz]; rw [← hsz]; omega)]
          exact hf
        · cases ho
      · cases ho

section
variable {P : Program} {dst : Option Nat} {ty : TypeId} {pos : String} {af : Array Edge} {g : Option (Nat × Bool)} {nid : Nat} {st : St}

theorem run_places {w : World} {t : TypeId} {l : List (Nat × Nat)} (h : placesOf P t = some l) : ∃ fs, P.underlying t = some (.struct fs) ∧ ((fs.mapM fun f => do pure (f.offset, ← sizeOf f.type) : Sem (Array (Nat × Nat)))).run P w = .ok l.toArray w := by
  unfold placesOf at h
  split at h
  · rename_i fs hu
    refine ⟨fs, hu, ?_⟩
    rw [Array.mapM_eq_mapM_toList]
    generalize fs.toList = L at h
    have key : ∀ (L : List Field) (l : List (Nat × Nat)), L.mapM (fun f => (siz P f.type).map fun n => (f.offset, n)) = some l → (L.mapM (fun f => Functor.map (Prod.mk f.offset) (sizeOf f.type) : Field → Sem (Nat × Nat))).run P w = .ok l w := by
      intro L
      induction L with
      | nil => intro l h; simp at h; subst h; rfl
      | cons f L ih =>
        intro l h
        simp only [List.mapM_cons, Option.bind_eq_bind, Option.bind_eq_some_iff] at h
        obtain ⟨p, hp, q, hq, he⟩ := h
        cases hs : siz P f.type with
        | none => simp [hs] at hp
        | some n =>
          simp [hs] at hp
          simp at he
          subst hp; subst he
          simp [List.mapM_cons, run_siz hs, ih q hq]
    simp [key L l h]
  · cases h

theorem opT_build (t : TypeId) (ps : Array (Nat × Operand)) (zs : List Value) (pl : List (Nat × Nat)) (out : List AV) (hz : zcells P t = some zs) (hp : placesOf P t = some pl)
    (hf : fillAV (pl[·]?) (zs.map ofV) (ps.toList.map fun p => (p.1, st.op p.2)) = some out) : OpT P ⟨dst, .build t ps, ty, pos, af, g⟩ nid 0 st ⟨.agg out, []⟩ := .pure fun c ρ D J a w h => by
  obtain ⟨z, hr, hc⟩ := run_zcells (w := w) hz
  obtain ⟨fs, hu, hpl⟩ := run_places (w := w) hp
  have h0 : VRep w J ρ z.cells (zs.map ofV) := by
    rw [hc]
    refine ⟨by simp, fun j hj => ?_⟩
    have hj' : j < zs.length := by simpa using hj
    simpa [Array.getD, hj'] using rep_ofV zs[j]
  obtain ⟨c', hfill, hv⟩ := fill_rep (w := w) (J := J) (ρ := ρ) (pl[·]?) (ps.toList.map fun p => (p.1, st.op p.2)) (ps.toList.map fun p => (p.1, a.eval p.2)) z.cells _ out h0 hf (by simp) (fun j hj => by
    have hj' : j < ps.toList.length := by simpa using hj
    have := h.op ps.toList[j].2
    simpa [List.getD_eq_getElem?_getD, List.getElem?_map, List.getElem?_eq_getElem hj'] using this)
  refine ⟨.agg c', ?_, .agg _ _ hv.1 hv.2⟩
  simp only [execOp, Instr.build, Sem.run_bind, hr, Result.andThen_ok, run_underlying hu, hpl]
  have e1 : (Array.map (fun x => (x.1, a.eval x.2)) ps).toList = List.map (fun p => (p.1, a.eval p.2)) ps.toList := by simp
  have e2 : (fun x : Nat => pl.toArray[x]?) = (fun x : Nat => pl[x]?) := by funext x; simp
  simp [e1, e2, hfill]

/-! ### rows of zeros -/

def zrow (zs : List Value) (n : Nat) : List AV := (List.replicate n (zs.map ofV)).flatten

theorem zrow_length (zs : List Value) (n : Nat) : (zrow zs n).length = n * zs.length := by simp [zrow]

theorem flatten_get {α : Type} (l : List α) (n : Nat) : ∀ j, j < n * l.length → ((List.replicate n l).flatten)[j]? = l[j % l.length]? := by
  induction n with
  | zero => intro j hj; simp at hj
  | succ n ih =>
    intro j hj
    rw [List.replicate_succ, List.flatten_cons]
    by_cases h : j < l.length
    · rw [List.getElem?_append_left h, Nat.mod_eq_of_lt h]
    · rw [List.getElem?_append_right (by omega), ih (j - l.length) (by rw [Nat.add_mul, Nat.one_mul] at hj; omega)]
      rw [Nat.mod_eq_sub_mod (a := j) (by omega)]

theorem crep_made {w : World} {J : Nat → Prop} {ρ : Rho} {z : Array Value} {zs : List Value} (hz : z = zs.toArray) (h1 : zs.all Value.oneCell' = true) (n : Nat) : CRep w J ρ (madeCells z (n * zs.length)) (zrow zs n) := by
  subst hz
  have hall : (madeCells zs.toArray (n * zs.length)).all Value.oneCell' = true := by
    rw [Array.all_eq_true_iff_forall_mem]
    intro u hu
    obtain ⟨j, hj, rfl⟩ := Array.getElem_of_mem hu
    rw [size_madeCells] at hj
    have hpos : 0 < zs.length := by
      rcases Nat.eq_zero_or_pos zs.length with h | h
      · rw [h] at hj; simp at hj
      · exact h
    have hm : j % zs.length < zs.length := Nat.mod_lt _ hpos
    have := List.all_eq_true.1 h1 _ (List.getElem_mem hm)
    simpa [madeCells, hm] using this
  refine ⟨by rw [zrow_length, size_madeCells]; exact Nat.le_refl _, fun j hj => ?_, hall⟩
  rw [zrow_length] at hj
  have hpos : 0 < zs.length := by
    rcases Nat.eq_zero_or_pos zs.length with h | h
    · rw [h] at hj; simp at hj
    · exact h
  have hm : j % zs.length < zs.length := Nat.mod_lt _ hpos
  have e : (madeCells zs.toArray (n * zs.length)).getD j undef = zs[j % zs.length] := by
    simp [madeCells, Array.getD_eq_getD_getElem?, hj, hm]
  have e2 : (zrow zs n)[j]? = some (ofV zs[j % zs.length]) := by
    unfold zrow
    rw [flatten_get _ _ _ (by simpa using hj)]
    simp [hm]
  rw [e]
  refine ⟨List.all_eq_true.1 h1 _ (List.getElem_mem hm), ?_⟩
  obtain ⟨_, e3⟩ := List.getElem?_eq_some_iff.1 e2
  rw [e3]
  exact rep_ofV _

theorem info_all {e : TypeId} {es : Nat} {zs : List Value} (h1 : siz P e = some es) (h2 : zcells P e = some zs) : ∃ i z, P.info? e = some i ∧ i.size = es ∧ i.zero = some z ∧ z.cells = zs.toArray := by
  unfold siz at h1; unfold zcells at h2
  cases hi : P.info? e with
  | none => simp [hi] at h1
  | some i =>
    simp [hi] at h1 h2
    obtain ⟨z, hz, rfl⟩ := h2
    exact ⟨i, z, rfl, h1, hz, by simp⟩

theorem opT_makeSlice (t : TypeId) (l c' : Operand) (e : TypeId) (es by' : Nat) (zs : List Value) (kl kc : IntKind) (n : Int) (he : elemOf P t = some e) (hs : siz P e = some es) (hzs : zcells P e = some zs) (hzl : zs.length = es) (h1 : zs.all Value.oneCell' = true)
    (hb : byt P e = some by') (hl : st.op l = .val (.int kl n)) (hc : st.op c' = .val (.int kc n)) (h0 : 0 ≤ n) (hn : n ≤ 9223372036854775807) (hbytes : (by' : Int) * n ≤ 281474976710656) :
    OpT P ⟨dst, .makeSlice t l c', ty, pos, af, g⟩ nid 1 st ⟨.sl nid 0 n.toNat es, [(nid, some (.cells (zrow zs n.toNat) e))]⟩ := .alloc fun c ρ D J a w h => by
  have e1 := h.op l; have e2 := h.op c'
  rw [hl] at e1; rw [hc] at e2
  have e1 := rep_val_inv e1; have e2 := rep_val_inv e2
  obtain ⟨i, z, hi, his, hz, hzc⟩ := info_all hs hzs
  have hb' : i.bytes = by' := by unfold byt at hb; simpa [hi] using hb
  have hr := run_make (P := P) w t e i z (run_elemOf he) hi hz kl kc n n h0 (Int.le_refl _) (by rw [hb']; exact hbytes) hn
  have hcr := fun ρ' : Rho => crep_made (w := w.alloc (.cells (madeCells z.cells (n.toNat * i.size)) e)) (J := J) (ρ := ρ') hzc h1 n.toNat
  refine ⟨.slice (some ⟨w.heap.size, 0, none⟩) n.toNat n.toNat, _, _, n.toNat * es, ?_, Grew.alloc w (.cells (madeCells z.cells (n.toNat * i.size)) e), fun ρ' h1' h2' => ⟨.sl _ _ nid 0 n.toNat es n.toNat h1' (Nat.le_refl _) (by omega), madeCells z.cells (n.toNat * i.size), (Grew.alloc w _).new, ?_, ?_, ?_⟩⟩
  · simp [execOp, e1, e2, hr]
  · rw [size_madeCells, his]
  · have := (hcr ρ').1; rw [size_madeCells, hzl] at this; exact this
  · rw [his, ← hzl]
    have := (hcr ρ').2
    rw [his, ← hzl] at this
    exact this

theorem opT_buildSlice (t : TypeId) (len : Nat) (ps : Array (Nat × Operand)) (e : TypeId) (es : Nat) (zs : List Value) (out : List AV) (he : elemOf P t = some e) (hs : siz P e = some es) (hzs : zcells P e = some zs) (hzl : zs.length = es) (h1 : zs.all Value.oneCell' = true)
    (hsmall : len * es ≤ 16777216) (hf : fillAV (fun i => some (i * es, es)) (zrow zs len) (ps.toList.map fun p => (p.1, st.op p.2)) = some out) (hout : out.all AV.scalar = true) (hol : out.length = len * es) :
    OpT P ⟨dst, .buildSlice t len ps, ty, pos, af, g⟩ nid 1 st ⟨.sl nid 0 len es, [(nid, some (.cells out e))]⟩ := .alloc fun c ρ D J a w h => by
  obtain ⟨i, z, hi, his, hz, hzc⟩ := info_all hs hzs
  have hcr := crep_made (w := w) (J := J) (ρ := ρ) hzc h1 len
  have h0 : VRep w J ρ (madeCells z.cells (len * es)) (zrow zs len) := ⟨by rw [size_madeCells, zrow_length, hzl], fun j hj => by have := (hcr.2.1 j hj).2; rwa [hzl] at this⟩
  obtain ⟨c', hfill, hv⟩ := fill_rep (w := w) (J := J) (ρ := ρ) _ (ps.toList.map fun p => (p.1, st.op p.2)) (ps.toList.map fun p => (p.1, a.eval p.2)) _ _ out h0 hf (by simp) (fun j hj => by
    have hj' : j < ps.toList.length := by simpa using hj
    have := h.op ps.toList[j].2
    simpa [List.getD_eq_getElem?_getD, List.getElem?_map, List.getElem?_eq_getElem hj'] using this)
  refine ⟨.slice (some ⟨w.heap.size, 0, none⟩) len len, w.alloc (.cells c' e), .cells c' e, len * es, ?_, Grew.alloc w _, fun ρ' h1' h2' => ⟨.sl _ _ nid 0 len es len h1' (Nat.le_refl _) (by omega), c', (Grew.alloc w _).new, by rw [hv.1, hol], by rw [hol]; exact Nat.le_refl _, fun j hj => ?_, ?all⟩⟩
  · have hsm : ¬ (len * es > 2 ^ 24) := by omega
    have e1 : (Array.map (fun x => (x.1, a.eval x.2)) ps).toList = List.map (fun p => (p.1, a.eval p.2)) ps.toList := by simp
    have hzv : (zeroValue e).run P w = .ok z w := by simp [zeroValue, typeInfo, hi, hz]
    simp only [execOp, Instr.buildSlice, Sem.run_bind, run_underlying (run_elemOf he), Result.andThen_ok, run_siz hs, if_neg hsm, Sem.run_pure, e1]
    by_cases h00 : len * es = 0
    · have hm : (Array.range (len * es)).map (fun x => (#[] : Array Value)[x % (#[] : Array Value).size]!) = madeCells z.cells (len * es) := by
        unfold madeCells; rw [h00]; simp
      rw [if_pos h00]
      simp only [Sem.run_bind, Sem.run_pure, Result.andThen_ok, hm, hfill, run_newRow]
    · rw [if_neg h00]
      have hm : (Array.range (len * es)).map (fun x => z.cells[x % z.cells.size]!) = madeCells z.cells (len * es) := rfl
      simp only [Sem.run_bind, hzv, Sem.run_pure, Result.andThen_ok, hm, hfill, run_newRow]
  · have := hv.2 j hj
    have hsc := List.all_eq_true.1 hout _ (List.getElem_mem hj)
    exact ⟨this.oneCell hsc, this.grew (Grew.alloc w _) h2'⟩
  · rw [Array.all_eq_true_iff_forall_mem]
    intro u hu
    obtain ⟨j, hj, rfl⟩ := Array.getElem_of_mem hu
    have hj' : j < out.length := by rw [← hv.1]; exact hj
    have := hv.2 j hj'
    have hsc := List.all_eq_true.1 hout _ (List.getElem_mem hj')
    have := this.oneCell hsc
    simpa [Array.getD, hj] using this

end
end Go.Sy
