/-
  The symbolic walk: a function's contract out of its body; a contract used at a call. No condition.
-/
import Derived.Test.YtphpjgfhdoobjaaSym8
set_option linter.unusedVariables false
set_option linter.unusedSectionVars false
set_option linter.unusedSimpArgs false
namespace Go.Sy

def idx {α : Type} : Nat → List α → List (Nat × α)
  | _, [] => []
  | k, x :: l => (k, x) :: idx (k + 1) l

theorem look_idx {α : Type} (l : List α) : ∀ (k t : Nat), look (idx k l) t = if k ≤ t then l[t - k]? else none := by
  induction l with
  | nil => intro k t; simp [idx, look]
  | cons x l ih =>
    intro k t
    simp only [idx, look, ih]
    by_cases h : t = k
    · subst h; simp
    · rw [if_neg h]
      by_cases h2 : k + 1 ≤ t
      · rw [if_pos h2, if_pos (by omega), show t - k = (t - (k + 1)) + 1 by omega]; simp
      · rw [if_neg h2, if_neg (by omega)]

theorem mem_idx {α : Type} {l : List α} {k : Nat} {p : Nat × α} (h : p ∈ idx k l) : k ≤ p.1 ∧ l[p.1 - k]? = some p.2 := by
  induction l generalizing k with
  | nil => simp [idx] at h
  | cons x l ih =>
    simp only [idx, List.mem_cons] at h
    rcases h with rfl | h
    · simp
    · obtain ⟨h1, h2⟩ := ih h
      exact ⟨by omega, by rw [show p.1 - k = (p.1 - (k + 1)) + 1 by omega]; simpa using h2⟩

def entry (n m : Nat) (args : List AV) (objs : List AObj) : St := ⟨n, m, idx 0 args, (idx 0 objs).map fun p => (p.1, some p.2)⟩

theorem look_map {α β : Type} (f : α → β) (l : List (Nat × α)) (t : Nat) : look (l.map fun p => (p.1, f p.2)) t = (look l t).map f := by
  induction l with
  | nil => rfl
  | cons x l ih => simp only [List.map_cons, look, ih]; split <;> rfl

theorem entry_ev (n m : Nat) (args : List AV) (objs : List AObj) (t : Nat) : (entry n m args objs).ev t = (args[t]?).getD .any := by
  simp [entry, St.ev, look_idx]
theorem entry_ob (n m : Nat) (args : List AV) (objs : List AObj) (t : Nat) : (entry n m args objs).ob t = objs[t]? := by
  simp only [entry, St.ob, look_map, look_idx]
  cases h : objs[t]? <;> simp [h]

theorem Rep.closed {w : World} {J : Nat → Prop} {ρ ρ' : Rho} {v : Value} {x : AV} (h : Rep w J ρ v x) (hn : bnd 0 x) : Rep w J ρ' v x := by
  induction h generalizing ρ' with
  | val v => exact .val v
  | any v => exact .any v
  | inil => exact .inil
  | iemp a cap => exact .iemp a cap
  | isl b off len cap cells u hb hc h0 h1 h2 ih => exact .isl b off len cap cells u hb hc h0 h1 h2
  | ipt b off k cells u hb h0 h1 h2 ih => exact .ipt b off k cells u hb h0 h1 h2
  | sl b s id off len es cap h hc hs => simp [bnd] at hn
  | pt b s id off h => simp [bnd] at hn
  | mp b s id h => simp [bnd] at hn
  | agg vs cs hs h ih => simp only [bnd] at hn; exact .agg vs cs hs (fun j hj => ih j hj (hn _ (List.getElem_mem hj)))
  | tup vs cs hs h ih => simp only [bnd] at hn; exact .tup vs cs hs (fun j hj => ih j hj (hn _ (List.getElem_mem hj)))
  | fn f vs cs hs h ih => simp only [bnd] at hn; exact .fn f vs cs hs (fun j hj => ih j hj (hn _ (List.getElem_mem hj)))

/-! ### own objects that are no longer written -/

def frzV (id : Nat) (cs : List AV) : AV → AV
  | .sl i off len es => if i = id then .isl false ((cs.drop off).take (len * es)) len else .sl i off len es
  | .pt i off => if i = id then .ipt cs off else .pt i off
  | .agg l => .agg (l.map (frzV id cs))
  | .tup l => .tup (l.map (frzV id cs))
  | .fn f l => .fn f (l.map (frzV id cs))
  | .val v => .val v
  | .isl z l n => .isl z l n
  | .ipt l k => .ipt l k
  | .mp i => .mp i
  | .any => .any

def frzO (id : Nat) (cs : List AV) : AObj → AObj
  | .cells l e => .cells (l.map (frzV id cs)) e
  | .map ag n l => .map ag n (l.map fun x => (x.1, frzV id cs x.2))
  | .full l e => .full (l.map (frzV id cs)) e

def St.frz (id : Nat) (cs : List AV) (st : St) : St := ⟨st.n, st.m, st.env.map (fun p => (p.1, frzV id cs p.2)), (id, none) :: st.objs.map fun p => (p.1, p.2.map (frzO id cs))⟩

def Frz (st st' : St) : Prop := ∀ (c : Ctx) (ρ : Rho) (D J : Nat → Prop) (a : Act) (w : World), Sim c ρ D J st a w → ∃ J', Sim c ρ D J' st' a w

theorem Frz.refl (st : St) : Frz st st := fun _ _ _ J _ _ h => ⟨J, h⟩
theorem Frz.trans {st1 st2 st3 : St} (h1 : Frz st1 st2) (h2 : Frz st2 st3) : Frz st1 st3 := fun c ρ D J a w h => by
  obtain ⟨J', h'⟩ := h1 c ρ D J a w h
  exact h2 c ρ D J' a w h'

theorem look_frz {β : Type} (f : β → β) (l : List (Nat × β)) (t : Nat) : look (l.map fun p => (p.1, f p.2)) t = (look l t).map f := by
  induction l with
  | nil => rfl
  | cons x l ih => simp only [List.map_cons, look, ih]; split <;> rfl

theorem Rep.frz {w : World} {J J' : Nat → Prop} {ρ : Rho} {id b s : Nat} {cs : List AV} {u : Nat → Value} (hJ : ∀ b, J b → J' b) (hb : J' b) (hid : ρ id = some (b, s)) (hlt : b < w.heap.size) (h0 : ∀ j, j < cs.length → (u j).oneCell' = true)
    (h1 : ∀ j, j < cs.length → w.cell? ⟨b, j, none⟩ = some (u j)) (h2 : ∀ j (h : j < cs.length), Rep w J' (fun _ => none) (u j) cs[j]) {v : Value} {x : AV} (h : Rep w J ρ v x) : Rep w J' ρ v (frzV id cs x) := by
  have mono : ∀ {ρ : Rho} {v : Value} {x : AV}, Rep w J ρ v x → Rep w J' ρ v x := fun h => h.mono (fun b hb _ => ⟨hJ b hb, rfl⟩) (Nat.le_refl _) (fun _ _ h => h)
  induction h with
  | val v => unfold frzV; exact .val v
  | any v => unfold frzV; exact .any v
  | inil => unfold frzV; exact .inil
  | iemp a cap => unfold frzV; exact .iemp a cap
  | isl b off len cap cells u hb hc k0 k1 k2 ih => unfold frzV; exact mono (.isl b off len cap cells u hb hc k0 k1 k2)
  | ipt b off k cells u hb k0 k1 k2 ih => unfold frzV; exact mono (.ipt b off k cells u hb k0 k1 k2)
  | sl b' s' id' off len es cap h hc hs =>
    unfold frzV
    split
    · rename_i e; subst e
      rw [hid] at h; cases h
      refine .isl b off len cap _ (fun i => u (off + i)) (fun _ => ⟨hb, hlt⟩) hc (fun i hi => ?_) (fun i hi => ?_) (fun i hi => ?_)
      · simp at hi; exact h0 _ (by omega)
      · simp at hi; exact h1 _ (by omega)
      · simp at hi
        have := h2 (off + i) (by omega)
        simpa using this
    · exact .sl b' s' id' off len es cap h hc hs
  | pt b' s' id' off h =>
    unfold frzV
    split
    · rename_i e; subst e
      rw [hid] at h; cases h
      have := Rep.ipt (w := w) (J := J') (ρ := by assumption) b 0 off cs u (fun _ => ⟨hb, hlt⟩) h0 (fun j hj => by simpa using h1 j hj) h2
      simpa using this
    · exact .pt b' s' id' off h
  | mp b s id h => unfold frzV; exact .mp b s id h
  | agg vs cs hs _ ih => unfold frzV; exact .agg vs _ (by simpa using hs) (fun j hj => by simpa using ih j (by simpa using hj) hid)
  | tup vs cs hs _ ih => unfold frzV; exact .tup vs _ (by simpa using hs) (fun j hj => by simpa using ih j (by simpa using hj) hid)
  | fn f vs cs hs _ ih => unfold frzV; exact .fn f vs _ (by simpa using hs) (fun j hj => by simpa using ih j (by simpa using hj) hid)

theorem Frz.one {st : St} {id : Nat} {cs : List AV} {e : TypeId} (ho : st.ob id = some (.cells cs e)) (hc : ∀ x ∈ cs, bnd 0 x) : Frz st (st.frz id cs) := by
  intro c ρ D J a w hs
  obtain ⟨b, s, k1, k2, k3, k4⟩ := hs.obj _ _ ho
  obtain ⟨u, hu⟩ := cell_obj k2
  let J' : Nat → Prop := fun b' => J b' ∨ b' = b
  have hJ : ∀ b, J b → J' b := fun _ h => .inl h
  have mono : ∀ {ρ : Rho} {v : Value} {x : AV}, Rep w J ρ v x → Rep w J' ρ v x := fun h => h.mono (fun b hb _ => ⟨hJ b hb, rfl⟩) (Nat.le_refl _) (fun _ _ h => h)
  have rep : ∀ {v : Value} {x : AV}, Rep w J ρ v x → Rep w J' ρ v (frzV id cs x) := fun h =>
    Rep.frz (u := u) hJ (.inr rfl) k1 k2.lt (fun j hj => (hu j hj).2.1) (fun j hj => (hu j hj).1) (fun j hj => mono ((hu j hj).2.2.closed (hc _ (List.getElem_mem hj)))) h
  have hob : ∀ id', (st.frz id cs).ob id' = if id' = id then none else (st.ob id').map (frzO id cs) := fun id' => by
    show (look ((id, none) :: st.objs.map fun p => (p.1, p.2.map (frzO id cs))) id').join = _
    simp only [look]
    by_cases e : id' = id
    · simp [e]
    · rw [if_neg e, if_neg e, look_frz (f := Option.map (frzO id cs))]
      unfold St.ob
      cases look st.objs id' with
      | none => rfl
      | some o => cases o <;> rfl
  refine ⟨J', hs.defers, hs.tmps, fun t => ?_, fun id' o hi => ?_, fun i1 i2 o1 o2 b s s' g1 g2 g3 g4 => ?_, hs.dom, fun b' hb' => ?_, fun b' hb' => ?_, hs.ilt, hs.pin, hs.kept⟩
  · have := rep (hs.env t)
    have e : (st.frz id cs).ev t = frzV id cs (st.ev t) := by
      show (look (st.env.map fun p => (p.1, frzV id cs p.2)) t).getD .any = _
      rw [look_frz]
      unfold St.ev
      cases look st.env t with
      | none => simp [frzV]
      | some v => rfl
    rw [e]; exact this
  · rw [hob] at hi
    split at hi
    · cases hi
    · rename_i hne
      cases hk : st.ob id' with
      | none => rw [hk] at hi; cases hi
      | some o0 =>
        rw [hk] at hi; cases hi
        obtain ⟨b', s', g1, g2, g3, g4⟩ := hs.obj _ _ hk
        refine ⟨b', s', g1, ?_, g3, ?_⟩
        · cases o0 with
          | cells l e =>
            obtain ⟨c, q1, q2, q3, q4, q5⟩ := g2
            exact ⟨c, q1, q2, by simpa using q3, fun j hj => ⟨(q4 j (by simpa using hj)).1, by simpa using rep (q4 j (by simpa using hj)).2⟩, q5⟩
          | map ag kn l =>
            obtain ⟨ms, cl, q1, q2, q3⟩ := g2
            exact ⟨ms, cl, q1, by simpa using q2, fun j hj => ⟨by simpa using (q3 j (by simpa using hj)).1, by simpa using rep (q3 j (by simpa using hj)).2⟩⟩
          | full l e =>
            obtain ⟨c, q1, q2, q3, q4, q5⟩ := g2
            exact ⟨c, q1, q2, by simpa using q3, fun j hj => ⟨(q4 j (by simpa using hj)).1, by simpa using rep (q4 j (by simpa using hj)).2⟩, q5⟩
        · rintro (h | h)
          · exact g4 h
          · subst h; exact hne (hs.inj _ _ _ _ _ _ _ hk ho g1 k1)
  · rw [hob] at g1 g2
    split at g1
    · cases g1
    · split at g2
      · cases g2
      · cases h1 : st.ob i1 with
        | none => rw [h1] at g1; cases g1
        | some x1 => cases h2 : st.ob i2 with
          | none => rw [h2] at g2; cases g2
          | some x2 => exact hs.inj _ _ _ _ _ _ _ h1 h2 g3 g4
  · rcases hb' with h | h
    · exact hs.jok _ h
    · subst h; exact .inr k3
  · rcases hb' with h | h
    · exact hs.jlt _ h
    · subst h; exact k2.lt

/-- What a function's body must come to. -/
def Ends (P : Program) (fn : Func) (objs : List AObj) (m : Nat) (r : AV) (objs' : List AObj) (e : Exit) (st : St) : Prop :=
  (e = .normal ∨ e = .ret) ∧ ∃ (st' : St) (σ : List Nat), Frz st st' ∧ Sub σ ⟨st'.n, st'.m, [], (idx 0 objs').map fun p => (p.1, some p.2)⟩ st' ∧ σ.length = objs'.length ∧ st'.m = m ∧
    resultAV P st' fn.results.toList = some (ren (σ.getD · 0) r) ∧ bnd σ.length r

section
variable {P : Program}

theorem ACall.enter {f : FuncId} {fn : Func} {code : Code} {args : List AV} {objs : List AObj} {m : Nat} {r : AV} {objs' : List AObj} (hf : P.funcs[f]? = some fn) (hb : fn.body = some code) (hn : args.length ≤ fn.ntmps) (hm : m ≤ objs.length)
    (h : AC P code (fun e _ st => Ends P fn objs m r objs' e st) objs.length (entry fn.ntmps m args objs)) : ACall P f args objs m r objs' := by
  intro w A I ρ vs hvs hargs hA hI hobj hdom hinj
  refine calls_of_wp hf hb ?_
  let c : Ctx := ⟨w, A, I, ρ⟩
  have hsim : Sim c ρ (· < objs.length) A (entry fn.ntmps m args objs) { tmps := vs ++ Array.replicate (fn.ntmps - vs.size) undef, defers := [] } w := by
    refine ⟨rfl, ?_, ?_, ?_, ?_, fun id p hp => hdom id p hp, fun b hb => .inl hb, fun b hb => (hA b hb).1, hI, ?_, ⟨Nat.le_refl _, rfl, rfl, rfl, fun _ _ _ => rfl⟩⟩
    · show (vs ++ Array.replicate (fn.ntmps - vs.size) undef).size = fn.ntmps
      simp; omega
    · intro t
      rw [entry_ev]
      by_cases ht : t < args.length
      · rw [List.getElem?_eq_getElem ht]
        have : (vs ++ Array.replicate (fn.ntmps - vs.size) undef).getD t undef = vs.getD t undef := by
          have htv : t < vs.size := by omega
          simp [Array.getD_eq_getD_getElem?, Array.getElem?_append, htv]
        show Rep w A ρ ((vs ++ Array.replicate (fn.ntmps - vs.size) undef).getD t undef) args[t]
        rw [this]; exact hargs t ht
      · rw [List.getElem?_eq_none (by omega)]; exact .any _
    · intro id o ho
      rw [entry_ob] at ho
      obtain ⟨hlt, rfl⟩ := List.getElem?_eq_some_iff.1 ho
      obtain ⟨b, s, h1, h2, h3⟩ := hobj id hlt
      exact ⟨b, s, h1, h3, .inl h2, fun hj => (hA b hj).2 h2⟩
    · intro id id' o o' b s s' _ _ h1 h2; exact hinj id id' b s s' h1 h2
    · intro j hj
      have hj : j < m := hj
      obtain ⟨b, s, h1, _⟩ := hobj j (by omega)
      exact ⟨_, h1, h1⟩
  refine wp_mono (h c ρ A _ w hsim) ?_
  rintro e a' w' ⟨nid, st0, ρ', J0, hs0, he, st, σ, hfrz, hsub, hl, ht, hr, hbn⟩
  obtain ⟨J', hs⟩ := hfrz _ _ _ _ _ _ hs0
  obtain ⟨v, hrun, hrep⟩ := run_results hs hr
  have hs0 := hsub.sim hs
  have hres : bodyPost P fn (fun e w' => ∃ v ρ' J', e = .returned v ∧ Rep w' J' ρ' v r ∧ (∀ b, J' b → b < w'.heap.size ∧ (A b ∨ I b ∨ w.heap.size ≤ b)) ∧ Kept ⟨w, A, I, ρ⟩ w' ∧
      (∀ j, j < m → ρ' j = ρ j) ∧ (∀ j p, ρ' j = some p → j < objs'.length) ∧
      (∀ j (h : j < objs'.length), ∃ b s, ρ' j = some (b, s) ∧ ObjRep w' J' ρ' b s objs'[j] ∧ (I b ∨ w.heap.size ≤ b) ∧ ¬ J' b) ∧
      (∀ i j b s s', ρ' i = some (b, s) → ρ' j = some (b, s') → i = j)) .ret a' w' := by
    refine ⟨hs.defers, v, hrun, v, (fun i => if i < σ.length then ρ' (σ.getD i 0) else none), J', rfl, hrep.unren (n := σ.length) (fun id hid => if_pos hid) rfl hbn, fun b hb => ⟨hs.jlt b hb, hs.jok b hb⟩, ?_, ?_, ?_, ?_, ?_⟩
    · exact ⟨hs.kept.size, hs.kept.os, hs.kept.tape, hs.kept.output, hs.kept.block⟩
    · intro j hj
      obtain ⟨p, h1, h2⟩ := hs0.pin j (by show j < st.m; omega)
      exact h2.trans h1.symm
    · intro j p hp; rw [← hl]; exact hs0.dom j p hp
    · intro j hj
      have ho : (⟨st.n, st.m, [], (idx 0 objs').map fun p => (p.1, some p.2)⟩ : St).ob j = some objs'[j] := by
        have := entry_ob st.n st.m [] objs' j
        simp only [entry, idx] at this
        rw [this, List.getElem?_eq_getElem hj]
      obtain ⟨b, s, h1, h2, h3, h4⟩ := hs0.obj j _ ho
      exact ⟨b, s, h1, h2, h3, h4⟩
    · intro i j b s s' h1 h2
      have hi := hs0.dom i _ h1; have hj := hs0.dom j _ h2
      have hob : ∀ k, k < σ.length → ∃ o, (⟨st.n, st.m, [], (idx 0 objs').map fun p => (p.1, some p.2)⟩ : St).ob k = some o := by
        intro k hk
        have := entry_ob st.n st.m [] objs' k
        simp only [entry, idx] at this
        rw [this, List.getElem?_eq_getElem (by omega)]; exact ⟨_, rfl⟩
      obtain ⟨o, ho⟩ := hob i hi
      obtain ⟨o', ho'⟩ := hob j hj
      exact hs0.inj i j o o' b s s' ho ho' h1 h2
  rcases he with rfl | rfl
  · exact hres
  · exact hres

/-! ### a contract used at a call -/

theorem Rep.ren {w : World} {J : Nat → Prop} {ρ ρ' : Rho} {τ : Nat → Nat} (hρ : ∀ id p, ρ id = some p → ρ' (τ id) = some p) {v : Value} {x : AV} (h : Rep w J ρ v x) : Rep w J ρ' v (Sy.ren τ x) := by
  induction h generalizing ρ' τ with
  | val v => simp only [Sy.ren]; exact .val v
  | any v => simp only [Sy.ren]; exact .any v
  | inil => simp only [Sy.ren]; exact .inil
  | iemp a cap => simp only [Sy.ren]; exact .iemp a cap
  | isl b off len cap cells u hb hc h0 h1 h2 ih => simp only [Sy.ren]; exact .isl b off len cap cells u hb hc h0 h1 h2
  | ipt b off k cells u hb h0 h1 h2 ih => simp only [Sy.ren]; exact .ipt b off k cells u hb h0 h1 h2
  | sl b s id off len es cap h hc hs => simp only [Sy.ren]; exact .sl b s _ off len es cap (hρ _ _ h) hc hs
  | pt b s id off h => simp only [Sy.ren]; exact .pt b s _ off (hρ _ _ h)
  | mp b s id h => simp only [Sy.ren]; exact .mp b s _ (hρ _ _ h)
  | agg vs cs hs h ih =>
    simp only [Sy.ren]
    exact .agg vs _ (by simpa using hs) (fun j hj => by simpa using ih j (by simpa using hj) hρ)
  | tup vs cs hs h ih =>
    simp only [Sy.ren]
    exact .tup vs _ (by simpa using hs) (fun j hj => by simpa using ih j (by simpa using hj) hρ)
  | fn f vs cs hs h ih =>
    simp only [Sy.ren]
    exact .fn f vs _ (by simpa using hs) (fun j hj => by simpa using ih j (by simpa using hj) hρ)

theorem ObjRep.ren {w : World} {J : Nat → Prop} {ρ ρ' : Rho} {τ : Nat → Nat} (hρ : ∀ id p, ρ id = some p → ρ' (τ id) = some p) {b s : Nat} {o : AObj} (h : ObjRep w J ρ b s o) : ObjRep w J ρ' b s (renO τ o) := by
  cases o with
  | cells cs e =>
    obtain ⟨c, hc, h1, h2, h3, h4⟩ := h
    exact ⟨c, hc, h1, by simpa using h2, fun j hj => by
      have := h3 j (by simpa using hj)
      exact ⟨this.1, by simpa using this.2.ren hρ⟩, h4⟩
  | map ag kn l =>
    obtain ⟨ms, k, hc, h1, h2⟩ := h
    exact ⟨ms, k, hc, by simpa using h1, fun j hj => by
      have := h2 j (by simpa using hj)
      exact ⟨by simpa using this.1, by simpa using this.2.ren hρ⟩⟩
  | full cs e =>
    obtain ⟨c, hc, h1, h2, h3, h4⟩ := h
    exact ⟨c, hc, h1, by simpa using h2, fun j hj => by
      have := h3 j (by simpa using hj)
      exact ⟨this.1, by simpa using this.2.ren hρ⟩, h4⟩

/-- What holds no memory that is only read. -/
def noImm : AV → Prop
  | .isl _ cs _ => cs = []
  | .ipt cs _ => cs = []
  | .agg cs => ∀ x ∈ cs, noImm x
  | .tup cs => ∀ x ∈ cs, noImm x
  | .fn _ cs => ∀ x ∈ cs, noImm x
  | _ => True

def noImmO : AObj → Prop
  | .cells cs _ => ∀ x ∈ cs, noImm x
  | .map _ _ l => ∀ x ∈ l, noImm x.2
  | .full cs _ => ∀ x ∈ cs, noImm x

theorem Rep.noImm {w : World} {J J' : Nat → Prop} {ρ : Rho} {v : Value} {x : AV} (h : Rep w J ρ v x) (hn : Sy.noImm x) : Rep w J' ρ v x := by
  induction h with
  | val v => exact .val v
  | any v => exact .any v
  | inil => exact .inil
  | iemp a cap => exact .iemp a cap
  | isl b off len cap cells u hb hc h0 h1 h2 ih =>
    have : cells = [] := by simpa [Sy.noImm] using hn
    subst this
    exact .isl b off len cap [] u (fun h => absurd rfl h) hc (fun j hj => by simp at hj) (fun j hj => by simp at hj) (fun j hj => by simp at hj)
  | ipt b off k cells u hb h0 h1 h2 ih =>
    have : cells = [] := by simpa [Sy.noImm] using hn
    subst this
    exact .ipt b off k [] u (fun h => absurd rfl h) (fun j hj => by simp at hj) (fun j hj => by simp at hj) (fun j hj => by simp at hj)
  | sl b s id off len es cap h hc hs => exact .sl b s _ off len es cap h hc hs
  | pt b s id off h => exact .pt b s _ off h
  | mp b s id h => exact .mp b s _ h
  | agg vs cs hs h ih => simp only [Sy.noImm] at hn; exact .agg vs cs hs (fun j hj => ih j hj (hn _ (List.getElem_mem hj)))
  | tup vs cs hs h ih => simp only [Sy.noImm] at hn; exact .tup vs cs hs (fun j hj => ih j hj (hn _ (List.getElem_mem hj)))
  | fn f vs cs hs h ih => simp only [Sy.noImm] at hn; exact .fn f vs cs hs (fun j hj => ih j hj (hn _ (List.getElem_mem hj)))

theorem ObjRep.noImm {w : World} {J J' : Nat → Prop} {ρ : Rho} {b s : Nat} {o : AObj} (h : ObjRep w J ρ b s o) (hn : noImmO o) : ObjRep w J' ρ b s o := by
  cases o with
  | cells cs e =>
    obtain ⟨c, hc, h1, h2, h3, h4⟩ := h
    exact ⟨c, hc, h1, h2, fun j hj => ⟨(h3 j hj).1, (h3 j hj).2.noImm (hn _ (List.getElem_mem hj))⟩, h4⟩
  | map ag kn l =>
    obtain ⟨ms, k, hc, h1, h2⟩ := h
    exact ⟨ms, k, hc, h1, fun j hj => ⟨(h2 j hj).1, (h2 j hj).2.noImm (hn _ (List.getElem_mem hj))⟩⟩
  | full cs e =>
    obtain ⟨c, hc, h1, h2, h3, h4⟩ := h
    exact ⟨c, hc, h1, h2, fun j hj => ⟨(h3 j hj).1, (h3 j hj).2.noImm (hn _ (List.getElem_mem hj))⟩, h4⟩

/-- The place of a name in a list. -/
def npos : List Nat → Nat → Nat
  | [], _ => 0
  | a :: l, i => if i = a then 0 else npos l i + 1

def hasN : List Nat → Nat → Bool
  | [], _ => false
  | a :: l, i => if i = a then true else hasN l i

theorem hasN_pos : ∀ {σ : List Nat} {i : Nat}, hasN σ i = true → npos σ i < σ.length ∧ σ.getD (npos σ i) 0 = i
  | [], _, h => by simp [hasN] at h
  | a :: l, i, h => by
    simp only [npos]
    by_cases e : i = a
    · simp [e]
    · simp only [hasN, if_neg e] at h
      obtain ⟨h1, h2⟩ := hasN_pos h
      rw [if_neg e]
      exact ⟨by simpa using h1, by simpa [List.getD_eq_getElem?_getD] using h2⟩
theorem hasN_mem : ∀ {σ : List Nat} {i : Nat}, hasN σ i = false → i ∉ σ
  | [], _, _ => by simp
  | a :: l, i, h => by
    simp only [hasN] at h
    split at h
    · cases h
    · rename_i e; simp only [List.mem_cons, not_or]; exact ⟨e, hasN_mem h⟩

/-- What is the caller's own, as data that is only read (but for the objects that are handed in to be changed). -/
def dfz (st : St) (σ : List Nat) : Nat → AV → AV
  | 0, _ => .any
  | k + 1, .sl id off len es => if hasN σ id = true then .any else match (look st.objs id).join with
    | some (.cells cs _) => .isl false (((cs.drop off).take (len * es)).map (dfz st σ k)) len
    | _ => .any
  | k + 1, .pt id off => if hasN σ id = true then .any else match (look st.objs id).join with
    | some (.cells cs _) => .ipt (cs.map (dfz st σ k)) off
    | _ => .any
  | _ + 1, .mp _ => .any
  | k + 1, .agg l => .agg (l.map (dfz st σ k))
  | k + 1, .tup l => .tup (l.map (dfz st σ k))
  | k + 1, .fn f l => .fn f (l.map (dfz st σ k))
  | _ + 1, .val v => .val v
  | _ + 1, .isl z l n => .isl z l n
  | _ + 1, .ipt l n => .ipt l n
  | _ + 1, .any => .any

/-- An argument as the callee sees it. -/
def toA (st : St) (σ : List Nat) (fz : Bool) : Nat → AV → AV
  | 0, _ => .any
  | k + 1, .sl id off len es => if hasN σ id = true then .sl (npos σ id) off len es else if fz = true then dfz st σ k (.sl id off len es) else .any
  | k + 1, .pt id off => if hasN σ id = true then .pt (npos σ id) off else if fz = true then dfz st σ k (.pt id off) else .any
  | _ + 1, .mp id => if hasN σ id = true then .mp (npos σ id) else .any
  | k + 1, .agg l => .agg (l.map (toA st σ fz k))
  | k + 1, .tup l => .tup (l.map (toA st σ fz k))
  | k + 1, .fn f l => .fn f (l.map (toA st σ fz k))
  | _ + 1, .val v => .val v
  | _ + 1, .isl z l n => .isl z l n
  | _ + 1, .ipt l n => .ipt l n
  | _ + 1, .any => .any

def toO (st : St) (σ : List Nat) (fz : Bool) : AObj → AObj
  | .cells cs e => .cells (cs.map (toA st σ fz 8)) e
  | .map ag n l => .map ag n (l.map fun x => (x.1, toA st σ fz 8 x.2))
  | .full cs e => .full (cs.map (toA st σ fz 8)) e

section
variable {c : Ctx} {ρ ρc : Rho} {D J A : Nat → Prop} {st : St} {a : Act} {w : World} {σ : List Nat} {fz : Bool}

theorem rep_dfz (hs : Sim c ρ D J st a w) (hJ : ∀ b, J b → b < w.heap.size → A b) (hA : ∀ id o b s, st.ob id = some o → ρ id = some (b, s) → id ∉ σ → b < w.heap.size → A b) :
    ∀ (k : Nat) (v : Value) (x : AV), Rep w J ρ v x → Rep w A (fun _ => none) v (dfz st σ k x) := by
  intro k
  induction k with
  | zero => intro v x _; unfold dfz; exact .any _
  | succ k ih =>
    intro v x h
    have mono : ∀ {ρ : Rho} {v : Value} {x : AV}, Rep w J ρ v x → Rep w A ρ v x := fun h => h.mono (fun b hb hlt => ⟨hJ b hb hlt, rfl⟩) (Nat.le_refl _) (fun _ _ h => h)
    cases h with
    | val v => unfold dfz; exact .val v
    | any v => unfold dfz; exact .any v
    | inil => unfold dfz; exact .inil
    | iemp a cap => unfold dfz; exact .iemp a cap
    | isl b off len cap cells u hb hc h0 h1 h2 => unfold dfz; exact mono (.isl b off len cap cells u hb hc h0 h1 h2)
    | ipt b off k cells u hb h0 h1 h2 => unfold dfz; exact mono (.ipt b off k cells u hb h0 h1 h2)
    | mp => unfold dfz; exact .any _
    | agg vs cs hs' h => unfold dfz; exact .agg vs _ (by simpa using hs') (fun j hj => by have := ih _ _ (h j (by simpa using hj)); simpa using this)
    | tup vs cs hs' h => unfold dfz; exact .tup vs _ (by simpa using hs') (fun j hj => by have := ih _ _ (h j (by simpa using hj)); simpa using this)
    | fn f vs cs hs' h => unfold dfz; exact .fn f vs _ (by simpa using hs') (fun j hj => by have := ih _ _ (h j (by simpa using hj)); simpa using this)
    | sl b s id off len es cap h hc hsz =>
      unfold dfz
      split
      · exact .any _
      · rename_i hn
        split
        · rename_i cs e ho
          have ho' : st.ob id = some (.cells cs e) := ho
          obtain ⟨b', s', k1, k2, _⟩ := hs.obj _ _ ho'
          rw [h] at k1; cases k1
          obtain ⟨u, hu⟩ := cell_obj k2
          have hid : id ∉ σ := hasN_mem (by simpa using hn)
          refine .isl b off len cap _ (fun i => u (off + i)) (fun _ => ⟨hA _ _ _ _ ho' h hid k2.lt, k2.lt⟩) hc (fun i hi => ?_) (fun i hi => ?_) (fun i hi => ?_)
          · simp at hi; exact (hu (off + i) (by omega)).2.1
          · simp at hi; exact (hu (off + i) (by omega)).1
          · simp at hi
            have := ih _ _ (hu (off + i) (by omega)).2.2
            simpa using this
        · exact .any _
    | pt b s id off h =>
      unfold dfz
      split
      · exact .any _
      · rename_i hn
        split
        · rename_i cs e ho
          have ho' : st.ob id = some (.cells cs e) := ho
          obtain ⟨b', s', k1, k2, _⟩ := hs.obj _ _ ho'
          rw [h] at k1; cases k1
          obtain ⟨u, hu⟩ := cell_obj k2
          have hid : id ∉ σ := hasN_mem (by simpa using hn)
          have := Rep.ipt (w := w) (J := A) (ρ := fun _ => none) b 0 off (cs.map (dfz st σ k)) u (fun _ => ⟨hA _ _ _ _ ho' h hid k2.lt, k2.lt⟩) (fun i hi => ?_) (fun i hi => ?_) (fun i hi => ?_)
          · simpa using this
          · simp at hi; exact (hu i hi).2.1
          · simp at hi; simpa using (hu i hi).1
          · simp at hi
            have := ih _ _ (hu i hi).2.2
            simpa using this
        · exact .any _

theorem rep_toA (hs : Sim c ρ D J st a w) (hρ : ∀ id, hasN σ id = true → ρc (npos σ id) = ρ id) (hJ : ∀ b, J b → b < w.heap.size → A b) (hA : fz = true → ∀ id o b s, st.ob id = some o → ρ id = some (b, s) → id ∉ σ → b < w.heap.size → A b) :
    ∀ (k : Nat) (v : Value) (x : AV), Rep w J ρ v x → Rep w A ρc v (toA st σ fz k x) := by
  intro k
  induction k with
  | zero => intro v x _; unfold toA; exact .any _
  | succ k ih =>
    intro v x h
    have mono : ∀ {v : Value} {x : AV}, Rep w J (fun _ => none) v x → Rep w A ρc v x := fun h => (h.up (ρ := ρc)).mono (fun b hb hlt => ⟨hJ b hb hlt, rfl⟩) (Nat.le_refl _) (fun _ _ h => h)
    cases h with
    | val v => unfold toA; exact .val v
    | any v => unfold toA; exact .any v
    | inil => unfold toA; exact .inil
    | iemp a cap => unfold toA; exact .iemp a cap
    | isl b off len cap cells u hb hc h0 h1 h2 => unfold toA; exact mono (.isl b off len cap cells u hb hc h0 h1 h2)
    | ipt b off k cells u hb h0 h1 h2 => unfold toA; exact mono (.ipt b off k cells u hb h0 h1 h2)
    | mp b s id h =>
      unfold toA
      split
      · rename_i hn; exact .mp b s _ ((hρ id hn).trans h)
      · exact .any _
    | agg vs cs hs' h => unfold toA; exact .agg vs _ (by simpa using hs') (fun j hj => by have := ih _ _ (h j (by simpa using hj)); simpa using this)
    | tup vs cs hs' h => unfold toA; exact .tup vs _ (by simpa using hs') (fun j hj => by have := ih _ _ (h j (by simpa using hj)); simpa using this)
    | fn f vs cs hs' h => unfold toA; exact .fn f vs _ (by simpa using hs') (fun j hj => by have := ih _ _ (h j (by simpa using hj)); simpa using this)
    | sl b s id off len es cap h hc hsz =>
      unfold toA
      split
      · rename_i hn; exact .sl b s _ off len es cap ((hρ id hn).trans h) hc hsz
      · split
        · rename_i hf; exact (rep_dfz hs hJ (hA hf) k _ _ (.sl b s id off len es cap h hc hsz)).up
        · exact .any _
    | pt b s id off h =>
      unfold toA
      split
      · rename_i hn; exact .pt b s _ off ((hρ id hn).trans h)
      · split
        · rename_i hf; exact (rep_dfz hs hJ (hA hf) k _ _ (.pt b s id off h)).up
        · exact .any _

theorem obj_toO (hs : Sim c ρ D J st a w) (hρ : ∀ id, hasN σ id = true → ρc (npos σ id) = ρ id) (hJ : ∀ b, J b → b < w.heap.size → A b) (hA : fz = true → ∀ id o b s, st.ob id = some o → ρ id = some (b, s) → id ∉ σ → b < w.heap.size → A b)
    {b s : Nat} {o : AObj} (h : ObjRep w J ρ b s o) : ObjRep w A ρc b s (toO st σ fz o) := by
  cases o with
  | cells cs e =>
    obtain ⟨c, hc, h1, h2, h3, h4⟩ := h
    exact ⟨c, hc, h1, by simpa using h2, fun j hj => by
      have := h3 j (by simpa using hj)
      exact ⟨this.1, by simpa using rep_toA hs hρ hJ hA 8 _ _ this.2⟩, h4⟩
  | map ag kn l =>
    obtain ⟨ms, k, hc, h1, h2⟩ := h
    exact ⟨ms, k, hc, by simpa using h1, fun j hj => by
      have := h2 j (by simpa using hj)
      exact ⟨by simpa using this.1, by simpa using rep_toA hs hρ hJ hA 8 _ _ this.2⟩⟩
  | full cs e =>
    obtain ⟨c, hc, h1, h2, h3, h4⟩ := h
    exact ⟨c, hc, h1, by simpa using h2, fun j hj => by
      have := h3 j (by simpa using hj)
      exact ⟨this.1, by simpa using rep_toA hs hρ hJ hA 8 _ _ this.2⟩, h4⟩
end

/-- The names of the objects behind a call: the first m are the caller's own, the others new. -/
def outName (σ : List Nat) (m nid : Nat) (j : Nat) : Nat := if j < m then σ.getD j 0 else nid + (j - m)

def callUpd (σ : List Nat) (m nid : Nat) (objs' : List AObj) : List (Nat × Option AObj) :=
  (idx 0 objs').map (fun p => (outName σ m nid p.1, some (renO (outName σ m nid) p.2))) ++ (σ.drop m).map fun i => (i, none)

def plainFn (P : Program) (f : FuncId) : Bool := match P.funcs[f]? with
  | some fn => fn.name != "runtime.NumGoroutine" && fn.body.isSome
  | none => false

theorem run_call {f : FuncId} (h : plainFn P f = true) (vs : Array Value) (w : World) : (callFunc f vs).run P w = .ok (.enter f vs) w := by
  unfold plainFn at h
  split at h
  · rename_i fn hf
    simp only [Bool.and_eq_true, bne_iff_ne, ne_eq] at h
    have h2 : fn.body.isNone = false := by cases hb : fn.body <;> simp [hb] at h ⊢
    have h3 : fn.body ≠ none := by intro e; simp [e] at h2
    simp [callFunc, hf, h.1, h3]
  · cases h

theorem range_get {σ : List Nat} {m j : Nat} (h : σ.take m = List.range m) (hj : j < m) : σ.getD j 0 = j := by
  have := congrArg (·[j]?) h
  simp only [List.getElem?_take_of_lt hj] at this
  rw [List.getElem?_range hj] at this
  simp [List.getD_eq_getElem?_getD, this]

theorem look_some_of_mem {α : Type} {l : List (Nat × α)} {t : Nat} (h : t ∈ l.map (·.1)) : ∃ v, look l t = some v := by
  cases hl : look l t with
  | none => exact absurd h (look_none.1 hl)
  | some v => exact ⟨v, rfl⟩

/-- A call, its contract at hand; 'xvs': what the callee is handed. -/
theorem opT_callV {o : Oper} {nid : Nat} {st : St} {f : FuncId} {xvs : List AV}
    {cargs : List AV} {cobjs : List AObj} {m : Nat} {r : AV} {cobjs' : List AObj} (hc : ACall P f cargs cobjs m r cobjs') (σ : List Nat) (fz : Bool) (hm : m ≤ cobjs.length) (hm' : m ≤ cobjs'.length)
    (hexec : ∀ (c : Ctx) (ρ : Rho) (D J : Nat → Prop) (a : Act) (w : World), Sim c ρ D J st a w → ∃ vs : Array Value, (execOp a.eval o).run P w = .ok (.enter f vs) w ∧ vs.size = xvs.length ∧ ∀ j (h : j < xvs.length), Rep w J ρ (vs.getD j undef) xvs[j])
    (hσ : σ.length = cobjs.length) (hnd : σ.Nodup) (hlt : ∀ i ∈ σ, i < nid)
    (hob : ∀ j (h : j < cobjs.length), ∃ o, st.ob (σ.getD j 0) = some o ∧ cobjs[j] = toO st σ fz o)
    (hargs : cargs = xvs.map (toA st σ fz 8))
    (hfz : fz = true → noImm r ∧ ∀ j (h : j < cobjs'.length), noImmO cobjs'[j]) :
    OpT P o nid (cobjs'.length - m) st ⟨ren (outName σ m nid) r, callUpd σ m nid cobjs'⟩ := by
  intro c ρ D J a w hs hD K Q hK
  obtain ⟨vs, hrun, hvl, hvr⟩ := hexec c ρ D J a w hs
  -- the callee's view
  let ρc : Rho := fun j => if j < σ.length then ρ (σ.getD j 0) else none
  let I : Nat → Prop := fun b => ∃ j s, j < σ.length ∧ ρ (σ.getD j 0) = some (b, s)
  let A : Nat → Prop := fun b => (J b ∨ (fz = true ∧ ∃ id o s, st.ob id = some o ∧ ρ id = some (b, s) ∧ id ∉ σ)) ∧ b < w.heap.size
  have hmem : ∀ j, j < σ.length → σ.getD j 0 ∈ σ := fun j hj => by simp [List.getD_eq_getElem?_getD, hj]
  have hown : ∀ j, j < σ.length → ∃ o b s, st.ob (σ.getD j 0) = some o ∧ ρ (σ.getD j 0) = some (b, s) ∧ ObjRep w J ρ b s o ∧ ¬ J b := fun j hj => by
    obtain ⟨o, h1, _⟩ := hob j (by omega)
    obtain ⟨b, s, k1, k2, _, k3⟩ := hs.obj _ _ h1
    exact ⟨_, b, s, h1, k1, k2, k3⟩
  have hτ : ∀ id, id < σ.length → ρc id = ρ (σ.getD id 0) := fun id hid => if_pos hid
  have hτ' : ∀ id, hasN σ id = true → ρc (npos σ id) = ρ id := fun id hn => by
    obtain ⟨h1, h2⟩ := hasN_pos hn
    rw [hτ _ h1, h2]
  have hJA : ∀ b, J b → b < w.heap.size → A b := fun b hb hlt => ⟨.inl hb, hlt⟩
  have hOA : fz = true → ∀ id o b s, st.ob id = some o → ρ id = some (b, s) → id ∉ σ → b < w.heap.size → A b := fun hf id o b s h1 h2 h3 h4 => ⟨.inr ⟨hf, id, o, s, h1, h2, h3⟩, h4⟩
  have hlen : xvs.length = cargs.length := by rw [hargs]; simp
  have hargv : ∀ j (h : j < cargs.length), Rep w A ρc (vs.getD j undef) cargs[j] := by
    intro j hj
    subst hargs
    have := rep_toA (fz := fz) hs hτ' hJA hOA 8 _ _ (hvr j (by simpa using hj))
    simpa using this
  -- the call
  have hA : ∀ b, A b → b < w.heap.size ∧ ¬ I b := by
    rintro b ⟨h1, h2⟩
    refine ⟨h2, ?_⟩
    rintro ⟨j, s, hj, hr⟩
    obtain ⟨o, b', s', k1, k2, k3, k4⟩ := hown j hj
    rw [hr] at k2; cases k2
    rcases h1 with h1 | ⟨_, id, o2, s2, q1, q2, q3⟩
    · exact k4 h1
    · have := hs.inj _ _ _ _ b s s2 k1 q1 hr q2
      exact q3 (this ▸ hmem j hj)
  have hI : ∀ b, I b → b < w.heap.size := by
    rintro b ⟨j, s, hj, hr⟩
    obtain ⟨o, b', s', k1, k2, k3, k4⟩ := hown j hj
    rw [hr] at k2; cases k2; exact k3.lt
  have hcall := hc w A I ρc vs (by rw [hvl]; exact hlen) hargv hA hI (fun j hj => by
    obtain ⟨o, h1, h2⟩ := hob j hj
    obtain ⟨b, s, k1, k2, _, k3⟩ := hs.obj _ _ h1
    exact ⟨b, s, (hτ j (by omega)).trans k1, ⟨j, s, by omega, k1⟩, h2 ▸ obj_toO (fz := fz) hs hτ' hJA hOA k2⟩) (fun j p hj => by
    refine Classical.byContradiction fun hn => ?_
    have : ρc j = none := if_neg (by omega)
    rw [this] at hj; cases hj) (fun i j b s s' h1 h2 => by
    have hi : i < σ.length := by
      refine Classical.byContradiction fun hn => ?_
      have : ρc i = none := if_neg hn
      rw [this] at h1; cases h1
    have hj : j < σ.length := by
      refine Classical.byContradiction fun hn => ?_
      have : ρc j = none := if_neg hn
      rw [this] at h2; cases h2
    rw [hτ i hi] at h1; rw [hτ j hj] at h2
    obtain ⟨o, b1, s1, k1, _⟩ := hown i hi
    obtain ⟨o', b2, s2, k2, _⟩ := hown j hj
    have := hs.inj _ _ _ _ b s s' k1 k2 h1 h2
    simp only [List.getD_eq_getElem?_getD, List.getElem?_eq_getElem hi, List.getElem?_eq_getElem hj, Option.getD_some] at this
    exact (List.getElem_inj hnd).1 this)
  unfold Oper.wp
  rw [hrun]
  refine Calls.mono hcall ?_
  rintro e w' ⟨v, ρ', J', rfl, hv, hJ', hkept, hpin, hdom', hobj', hinj'⟩
  -- back at the caller
  let ρn : Rho := fun i => if nid ≤ i ∧ i < nid + (cobjs'.length - m) then ρ' (i - nid + m) else ρ i
  let Jn : Nat → Prop := fun b => J b ∨ (J' b ∧ (I b ∨ w.heap.size ≤ b))
  have hfresh : ∀ i p, ρ i = some p → ¬ (nid ≤ i ∧ i < nid + (cobjs'.length - m)) := fun i p hi hcon => hD i hcon.1 hcon.2 (hs.dom i p hi)
  have hρmono : ∀ i p, ρ i = some p → ρn i = some p := fun i p hi => by
    show (if nid ≤ i ∧ i < nid + (cobjs'.length - m) then ρ' (i - nid + m) else ρ i) = some p
    rw [if_neg (hfresh i p hi)]; exact hi
  have hout : ∀ j p, ρ' j = some p → ρn (outName σ m nid j) = some p := by
    intro j p hj
    have hjl := hdom' j p hj
    unfold outName
    by_cases h1 : j < m
    · rw [if_pos h1]
      have := hpin j h1
      rw [hj, hτ j (by omega)] at this
      exact hρmono _ _ this.symm
    · rw [if_neg h1]
      show (if nid ≤ nid + (j - m) ∧ nid + (j - m) < nid + (cobjs'.length - m) then ρ' (nid + (j - m) - nid + m) else ρ (nid + (j - m))) = some p
      rw [if_pos (by omega), show nid + (j - m) - nid + m = j by omega]; exact hj
  have hsame : ∀ b, b < w.heap.size → ¬ I b → w'.heap[b]? = w.heap[b]? := fun b hb hn => hkept.block b hb hn
  have conv : ∀ {v x}, Rep w' J' ρ' v x → (fz = true → noImm x) → Rep w' Jn ρn v (ren (outName σ m nid) x) := by
    intro v x h hn
    refine Rep.ren hout ?_
    cases hfz' : fz with
    | true => exact h.noImm (hn hfz')
    | false =>
      refine h.mono (J := J') (J' := Jn) (fun b hb _ => ⟨?_, rfl⟩) (Nat.le_refl _) (fun _ _ h => h)
      rcases (hJ' b hb).2 with h1 | h1
      · rcases h1.1 with h1 | ⟨h1, _⟩
        · exact .inl h1
        · rw [hfz'] at h1; cases h1
      · exact .inr ⟨hb, h1⟩
  have convO : ∀ {b s o}, ObjRep w' J' ρ' b s o → (fz = true → noImmO o) → ObjRep w' Jn ρn b s (renO (outName σ m nid) o) := by
    intro b s o h hn
    refine ObjRep.ren hout ?_
    cases hfz' : fz with
    | true => exact h.noImm (hn hfz')
    | false =>
      refine h.mono (J := J') (J' := Jn) (fun b hb _ => ⟨?_, rfl⟩) (Nat.le_refl _) (fun _ _ h => h) rfl
      rcases (hJ' b hb).2 with h1 | h1
      · rcases h1.1 with h1 | ⟨h1, _⟩
        · exact .inl h1
        · rw [hfz'] at h1; cases h1
      · exact .inr ⟨hb, h1⟩
  have hkeys : ∀ i ∈ σ, i ∈ (callUpd σ m nid cobjs').map (·.1) := by
    intro i hi
    obtain ⟨j, hj, rfl⟩ := List.getElem_of_mem hi
    simp only [callUpd, List.map_append, List.mem_append, List.map_map]
    by_cases h1 : j < m
    · left
      refine List.mem_map.2 ⟨(j, cobjs'[j]'(by omega)), ?_, by simp [outName, h1, List.getD_eq_getElem?_getD, hj]⟩
      refine look_mem ?_
      rw [look_idx]; simp
    · right
      refine List.mem_map.2 ⟨σ[j], ?_, rfl⟩
      rw [List.mem_iff_getElem]
      exact ⟨j - m, by simp; omega, by simp; congr 1; omega⟩
  have hlook : ∀ id o, look (callUpd σ m nid cobjs') id = some (some o) → ∃ j, ∃ (h : j < cobjs'.length), id = outName σ m nid j ∧ o = renO (outName σ m nid) cobjs'[j] := by
    intro id o ho
    have := look_mem ho
    simp only [callUpd, List.mem_append, List.mem_map] at this
    rcases this with ⟨p, hp, he⟩ | ⟨p, hp, he⟩
    · obtain ⟨_, h2⟩ := mem_idx hp
      simp only [Nat.sub_zero] at h2
      obtain ⟨hlt, h3⟩ := List.getElem?_eq_some_iff.1 h2
      simp only [Prod.mk.injEq, Option.some.injEq] at he
      exact ⟨p.1, hlt, he.1.symm, by rw [h3]; exact he.2.symm⟩
    · simp at he
  refine hK v w' ρn Jn ⟨hkept.size, hkept.os, hkept.tape, hkept.output, ?_, hρmono, ?_, fun b hb => .inl hb, ?_, conv hv (fun h => (hfz h).1), ?_, ?_⟩
  · intro b hb hne
    refine hsame b hb ?_
    rintro ⟨j, s, hj, hr⟩
    obtain ⟨o, b', s', k1, k2, _⟩ := hown j hj
    exact hne (σ.getD j 0) o s (hkeys _ (hmem j hj)) k1 hr
  · intro i p hi
    by_cases hr : nid ≤ i ∧ i < nid + (cobjs'.length - m)
    · exact .inr hr
    · refine .inl ?_
      have : ρn i = ρ i := if_neg hr
      rw [this] at hi; exact hi
  · intro b hb
    rcases hb with hb | ⟨h1, ⟨j, s, hj, hr⟩ | h2⟩
    · exact .inl hb
    · obtain ⟨o, b', s', k1, k2, _⟩ := hown j hj
      exact .inr (.inr ⟨σ.getD j 0, o, s, hkeys _ (hmem j hj), k1, hr⟩)
    · exact .inr (.inl ⟨h2, (hJ' b h1).1⟩)
  · intro id o ho
    obtain ⟨j, hj, rfl, rfl⟩ := hlook id o ho
    obtain ⟨b, s, k1, k2, k3, k4⟩ := hobj' j hj
    refine ⟨b, s, hout _ _ k1, convO k2 (fun h => (hfz h).2 j hj), ?_, ?_⟩
    · rintro (h1 | ⟨h1, _⟩)
      · rcases k3 with ⟨i, s2, hi, hr⟩ | k3
        · obtain ⟨o, b', s', q1, q2, _, q4⟩ := hown i hi
          rw [hr] at q2; cases q2; exact q4 h1
        · have := hs.jlt b h1; omega
      · exact k4 h1
    · rcases k3 with ⟨i, s2, hi, hr⟩ | k3
      · obtain ⟨o, b', s', q1, q2, _, q4⟩ := hown i hi
        exact .inr ⟨σ.getD i 0, o, s2, hkeys _ (hmem i hi), q1, hr⟩
      · exact .inl k3
  · intro id id' o o' b s s' h1 h2 h3 h4
    obtain ⟨j, hj, rfl, rfl⟩ := hlook id o h1
    obtain ⟨j', hj', rfl, rfl⟩ := hlook id' o' h2
    obtain ⟨b1, s1, k1, _⟩ := hobj' j hj
    obtain ⟨b2, s2, k2, _⟩ := hobj' j' hj'
    have e1 := hout _ _ k1; rw [h3] at e1; cases e1
    have e2 := hout _ _ k2; rw [h4] at e2; cases e2
    rw [hinj' j j' b _ _ k1 k2]


/-- A call, its contract at hand. -/
theorem opT_call {dst : Option Nat} {ty : TypeId} {pos : String} {af : Array Edge} {g : Option (Nat × Bool)} {nid : Nat} {st : St} {f : FuncId} {xs : Array Operand} {tys : Array TypeId}
    {cargs : List AV} {cobjs : List AObj} {m : Nat} {r : AV} {cobjs' : List AObj} (hc : ACall P f cargs cobjs m r cobjs') (σ : List Nat) (fz : Bool) (hp : plainFn P f = true) (hm : m ≤ cobjs.length) (hm' : m ≤ cobjs'.length)
    (hσ : σ.length = cobjs.length) (hnd : σ.Nodup) (hlt : ∀ i ∈ σ, i < nid)
    (hob : ∀ j (h : j < cobjs.length), ∃ o, st.ob (σ.getD j 0) = some o ∧ cobjs[j] = toO st σ fz o)
    (hargs : cargs = xs.toList.map fun x => toA st σ fz 8 (st.op x))
    (hfz : fz = true → noImm r ∧ ∀ j (h : j < cobjs'.length), noImmO cobjs'[j]) :
    OpT P ⟨dst, .call ⟨.value (.func f), xs, tys⟩, ty, pos, af, g⟩ nid (cobjs'.length - m) st ⟨ren (outName σ m nid) r, callUpd σ m nid cobjs'⟩ := by
  refine opT_callV (xvs := xs.toList.map fun x => st.op x) hc σ fz hm hm' (fun c ρ D J a w hs => ⟨xs.map a.eval, ?_, by simp, fun j hj => ?_⟩) hσ hnd hlt hob (by rw [hargs, List.map_map]; rfl) hfz
  · simp [execOp, resolve, Act.eval, Deferred.ofValue, invoke, run_call hp]
  · have hj' : j < xs.size := by simpa using hj
    have := hs.op xs[j]
    simpa [Array.getD, hj'] using this

end
end Go.Sy
