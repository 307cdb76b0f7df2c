/-
  The symbolic walk: the rule for a region that draws its order, in the form in which it is used. No condition.
-/
import Derived.Test.YtphpjgfhdoobjaaSym12
set_option linter.unusedVariables false
set_option linter.unusedSectionVars false
set_option linter.unusedSimpArgs false
namespace Go.Sy

theorem drawOk_at {l : List (Oper × Sd)} {n : Nat} (h : drawOk l n = true) {i : Nat} (hi : i < l.length) : drawAt l n i = true := by
  unfold drawOk at h
  exact List.all_eq_true.1 h i (List.mem_range.2 hi)

def mkIts (l : List (Oper × Sd)) (es : List Eff) : List DI := (l.zip es).map fun p => ⟨p.1.1, p.1.2, p.2⟩

theorem facts_of {nid0 : Nat} {st0 : St} {its : List DI} {l : List (Oper × Sd)} (hl : its.map (fun x => (x.o, x.s)) = l) (hB : drawOk l st0.n = true) (hbase : ∀ id o, st0.ob id = some o → id < nid0) {P : Program} {ops : Array Oper}
    (hD : ∀ (i : Nat) (x : DI), its[i]? = some x → DStep P ops nid0 st0 (its.take i) x.o x.s x.e) : DFacts nid0 st0 its := by
  have hget : ∀ {i : Nat} {x : DI}, its[i]? = some x → l[i]? = some (x.o, x.s) := fun {i x} h => by rw [← hl]; simp [h]
  have hback : ∀ {i : Nat} {o : Oper} {s : Sd}, l[i]? = some (o, s) → ∃ x, its[i]? = some x ∧ x.o = o ∧ x.s = s := fun {i o s} h => by
    rw [← hl, List.getElem?_map] at h
    cases hi : its[i]? with
    | none => simp [hi] at h
    | some x => simp [hi] at h; exact ⟨x, rfl, h.1, h.2⟩
  have hlen : its.length = l.length := by rw [← hl]; simp
  have hat : ∀ {i : Nat} {x : DI}, its[i]? = some x → (x.o.after.all fun e => !Region.binds .any e || decide (e.on < i)) = true ∧
      (x.s.anc.all fun j => decide (j < i) && ((dAnc l j).all fun a => x.s.anc.contains a) && x.o.after.any fun e => Region.binds .any e && (e.on == j || (dAnc l e.on).contains j)) = true ∧
      dstOk st0.n x.o.dst = true ∧
      ∀ j, j < l.length → (i == j || x.o.dst.isNone || x.o.dst != dDst l j) = true ∧ (!unord l i j ||
        (udHas x.s.ud (dDst l j) && (x.s.md.isEmpty || (dMd l j).all fun c => Nat.ble 3 c && x.s.md.all fun c' => Nat.ble 3 c' && c' != c) &&
          (x.s.f.contains 2 || (dMd l j).all fun c => x.s.f.contains c))) = true := by
    intro i x hx
    have hi : i < l.length := by rw [← hlen]; exact (List.getElem?_eq_some_iff.1 hx).1
    have := drawOk_at hB hi
    unfold drawAt at this
    rw [hget hx] at this
    simp only [Bool.and_eq_true] at this
    obtain ⟨⟨⟨h1, h2⟩, h3⟩, h4⟩ := this
    refine ⟨h1, ?_, h3, fun j hj => ?_⟩
    · rw [List.all_eq_true] at h2 ⊢
      intro q hq
      have := h2 q hq
      simpa only [Bool.and_eq_true] using this
    · have := List.all_eq_true.1 h4 j (List.mem_range.2 hj)
      simpa only [Bool.and_eq_true] using this
  refine ⟨?_, ?_, ?_, ?_, ?_, hbase, ?_⟩
  · intro i x hx e he hb
    have := (hat hx).1
    rw [Array.all_eq_true_iff_forall_mem] at this
    have := this e he
    simp [hb] at this; exact this
  · intro i x hx j hj
    have := List.all_eq_true.1 (hat hx).2.1 j hj
    simp only [Bool.and_eq_true, decide_eq_true_eq] at this
    obtain ⟨⟨h1, h2⟩, h3⟩ := this
    refine ⟨h1, ?_, fun y hy a ha => ?_⟩
    · rw [Array.any_eq_true'] at h3
      obtain ⟨e, he, hor⟩ := h3
      simp only [Bool.and_eq_true, Bool.or_eq_true, beq_iff_eq] at hor
      refine ⟨e, he, hor.1, hor.2.imp id (fun hc => ?_)⟩
      unfold dAnc at hc
      cases hle : l[e.on]? with
      | none => simp [hle] at hc
      | some p =>
        obtain ⟨y, hy, ho, hs⟩ := hback (o := p.1) (s := p.2) (by rw [hle])
        refine ⟨y, hy, ?_⟩
        rw [hs]; simpa [hle] using hc
    · have e1 : dAnc l j = y.s.anc := by unfold dAnc; rw [hget hy]; rfl
      rw [e1] at h2
      simpa using List.all_eq_true.1 h2 a ha
  · intro i x hx d hd
    have := (hat hx).2.2.1
    rw [hd] at this
    simpa [dstOk] using this
  · intro i j x y hx hy hne t hxt hyt
    have hj : j < l.length := by rw [← hlen]; exact (List.getElem?_eq_some_iff.1 hy).1
    have := ((hat hx).2.2.2 j hj).1
    have e1 : dDst l j = y.o.dst := by unfold dDst; rw [hget hy]; rfl
    rw [e1, hxt, hyt] at this
    simp [hne] at this
  · intro i j x y hx hy hne h1 h2
    have hj : j < l.length := by rw [← hlen]; exact (List.getElem?_eq_some_iff.1 hy).1
    have := ((hat hx).2.2.2 j hj).2
    have e1 : dDst l j = y.o.dst := by unfold dDst; rw [hget hy]; rfl
    have e2 : dMd l j = y.s.md := by unfold dMd; rw [hget hy]; rfl
    have e3 : dAnc l j = y.s.anc := by unfold dAnc; rw [hget hy]; rfl
    have e4 : dAnc l i = x.s.anc := by unfold dAnc; rw [hget hx]; rfl
    have hu : unord l i j = true := by
      unfold unord; rw [e3, e4]
      simp [hne, h1, h2]
    rw [hu, e1, e2] at this
    simp only [Bool.not_true, Bool.false_or, Bool.and_eq_true, Bool.or_eq_true, beq_iff_eq, Nat.ble_eq, bne_iff_ne, or_assoc, and_assoc, List.contains_iff_mem, List.isEmpty_iff, List.all_eq_true] at this
    obtain ⟨k1, k2, k3⟩ := this
    refine ⟨fun d hd => ?_, k2, ?_⟩
    · rw [hd] at k1; simpa [udHas] using k1
    · exact k3
  · intro i x hx id hid
    rcases keysOk_mem (hD i x hx).1 id hid with h | ⟨h1, h2⟩
    · exact .inl h
    · refine .inr ⟨?_, h2⟩
      exact Option.isSome_iff_exists.1 h1

section
variable {P : Program} {Q : Exit → Nat → St → Prop} {nid : Nat}

/-- The base's objects bear names below nid. -/
def namesLt (nid : Nat) : List (Nat × Option AObj) → Bool
  | [] => true
  | (i, _) :: l => decide (i < nid) && namesLt nid l

theorem namesLt_mem {nid : Nat} {l : List (Nat × Option AObj)} (h : namesLt nid l = true) : ∀ p ∈ l, p.1 < nid := by
  induction l with
  | nil => intro p hp; cases hp
  | cons x l ih =>
    obtain ⟨i, o⟩ := x
    simp only [namesLt, Bool.and_eq_true, decide_eq_true_eq] at h
    intro p hp
    rcases List.mem_cons.1 hp with rfl | hp
    · exact h.1
    · exact ih h.2 p hp

/-- A region that draws its order: 'sds': what is said of its operations; checked by the kernel. -/
theorem AC_draw {id n m : Nat} {env : List (Nat × AV)} {objs : List (Nat × Option AObj)} {l : List Oper} (hm : P.follows .mixedOrders = true) (sds : List Sd) (hl : sds.length = l.length) (hB : drawOk (l.zip sds) n = true) (hlt : namesLt nid objs = true)
    (h : DGo P l.toArray nid ⟨n, m, env, objs⟩ (fun its => Q .normal (nidAt nid its) (dfold (fun _ => true) 0 its ⟨n, m, env, objs⟩)) [] (l.zip sds)) : AC P (.region id l.toArray true) Q nid ⟨n, m, env, objs⟩ := fun c ρ J a w hs => by
  obtain ⟨its, h1, h2, h3⟩ := DGo_all _ _ h
  simp only [List.nil_append] at h1 h3
  have hbase : ∀ id o, (⟨n, m, env, objs⟩ : St).ob id = some o → id < nid := by
    intro id o ho
    unfold St.ob at ho
    cases hk : look objs id with
    | none => simp [hk] at ho
    | some x => exact namesLt_mem hlt _ (look_mem hk)
  have F := facts_of h2 (st0 := ⟨n, m, env, objs⟩) hB hbase h3
  have hops : l.toArray = (its.map (·.o)).toArray := by
    have : its.map (·.o) = l := by
      have e1 : its.map (·.o) = (its.map fun x => (x.o, x.s)).map (·.1) := by simp
      rw [e1, h2, List.map_fst_zip (by omega)]
    rw [this]
  have hlen : its.length = l.length := by
    have := congrArg List.length h2
    simp at this; omega
  refine wp_region_any hm ?_
  have hs' := hs.drew (w.drawn + 1)
  have hsz : (Array.replicate l.toArray.size false).size = its.length := by simp [hlen]
  have hf : ∀ j, (Array.replicate l.toArray.size false).getD j false = false := by
    intro j; simp only [Array.getD]; split <;> simp
  refine draw_any hops F h3 (c := c) (R := Lift c Q) (fun a w ρ J hs => ⟨_, _, ρ, J, ?_, h1⟩) l.toArray.size (Array.replicate l.toArray.size false) a _ ρ J hsz ?_ ?_ ?_
  · refine ⟨hs.defers, hs.tmps, hs.env, hs.obj, hs.inj, fun id p hp => ?_, hs.jok, hs.jlt, hs.ilt, hs.pin, hs.kept⟩
    rcases hs.dom id p hp with hd | ⟨j, y, g1, _, g2⟩
    · show id < nidAt nid its
      unfold nidAt; omega
    · show id < nidAt nid its
      have hj := (List.getElem?_eq_some_iff.1 g1).1
      have := nidAt_le nid its hj g1
      rw [List.take_length] at this
      omega
  · have : (List.range its.length).countP (fun j => !(Array.replicate l.toArray.size false).getD j false) ≤ (List.range its.length).length := List.countP_le_length
    rw [List.length_range] at this
    have e2 : l.toArray.size = its.length := by simp [hlen]
    omega
  · intro j y _ hj; rw [hf j] at hj; cases hj
  · have e1 : dfold (fun j => (Array.replicate l.toArray.size false).getD j false) 0 its ⟨n, m, env, objs⟩ = ⟨n, m, env, objs⟩ := by
      have key : ∀ (l' : List DI) (j : Nat) (st : St), dfold (fun j => (Array.replicate l.toArray.size false).getD j false) j l' st = st := by
        intro l'
        induction l' with
        | nil => intro j st; rfl
        | cons x l' ih => intro j st; simp only [dfold, hf j, Bool.false_eq_true, if_false]; exact ih _ _
      exact key _ _ _
    rw [e1]
    exact ⟨hs'.defers, hs'.tmps, hs'.env, hs'.obj, hs'.inj, fun id p hp => .inl (hs'.dom id p hp), hs'.jok, hs'.jlt, hs'.ilt, hs'.pin, hs'.kept⟩

/-- One operation, its place among the others said. -/
def DOp (P : Program) (ops : Array Oper) (nid0 : Nat) (st0 : St) (fin : List DI → Prop) (done : List DI) (o : Oper) (s : Sd) (rest : List (Oper × Sd)) (nid : Nat) (env : List (Nat × AV)) (objs : List (Nat × Option AObj)) : Prop :=
  match o.guard with
  | none => ∃ e, keysOk nid s.k nid0 s.md objs e.upd ∧ OpT P o nid s.k ⟨st0.n, st0.m, env, objs⟩ e ∧ DGo P ops nid0 st0 fin (done ++ [⟨o, s, e⟩]) rest
  | some (j, b) => ∃ t, dstAt ops j = some t ∧ t < st0.n ∧ ((∃ b', (look env t).getD .any = .val (.bool b') ∧
      ((b' = b ∧ ∃ e, keysOk nid s.k nid0 s.md objs e.upd ∧ OpT P o nid s.k ⟨st0.n, st0.m, env, objs⟩ e ∧ DGo P ops nid0 st0 fin (done ++ [⟨o, s, e⟩]) rest) ∨ (b' ≠ b ∧ DGo P ops nid0 st0 fin (done ++ [⟨o, s, ⟨noV, []⟩⟩]) rest))) ∨
      ((look env t).getD .any = noV ∧ DGo P ops nid0 st0 fin (done ++ [⟨o, s, ⟨noV, []⟩⟩]) rest))

theorem DG_next {ops : Array Oper} {nid0 : Nat} {st0 : St} {fin : List DI → Prop} {done : List DI} {o : Oper} {s : Sd} {rest : List (Oper × Sd)}
    (h : ∀ K : Nat → List (Nat × AV) → List (Nat × Option AObj) → Prop, (∀ nid env objs, DOp P ops nid0 st0 fin done o s rest nid env objs → K nid env objs) →
      K (nidAt nid0 done) (redEnv s.ud (dfold (fun j => s.anc.contains j) 0 done st0).env) (redObjs s.f nid0 (dfold (fun j => s.anc.contains j) 0 done st0).objs)) : DGo P ops nid0 st0 fin done ((o, s) :: rest) := by
  have := h _ (fun _ _ _ h => h)
  unfold DOp at this
  unfold DGo DStep
  cases hg : o.guard with
  | none =>
    rw [hg] at this
    obtain ⟨e, h1, h2, h3⟩ := this
    exact ⟨e, ⟨h1, h2⟩, h3⟩
  | some jb =>
    obtain ⟨j, b⟩ := jb
    rw [hg] at this
    obtain ⟨t, h1, h2, h34⟩ := this
    rcases h34 with ⟨b', h3, h4⟩ | ⟨h3, h5⟩
    · rcases h4 with ⟨h4, e, h5, h6, h7⟩ | ⟨h4, h5⟩
      · exact ⟨e, ⟨h5, t, h1, h2, .inl ⟨b', h3, .inl ⟨h4, h6⟩⟩⟩, h7⟩
      · exact ⟨⟨noV, []⟩, ⟨trivial, t, h1, h2, .inl ⟨b', h3, .inr ⟨h4, rfl⟩⟩⟩, h5⟩
    · exact ⟨⟨noV, []⟩, ⟨trivial, t, h1, h2, .inr ⟨h3, rfl⟩⟩, h5⟩

/-! ### the same, told so that simp reckons it from the last operation backwards -/

def okIdx : Nat → List DI → Bool
  | _, [] => true
  | j, x :: l => Nat.beq x.s.i j && okIdx (j + 1) l

def dsn (M : Nat → Bool) (l : List DI) (st : St) : St := l.foldl (fun st x => if M x.s.i then st.app x.o.dst x.e else st) st

theorem dfold_dsn (M : Nat → Bool) (l : List DI) : ∀ (j : Nat) (st : St), okIdx j l = true → dfold M j l st = dsn M l st := by
  induction l with
  | nil => intro j st _; rfl
  | cons x l ih =>
    intro j st h
    simp only [okIdx, Bool.and_eq_true] at h
    have e : x.s.i = j := Nat.eq_of_beq_eq_true h.1
    simp only [dfold, dsn, List.foldl_cons, e]
    exact ih (j + 1) _ h.2

def dsnE (M : Nat → Bool) (l : List DI) (n m : Nat) (env : List (Nat × AV)) (objs : List (Nat × Option AObj)) : List (Nat × AV) := (dsn M l ⟨n, m, env, objs⟩).env
def dsnO (M : Nat → Bool) (l : List DI) (n m : Nat) (env : List (Nat × AV)) (objs : List (Nat × Option AObj)) : List (Nat × Option AObj) := (dsn M l ⟨n, m, env, objs⟩).objs

section
variable {M : Nat → Bool} {l : List DI} {n m : Nat} {env : List (Nat × AV)} {objs : List (Nat × Option AObj)} {d : Nat} {dst : Option Nat} {op : Op} {ty : TypeId} {pos : String} {af : Array Edge} {g : Option (Nat × Bool)} {i k : Nat} {f md anc ud : List Nat} {v : AV} {u : List (Nat × Option AObj)}
theorem dsnE_nil : dsnE M [] n m env objs = env := rfl
theorem dsnO_nil : dsnO M [] n m env objs = objs := rfl
theorem dsnE_some : dsnE M (l ++ [⟨⟨some d, op, ty, pos, af, g⟩, ⟨i, anc, ud, f, md, k⟩, ⟨v, u⟩⟩]) n m env objs = if M i = true then (d, v) :: dsnE M l n m env objs else dsnE M l n m env objs := by
  unfold dsnE dsn; rw [List.foldl_append]; simp only [List.foldl_cons, List.foldl_nil]; split <;> rfl
theorem dsnE_none : dsnE M (l ++ [⟨⟨none, op, ty, pos, af, g⟩, ⟨i, anc, ud, f, md, k⟩, ⟨v, u⟩⟩]) n m env objs = dsnE M l n m env objs := by
  unfold dsnE dsn; rw [List.foldl_append]; simp only [List.foldl_cons, List.foldl_nil]; split <;> rfl
theorem dsnO_snoc : dsnO M (l ++ [⟨⟨dst, op, ty, pos, af, g⟩, ⟨i, anc, ud, f, md, k⟩, ⟨v, u⟩⟩]) n m env objs = if M i = true then u ++ dsnO M l n m env objs else dsnO M l n m env objs := by
  unfold dsnO dsn; rw [List.foldl_append]; simp only [List.foldl_cons, List.foldl_nil]; split
  · cases dst <;> rfl
  · rfl
theorem nidAt_nil {nid0 : Nat} : nidAt nid0 [] = nid0 := rfl
theorem nidAt_snoc {nid0 : Nat} {o : Oper} {e : Eff} : nidAt nid0 (l ++ [⟨o, ⟨i, anc, ud, f, md, k⟩, e⟩]) = nidAt nid0 l + k := by
  unfold nidAt; simp; omega
end

theorem DG_next' {ops : Array Oper} {nid0 n m : Nat} {env0 : List (Nat × AV)} {objs0 : List (Nat × Option AObj)} {fin : List DI → Prop} {done : List DI} {o : Oper} {i k : Nat} {f md anc ud : List Nat} {rest : List (Oper × Sd)} (hi : okIdx 0 done = true)
    (h : ∀ K : Nat → List (Nat × AV) → List (Nat × Option AObj) → Prop, (∀ nid env objs, DOp P ops nid0 ⟨n, m, env0, objs0⟩ fin done o ⟨i, anc, ud, f, md, k⟩ rest nid env objs → K nid env objs) →
      K (nidAt nid0 done) (redEnv ud (dsnE (fun j => anc.contains j) done n m env0 objs0)) (redObjs f nid0 (dsnO (fun j => anc.contains j) done n m env0 objs0))) : DGo P ops nid0 ⟨n, m, env0, objs0⟩ fin done ((o, ⟨i, anc, ud, f, md, k⟩) :: rest) := by
  refine DG_next (fun K hK => ?_)
  rw [dfold_dsn _ _ _ _ hi]
  exact h K hK

def DRun (P : Program) (ops : Array Oper) (nid0 n m : Nat) (env0 : List (Nat × AV)) (objs0 : List (Nat × Option AObj)) (fin : List DI → Prop) (done : List DI) (o : Oper) (s : Sd) (rest : List (Oper × Sd)) (nid : Nat) (env : List (Nat × AV)) (objs : List (Nat × Option AObj)) : Prop :=
  ∀ K : AV → List (Nat × Option AObj) → Prop, (∀ v u, DGo P ops nid0 ⟨n, m, env0, objs0⟩ fin (done ++ [⟨o, s, ⟨v, u⟩⟩]) rest → K v u) → AO P o nid ⟨n, m, env, objs⟩ (fun k e => k = s.k ∧ keysOk nid s.k nid0 s.md objs e.upd ∧ K e.v e.upd)

theorem DG_run {ops : Array Oper} {nid0 n m : Nat} {env0 : List (Nat × AV)} {objs0 : List (Nat × Option AObj)} {fin : List DI → Prop} {done : List DI} {o : Oper} {i k : Nat} {f md anc ud : List Nat} {rest : List (Oper × Sd)} {nid : Nat} {env : List (Nat × AV)} {objs : List (Nat × Option AObj)}
    (h : ∀ K : AV → List (Nat × Option AObj) → Prop, (∀ v u, DGo P ops nid0 ⟨n, m, env0, objs0⟩ fin (done ++ [⟨o, ⟨i, anc, ud, f, md, k⟩, ⟨v, u⟩⟩]) rest → K v u) → AO P o nid ⟨n, m, env, objs⟩ (fun k' e => k' = k ∧ keysOk nid k nid0 md objs e.upd ∧ K e.v e.upd)) :
    DRun P ops nid0 n m env0 objs0 fin done o ⟨i, anc, ud, f, md, k⟩ rest nid env objs := h

theorem DG_go {ops : Array Oper} {nid0 n m : Nat} {env0 : List (Nat × AV)} {objs0 : List (Nat × Option AObj)} {fin : List DI → Prop} {done : List DI} {dst : Option Nat} {op : Op} {ty : TypeId} {pos : String} {af : Array Edge} {s : Sd} {rest : List (Oper × Sd)} {nid : Nat} {env : List (Nat × AV)} {objs : List (Nat × Option AObj)}
    (h : DRun P ops nid0 n m env0 objs0 fin done ⟨dst, op, ty, pos, af, none⟩ s rest nid env objs) : DOp P ops nid0 ⟨n, m, env0, objs0⟩ fin done ⟨dst, op, ty, pos, af, none⟩ s rest nid env objs := by
  obtain ⟨k, e, h1, h2, h3, h4⟩ := h (fun v u => DGo P ops nid0 ⟨n, m, env0, objs0⟩ fin (done ++ [⟨⟨dst, op, ty, pos, af, none⟩, s, ⟨v, u⟩⟩]) rest) (fun _ _ h => h)
  subst h2
  exact ⟨e, h3, h1, h4⟩

theorem DG_guard {ops : Array Oper} {nid0 n m j t : Nat} {b : Bool} {env0 : List (Nat × AV)} {objs0 : List (Nat × Option AObj)} {fin : List DI → Prop} {done : List DI} {dst : Option Nat} {op : Op} {ty : TypeId} {pos : String} {af : Array Edge} {s : Sd} {rest : List (Oper × Sd)} {nid : Nat} {env : List (Nat × AV)} {objs : List (Nat × Option AObj)}
    (ht : dstAt ops j = some t) (hn : dstOk n (some t) = true)
    (h : ∀ K1 K2 : Prop, (DRun P ops nid0 n m env0 objs0 fin done ⟨dst, op, ty, pos, af, some (j, b)⟩ s rest nid env objs → K1) →
      (DGo P ops nid0 ⟨n, m, env0, objs0⟩ fin (done ++ [⟨⟨dst, op, ty, pos, af, some (j, b)⟩, s, ⟨noV, []⟩⟩]) rest → K2) →
      gAV b ((look env t).getD .any) K1 K2) : DOp P ops nid0 ⟨n, m, env0, objs0⟩ fin done ⟨dst, op, ty, pos, af, some (j, b)⟩ s rest nid env objs := by
  have hn' : t < n := by simpa [dstOk] using hn
  refine ⟨t, ht, hn', ?_⟩
  rcases h _ _ (fun h => h) (fun h => h) with ⟨b', hb, h1, h2⟩ | ⟨hb, h2⟩
  · refine .inl ⟨b', hb, ?_⟩
    by_cases e : b' = b
    · obtain ⟨k, e', h3, h4, h5, h6⟩ := h1 e (fun v u => DGo P ops nid0 ⟨n, m, env0, objs0⟩ fin (done ++ [⟨⟨dst, op, ty, pos, af, some (j, b)⟩, s, ⟨v, u⟩⟩]) rest) (fun _ _ h => h)
      subst h4
      exact .inl ⟨e, e', h5, h3, h6⟩
    · have e' : b' = !b := by
        clear h h1 h2 hb
        revert e; cases b <;> cases b' <;> simp
      exact .inr ⟨e, h2 e'⟩
  · exact .inr ⟨hb, h2⟩

theorem DG_nil {ops : Array Oper} {nid0 n m : Nat} {env0 : List (Nat × AV)} {objs0 : List (Nat × Option AObj)} {done : List DI} (hi : okIdx 0 done = true)
    (h : ∀ K : Nat → List (Nat × AV) → List (Nat × Option AObj) → Prop, (∀ nid env objs, Q .normal nid ⟨n, m, env, objs⟩ → K nid env objs) →
      K (nidAt nid0 done) (dsnE (fun _ => true) done n m env0 objs0) (dsnO (fun _ => true) done n m env0 objs0)) :
    DGo P ops nid0 ⟨n, m, env0, objs0⟩ (fun its => Q .normal (nidAt nid0 its) (dfold (fun _ => true) 0 its ⟨n, m, env0, objs0⟩)) done [] := by
  have := h (fun nid env objs => Q .normal nid ⟨n, m, env, objs⟩) (fun _ _ _ h => h)
  unfold dsnE dsnO at this
  rw [← dfold_dsn _ _ _ _ hi] at this
  have hn := fold_n (fun _ => true) done 0 ⟨n, m, env0, objs0⟩
  show Q .normal (nidAt nid0 done) (dfold (fun _ => true) 0 done ⟨n, m, env0, objs0⟩)
  have e : dfold (fun _ => true) 0 done ⟨n, m, env0, objs0⟩ = ⟨n, m, (dfold (fun _ => true) 0 done ⟨n, m, env0, objs0⟩).env, (dfold (fun _ => true) 0 done ⟨n, m, env0, objs0⟩).objs⟩ := by
    generalize dfold (fun _ => true) 0 done ⟨n, m, env0, objs0⟩ = s at hn
    obtain ⟨a, b, c, d⟩ := s
    simp only at hn
    rw [hn.1, hn.2]
  rw [e]; exact this

end
end Go.Sy
