/-
  The symbolic walk through a region that draws its order: each operation is reckoned once, from what must stand before it; then every order comes to one end. No condition.
-/
import Derived.Test.YtphpjgfhdoobjaaSym11
import Derived.Orders
set_option linter.unusedVariables false
set_option linter.unusedSectionVars false
set_option linter.unusedSimpArgs false
namespace Go.Sy

/-- What is said ahead of one operation of a region: which others come before it in every order; the slots of those that may come before or behind; whether such a one may change objects (2: any; 1: those that the region makes; 0: none); what it itself may change; how many objects it makes. -/
structure Sd where
  i : Nat
  anc : List Nat
  ud : List Nat
  f : List Nat
  md : List Nat
  k : Nat

structure DI where
  o : Oper
  s : Sd
  e : Eff

def dfold (M : Nat → Bool) : Nat → List DI → St → St
  | _, [], st => st
  | j, x :: l, st => dfold M (j + 1) l (if M j then st.app x.o.dst x.e else st)

structure Eqv (a b : St) : Prop where
  n : a.n = b.n
  m : a.m = b.m
  ev : ∀ t, a.ev t = b.ev t
  ob : ∀ t, a.ob t = b.ob t

theorem Eqv.refl (a : St) : Eqv a a := ⟨rfl, rfl, fun _ => rfl, fun _ => rfl⟩
theorem Eqv.trans {a b c : St} (h : Eqv a b) (k : Eqv b c) : Eqv a c := ⟨h.n.trans k.n, h.m.trans k.m, fun t => (h.ev t).trans (k.ev t), fun t => (h.ob t).trans (k.ob t)⟩
theorem Eqv.symm {a b : St} (h : Eqv a b) : Eqv b a := ⟨h.n.symm, h.m.symm, fun t => (h.ev t).symm, fun t => (h.ob t).symm⟩

theorem St.app_n (st : St) (d : Option Nat) (e : Eff) : (st.app d e).n = st.n := by unfold St.app St.put; split <;> rfl
theorem St.app_m (st : St) (d : Option Nat) (e : Eff) : (st.app d e).m = st.m := by unfold St.app St.put; split <;> rfl
theorem St.ev_app (st : St) (d : Option Nat) (e : Eff) (t : Nat) : (st.app d e).ev t = if d = some t then e.v else st.ev t := by
  cases d with
  | none => simp [St.app, St.put, St.ev]
  | some d =>
    simp only [St.app, St.put, St.ev, look, Option.some.injEq]
    by_cases h : t = d
    · subst h; simp
    · rw [if_neg h, if_neg (Ne.symm h)]

theorem Eqv.app {a b : St} (h : Eqv a b) (d : Option Nat) (e : Eff) : Eqv (a.app d e) (b.app d e) :=
  ⟨by rw [St.app_n, St.app_n, h.n], by rw [St.app_m, St.app_m, h.m], fun t => by rw [St.ev_app, St.ev_app, h.ev], fun t => by rw [St.ob_app, St.ob_app, h.ob]⟩

theorem Eqv.fold {M : Nat → Bool} (l : List DI) : ∀ (j : Nat) {a b : St}, Eqv a b → Eqv (dfold M j l a) (dfold M j l b) := by
  induction l with
  | nil => intro j a b h; exact h
  | cons x l ih =>
    intro j a b h
    simp only [dfold]
    refine ih _ ?_
    split
    · exact h.app _ _
    · exact h

theorem app_comm {st : St} {d d' : Option Nat} {e e' : Eff} (h1 : ∀ t, d = some t → d' ≠ some t) (h2 : ∀ i, i ∈ e.keys → i ∉ e'.keys) : Eqv ((st.app d e).app d' e') ((st.app d' e').app d e) := by
  refine ⟨by simp [St.app_n], by simp [St.app_m], fun t => ?_, fun t => ?_⟩
  · simp only [St.ev_app]
    by_cases a : d = some t
    · have b : ¬ d' = some t := h1 t a
      rw [if_neg b, if_pos a, if_pos a]
    · by_cases b : d' = some t
      · rw [if_pos b, if_neg a, if_pos b]
      · rw [if_neg b, if_neg a, if_neg a, if_neg b]
  · simp only [St.ob_app]
    by_cases a : t ∈ e.keys
    · rw [if_pos a, if_neg (h2 t a), if_pos a]
    · by_cases b : t ∈ e'.keys
      · rw [if_pos b, if_neg a, if_pos b]
      · rw [if_neg b, if_neg a, if_neg a, if_neg b]

theorem Sim.eqv {c : Ctx} {ρ : Rho} {D J : Nat → Prop} {a b : St} {x : Act} {w : World} (h : Eqv a b) (hs : Sim c ρ D J a x w) : Sim c ρ D J b x w :=
  ⟨hs.defers, by rw [hs.tmps, h.n], fun t => by rw [← h.ev]; exact hs.env t, fun id o ho => hs.obj id o (by rw [h.ob]; exact ho),
    fun id id' o o' b s s' h1 h2 => hs.inj id id' o o' b s s' (by rw [h.ob]; exact h1) (by rw [h.ob]; exact h2), hs.dom, hs.jok, hs.jlt, hs.ilt, by rw [← h.m]; exact hs.pin, hs.kept⟩

/-- An operation that every chosen one of a list may follow or go before moves through the list. -/
theorem fold_app {M : Nat → Bool} (l : List DI) : ∀ (j : Nat) (st : St) (d : Option Nat) (e : Eff),
    (∀ i x, l[i]? = some x → M (j + i) = true → (∀ t, d = some t → x.o.dst ≠ some t) ∧ ∀ k, k ∈ e.keys → k ∉ x.e.keys) → Eqv (dfold M j l (st.app d e)) ((dfold M j l st).app d e) := by
  induction l with
  | nil => intro j st d e _; exact Eqv.refl _
  | cons x l ih =>
    intro j st d e h
    simp only [dfold]
    have hrest : ∀ i y, l[i]? = some y → M (j + 1 + i) = true → (∀ t, d = some t → y.o.dst ≠ some t) ∧ ∀ k, k ∈ e.keys → k ∉ y.e.keys := fun i y hi hm =>
      h (i + 1) y (by simpa using hi) (by rw [show j + (i + 1) = j + 1 + i by omega]; exact hm)
    by_cases hM : M j = true
    · simp only [hM, if_true]
      obtain ⟨h1, h2⟩ := h 0 x rfl (by simpa using hM)
      exact (Eqv.fold l _ (app_comm h1 h2)).trans (ih _ _ _ _ hrest)
    · simp only [hM, if_false, Bool.false_eq_true]
      exact ih _ _ _ _ hrest

theorem fold_set {M M' : Nat → Bool} {i : Nat} (hM : M i = false) (hM' : M' i = true) (ho : ∀ j, j ≠ i → M' j = M j) (l : List DI) : ∀ (j p : Nat) (st : St) (x : DI), j + p = i → l[p]? = some x →
    (∀ q y, l[q]? = some y → p < q → M (j + q) = true → (∀ t, x.o.dst = some t → y.o.dst ≠ some t) ∧ ∀ k, k ∈ x.e.keys → k ∉ y.e.keys) →
    Eqv (dfold M' j l st) ((dfold M j l st).app x.o.dst x.e) := by
  induction l with
  | nil => intro j p st x _ h; simp at h
  | cons y l ih =>
    intro j p st x hjp hx h
    simp only [dfold]
    cases p with
    | zero =>
      have hj : j = i := by omega
      subst hj
      simp only [List.getElem?_cons_zero, Option.some.injEq] at hx
      subst hx
      rw [hM, hM']
      simp only [if_true, Bool.false_eq_true, if_false]
      have e1 : ∀ (l : List DI) (k : Nat) (s : St), j < k → dfold M' k l s = dfold M k l s := by
        intro l
        induction l with
        | nil => intro k s _; rfl
        | cons z l ih2 => intro k s hk; simp only [dfold, ho k (by omega)]; exact ih2 _ _ (by omega)
      rw [e1 l (j + 1) _ (by omega)]
      exact fold_app l (j + 1) st _ _ (fun q z hz hm => h (q + 1) z (by simpa using hz) (by omega) (by rw [show j + (q + 1) = j + 1 + q by omega]; exact hm))
    | succ p =>
      have hj : j ≠ i := by omega
      rw [ho j hj]
      exact ih (j + 1) p _ x (by omega) (by simpa using hx) (fun q z hz hlt hm => h (q + 1) z (by simpa using hz) (by omega) (by rw [show j + (q + 1) = j + 1 + q by omega]; exact hm))

/-! ### what one operation sees -/

def redEnv (ud : List Nat) (env : List (Nat × AV)) : List (Nat × AV) := ud.map (fun t => (t, .any)) ++ env
def keepLt (nid : Nat) : List (Nat × Option AObj) → List (Nat × Option AObj)
  | [] => []
  | (i, o) :: l => if i < nid then (i, o) :: keepLt nid l else keepLt nid l
def red1 (f nid0 : Nat) (objs : List (Nat × Option AObj)) : List (Nat × Option AObj) := if f = 2 then [] else if f = 1 then keepLt nid0 objs else if 3 ≤ f then (f - 3, none) :: objs else objs
def redObjs : List Nat → Nat → List (Nat × Option AObj) → List (Nat × Option AObj)
  | [], _, objs => objs
  | a :: f, nid0, objs => red1 a nid0 (redObjs f nid0 objs)
theorem redObjs_nil (nid0 : Nat) (objs : List (Nat × Option AObj)) : redObjs [] nid0 objs = objs := rfl
theorem redObjs_cons (a : Nat) (f : List Nat) (nid0 : Nat) (objs : List (Nat × Option AObj)) : redObjs (a :: f) nid0 objs = red1 a nid0 (redObjs f nid0 objs) := rfl

def red (nid0 : Nat) (st0 : St) (done : List DI) (s : Sd) : St :=
  ⟨st0.n, st0.m, redEnv s.ud (dfold (fun j => s.anc.contains j) 0 done st0).env, redObjs s.f nid0 (dfold (fun j => s.anc.contains j) 0 done st0).objs⟩

theorem look_keepLt (nid : Nat) (l : List (Nat × Option AObj)) (t : Nat) : look (keepLt nid l) t = if t < nid then look l t else none := by
  induction l with
  | nil => simp [keepLt, look]
  | cons x l ih =>
    obtain ⟨i, o⟩ := x
    simp only [keepLt]
    split
    · simp only [look, ih]
      split
      · rename_i h1 h2; subst h2; rw [if_pos h1]
      · rfl
    · rw [ih]; simp only [look]
      split
      · rename_i h1 h2
        by_cases h3 : t = i
        · omega
        · rw [if_neg h3]
      · rfl

theorem redEnv_ev (ud : List Nat) (env : List (Nat × AV)) (t : Nat) : (look (redEnv ud env) t).getD .any = if t ∈ ud then .any else (look env t).getD .any := by
  induction ud with
  | nil => simp [redEnv]
  | cons u ud ih =>
    simp only [redEnv, List.map_cons, List.cons_append, look]
    by_cases h : t = u
    · subst h; simp
    · rw [if_neg h]
      simp only [redEnv] at ih
      rw [ih]; simp [h]

/-! ### the check that can be made ahead, by looking -/

def dAnc (l : List (Oper × Sd)) (i : Nat) : List Nat := ((l[i]?).map (·.2.anc)).getD []
def dDst (l : List (Oper × Sd)) (i : Nat) : Option Nat := (l[i]?).bind (·.1.dst)
def dMd (l : List (Oper × Sd)) (i : Nat) : List Nat := ((l[i]?).map (·.2.md)).getD []
def unord (l : List (Oper × Sd)) (i j : Nat) : Bool := i != j && !(dAnc l i).contains j && !(dAnc l j).contains i

def udHas (ud : List Nat) : Option Nat → Bool
  | some d => ud.contains d
  | none => true

/-- One operation against the list. -/
def drawAt (l : List (Oper × Sd)) (n i : Nat) : Bool :=
  match l[i]? with
  | none => true
  | some (o, s) =>
    (o.after.all fun e => !Region.binds .any e || decide (e.on < i)) &&
    (s.anc.all fun j => decide (j < i) && ((dAnc l j).all fun a => s.anc.contains a) && o.after.any fun e => Region.binds .any e && (e.on == j || (dAnc l e.on).contains j)) &&
    dstOk n o.dst &&
    (List.range l.length).all fun j =>
      (i == j || o.dst.isNone || o.dst != dDst l j) &&
      (!unord l i j ||
        (udHas s.ud (dDst l j) && (s.md.isEmpty || (dMd l j).all fun c => Nat.ble 3 c && s.md.all fun c' => Nat.ble 3 c' && c' != c) &&
          (s.f.contains 2 || (dMd l j).all fun c => s.f.contains c)))

def drawOk (l : List (Oper × Sd)) (n : Nat) : Bool := (List.range l.length).all (drawAt l n)

/-- The objects that an operation may touch: its own new ones; others, where that was said. -/
def keysOk (nid k nid0 : Nat) (md : List Nat) (objs : List (Nat × Option AObj)) : List (Nat × Option AObj) → Prop
  | [] => True
  | (i, _) :: l => ((nid ≤ i ∧ i < nid + k) ∨ ((look objs i).join.isSome = true ∧ (2 ∈ md ∨ 1 ∈ md ∧ nid0 ≤ i ∨ 3 + i ∈ md))) ∧ keysOk nid k nid0 md objs l

theorem keysOk_mem {nid k nid0 : Nat} {md : List Nat} {objs : List (Nat × Option AObj)} {u : List (Nat × Option AObj)} (h : keysOk nid k nid0 md objs u) : ∀ i ∈ u.map (·.1), (nid ≤ i ∧ i < nid + k) ∨ ((look objs i).join.isSome = true ∧ (2 ∈ md ∨ 1 ∈ md ∧ nid0 ≤ i ∨ 3 + i ∈ md)) := by
  induction u with
  | nil => intro i hi; cases hi
  | cons x u ih =>
    obtain ⟨j, o⟩ := x
    intro i hi
    simp only [List.map_cons, List.mem_cons] at hi
    rcases hi with rfl | hi
    · exact h.1
    · exact ih h.2 i hi

def nidAt (nid0 : Nat) (done : List DI) : Nat := nid0 + (done.map (·.s.k)).sum

/-- One operation of a region that draws, from what must stand before it. -/
def DStep (P : Program) (ops : Array Oper) (nid0 : Nat) (st0 : St) (done : List DI) (o : Oper) (s : Sd) (e : Eff) : Prop :=
  keysOk (nidAt nid0 done) s.k nid0 s.md (red nid0 st0 done s).objs e.upd ∧
  match o.guard with
  | none => OpT P o (nidAt nid0 done) s.k (red nid0 st0 done s) e
  | some (j, b) => ∃ t, dstAt ops j = some t ∧ t < st0.n ∧ ((∃ b', (red nid0 st0 done s).ev t = .val (.bool b') ∧ ((b' = b ∧ OpT P o (nidAt nid0 done) s.k (red nid0 st0 done s) e) ∨ (b' ≠ b ∧ e = ⟨noV, []⟩))) ∨ ((red nid0 st0 done s).ev t = noV ∧ e = ⟨noV, []⟩))

def DGo (P : Program) (ops : Array Oper) (nid0 : Nat) (st0 : St) (fin : List DI → Prop) : List DI → List (Oper × Sd) → Prop
  | done, [] => fin done
  | done, (o, s) :: rest => ∃ e, DStep P ops nid0 st0 done o s e ∧ DGo P ops nid0 st0 fin (done ++ [⟨o, s, e⟩]) rest

theorem DGo_all {P : Program} {ops : Array Oper} {nid0 : Nat} {st0 : St} {fin : List DI → Prop} (rest : List (Oper × Sd)) : ∀ (done : List DI), DGo P ops nid0 st0 fin done rest →
    ∃ more : List DI, fin (done ++ more) ∧ more.map (fun x => (x.o, x.s)) = rest ∧ ∀ i x, more[i]? = some x → DStep P ops nid0 st0 (done ++ more.take i) x.o x.s x.e := by
  induction rest with
  | nil => intro done h; exact ⟨[], by simpa [DGo] using h, rfl, fun i x hx => by simp at hx⟩
  | cons p rest ih =>
    obtain ⟨o, s⟩ := p
    intro done h
    obtain ⟨e, h1, h2⟩ := h
    obtain ⟨more, k1, k2, k3⟩ := ih _ h2
    refine ⟨⟨o, s, e⟩ :: more, by simpa using k1, by simp [k2], fun i x hx => ?_⟩
    cases i with
    | zero => simp at hx; subst hx; simpa using h1
    | succ i => have := k3 i x (by simpa using hx); simpa using this

theorem fold_n (M : Nat → Bool) (l : List DI) : ∀ (j : Nat) (st : St), (dfold M j l st).n = st.n ∧ (dfold M j l st).m = st.m := by
  induction l with
  | nil => intro j st; exact ⟨rfl, rfl⟩
  | cons x l ih => intro j st; simp only [dfold]; obtain ⟨h1, h2⟩ := ih (j + 1) (if M j then st.app x.o.dst x.e else st); rw [h1, h2]; split <;> simp [St.app_n, St.app_m]

theorem fold_congr {M M' : Nat → Bool} (l : List DI) : ∀ (j : Nat) (st : St), (∀ i, i < l.length → M (j + i) = M' (j + i)) → dfold M j l st = dfold M' j l st := by
  induction l with
  | nil => intro j st _; rfl
  | cons x l ih =>
    intro j st h
    simp only [dfold]
    rw [show M j = M' j from by simpa using h 0 (by simp)]
    exact ih _ _ (fun i hi => by have := h (i + 1) (by simpa using hi); rwa [show j + (i + 1) = j + 1 + i by omega] at this)

theorem fold_ev_none {M : Nat → Bool} {t : Nat} (l : List DI) : ∀ (j : Nat) (st : St), (∀ i x, l[i]? = some x → M (j + i) = true → x.o.dst ≠ some t) → (dfold M j l st).ev t = st.ev t := by
  induction l with
  | nil => intro j st _; rfl
  | cons x l ih =>
    intro j st h
    simp only [dfold]
    rw [ih _ _ (fun i y hi hm => h (i + 1) y (by simpa using hi) (by rw [show j + (i + 1) = j + 1 + i by omega]; exact hm))]
    split
    · rename_i hM; rw [St.ev_app, if_neg (h 0 x rfl (by simpa using hM))]
    · rfl

theorem fold_ev_some {M : Nat → Bool} {t : Nat} (l : List DI) : ∀ (j p : Nat) (st : St) (x : DI), l[p]? = some x → M (j + p) = true → x.o.dst = some t → (∀ i y, l[i]? = some y → i ≠ p → y.o.dst ≠ some t) → (dfold M j l st).ev t = x.e.v := by
  induction l with
  | nil => intro j p st x h; simp at h
  | cons y l ih =>
    intro j p st x hx hM hd h
    simp only [dfold]
    cases p with
    | zero =>
      simp only [List.getElem?_cons_zero, Option.some.injEq] at hx; subst hx
      rw [fold_ev_none l _ _ (fun i z hi _ => h (i + 1) z (by simpa using hi) (by omega))]
      rw [if_pos (by simpa using hM), St.ev_app, if_pos hd]
    | succ p =>
      exact ih (j + 1) p _ x (by simpa using hx) (by rw [show j + 1 + p = j + (p + 1) by omega]; exact hM) hd (fun i z hi hne => h (i + 1) z (by simpa using hi) (by omega))

theorem fold_ob_same {M M' : Nat → Bool} {id : Nat} (l : List DI) : ∀ (j : Nat) (a b : St), a.ob id = b.ob id → (∀ i x, l[i]? = some x → M' (j + i) = true → M (j + i) = true) → (∀ i x, l[i]? = some x → M (j + i) = true → M' (j + i) = false → id ∉ x.e.keys) → (dfold M j l a).ob id = (dfold M' j l b).ob id := by
  induction l with
  | nil => intro j a b h _ _; exact h
  | cons x l ih =>
    intro j a b h h1 h2
    simp only [dfold]
    refine ih (j + 1) _ _ ?_ (fun i y hi hm => by have := h1 (i + 1) y (by simpa using hi); rw [show j + (i + 1) = j + 1 + i by omega] at this; exact this hm) (fun i y hi hm hm' => by
      have := h2 (i + 1) y (by simpa using hi); rw [show j + (i + 1) = j + 1 + i by omega] at this; exact this hm hm')
    cases hM' : M' j with
    | true =>
      have hM := h1 0 x rfl (by simpa using hM')
      simp only [Nat.add_zero] at hM
      simp only [hM, if_true, St.ob_app]; rw [h]
    | false =>
      cases hM : M j with
      | true => simp only [if_true, Bool.false_eq_true, if_false, St.ob_app]; rw [if_neg (h2 0 x rfl (by simpa using hM) (by simpa using hM'))]; exact h
      | false => simpa using h

theorem fold_ob_from {M : Nat → Bool} {id : Nat} {o : AObj} (l : List DI) : ∀ (j : Nat) (st : St), (dfold M j l st).ob id = some o → st.ob id = some o ∨ ∃ i x, l[i]? = some x ∧ M (j + i) = true ∧ id ∈ x.e.keys := by
  induction l with
  | nil => intro j st h; exact .inl h
  | cons x l ih =>
    intro j st h
    simp only [dfold] at h
    rcases ih _ _ h with h | ⟨i, y, h1, h2, h3⟩
    · split at h
      · rename_i hM
        by_cases hk : id ∈ x.e.keys
        · exact .inr ⟨0, x, rfl, by simpa using hM, hk⟩
        · rw [St.ob_app, if_neg hk] at h; exact .inl h
      · exact .inl h
    · exact .inr ⟨i + 1, y, by simpa using h1, by rw [show j + (i + 1) = j + 1 + i by omega]; exact h2, h3⟩

theorem nidAt_le (nid0 : Nat) (its : List DI) {i j : Nat} (hij : i < j) {x : DI} (hx : its[i]? = some x) : nidAt nid0 (its.take i) + x.s.k ≤ nidAt nid0 (its.take j) := by
  unfold nidAt
  have hlt := (List.getElem?_eq_some_iff.1 hx).1
  have h1 : its.take j = its.take i ++ (x :: (its.take j).drop (i + 1)) := by
    have e : (its.take j).take i = its.take i := by rw [List.take_take, Nat.min_eq_left (by omega)]
    have hxj : (its.take j)[i]? = some x := by rw [List.getElem?_take_of_lt hij]; exact hx
    obtain ⟨hl, he⟩ := List.getElem?_eq_some_iff.1 hxj
    conv => lhs; rw [← List.take_append_drop i (its.take j)]
    rw [e, List.drop_eq_getElem_cons hl, he]
  rw [h1]
  simp only [List.map_append, List.map_cons, List.sum_append, List.sum_cons]
  omega

/-! ### every order comes to one end -/

structure DFacts (nid0 : Nat) (st0 : St) (its : List DI) : Prop where
  down : ∀ (i : Nat) (x : DI), its[i]? = some x → ∀ e ∈ x.o.after, Region.binds .any e = true → e.on < i
  anc : ∀ (i : Nat) (x : DI), its[i]? = some x → ∀ j ∈ x.s.anc, j < i ∧ (∃ e ∈ x.o.after, Region.binds .any e = true ∧ (e.on = j ∨ ∃ y : DI, its[e.on]? = some y ∧ j ∈ y.s.anc)) ∧ ∀ y : DI, its[j]? = some y → ∀ a ∈ y.s.anc, a ∈ x.s.anc
  dst : ∀ (i : Nat) (x : DI), its[i]? = some x → ∀ d, x.o.dst = some d → d < st0.n
  uniq : ∀ (i j : Nat) (x y : DI), its[i]? = some x → its[j]? = some y → i ≠ j → ∀ t, x.o.dst = some t → y.o.dst ≠ some t
  un : ∀ (i j : Nat) (x y : DI), its[i]? = some x → its[j]? = some y → i ≠ j → j ∉ x.s.anc → i ∉ y.s.anc → (∀ d, y.o.dst = some d → d ∈ x.s.ud) ∧ (x.s.md = [] ∨ ∀ c ∈ y.s.md, 3 ≤ c ∧ ∀ c' ∈ x.s.md, 3 ≤ c' ∧ c' ≠ c) ∧ (2 ∈ x.s.f ∨ ∀ c ∈ y.s.md, c ∈ x.s.f)
  base : ∀ id o, st0.ob id = some o → id < nid0
  keys : ∀ (i : Nat) (x : DI), its[i]? = some x → ∀ id ∈ x.e.keys, (nidAt nid0 (its.take i) ≤ id ∧ id < nidAt nid0 (its.take i) + x.s.k) ∨ ((∃ o, (red nid0 st0 (its.take i) x.s).ob id = some o) ∧ (2 ∈ x.s.md ∨ 1 ∈ x.s.md ∧ nid0 ≤ id ∨ 3 + id ∈ x.s.md))

section
variable {nid0 : Nat} {st0 : St} {its : List DI}

theorem red1_ob {a id : Nat} {objs : List (Nat × Option AObj)} {o : AObj} (h : (look (red1 a nid0 objs) id).join = some o) : a ≠ 2 ∧ (a = 1 → id < nid0) ∧ a ≠ 3 + id ∧ (look objs id).join = some o := by
  unfold red1 at h
  split at h
  · simp [look] at h
  · rename_i h2
    split at h
    · rename_i h1
      rw [look_keepLt] at h
      split at h
      · rename_i hlt; exact ⟨h2, fun _ => hlt, by omega, h⟩
      · simp at h
    · rename_i h1
      split at h
      · rename_i h3
        simp only [look] at h
        split at h
        · simp at h
        · rename_i h4; exact ⟨h2, fun hh => absurd hh h1, by omega, h⟩
      · rename_i h3; exact ⟨h2, fun hh => absurd hh h1, by omega, h⟩

theorem redObjs_ob {id : Nat} {o : AObj} (f : List Nat) (objs : List (Nat × Option AObj)) (h : (look (redObjs f nid0 objs) id).join = some o) : 2 ∉ f ∧ (1 ∈ f → id < nid0) ∧ 3 + id ∉ f ∧ (look objs id).join = some o := by
  induction f with
  | nil => exact ⟨by simp, by simp, by simp, h⟩
  | cons a f ih =>
    obtain ⟨h1, h2, h3, h4⟩ := red1_ob h
    obtain ⟨g1, g2, g3, g4⟩ := ih h4
    refine ⟨?_, ?_, ?_, g4⟩
    · intro hc; rcases List.mem_cons.1 hc with hc | hc
      · exact h1 hc.symm
      · exact g1 hc
    · intro hc; rcases List.mem_cons.1 hc with hc | hc
      · exact h2 hc.symm
      · exact g2 hc
    · intro hc; rcases List.mem_cons.1 hc with hc | hc
      · exact h3 hc.symm
      · exact g3 hc

theorem red_ob {i : Nat} {s : Sd} {id : Nat} {o : AObj} (h : (red nid0 st0 (its.take i) s).ob id = some o) : 2 ∉ s.f ∧ (1 ∈ s.f → id < nid0) ∧ (dfold (fun j => s.anc.contains j) 0 (its.take i) st0).ob id = some o ∧ 3 + id ∉ s.f := by
  obtain ⟨h1, h2, h3, h4⟩ := redObjs_ob s.f _ h
  exact ⟨h1, h2, h4, h3⟩

theorem DFacts.new (F : DFacts nid0 st0 its) : ∀ (i : Nat) (x : DI), its[i]? = some x → ∀ id o, (red nid0 st0 (its.take i) x.s).ob id = some o → id < nid0 ∨ ∃ (b : Nat) (y : DI), b ∈ x.s.anc ∧ its[b]? = some y ∧ nidAt nid0 (its.take b) ≤ id ∧ id < nidAt nid0 (its.take b) + y.s.k := by
  intro i
  induction i using Nat.strongRecOn with
  | _ i ih =>
    intro x hx id o ho
    obtain ⟨_, _, ho, _⟩ := red_ob ho
    rcases fold_ob_from _ _ _ ho with h | ⟨b, y, h1, h2, h3⟩
    · exact .inl (F.base _ _ h)
    · simp only [Nat.zero_add, List.contains_iff_mem] at h2
      have hb := (F.anc i x hx b h2).1
      have hy : its[b]? = some y := by rw [List.getElem?_take_of_lt hb] at h1; exact h1
      rcases F.keys b y hy id h3 with hk | ⟨⟨o', hk⟩, _⟩
      · exact .inr ⟨b, y, h2, hy, hk⟩
      · rcases ih b hb y hy id o' hk with hlt | ⟨b', y', g1, g2, g3⟩
        · exact .inl hlt
        · exact .inr ⟨b', y', (F.anc i x hx b h2).2.2 y hy b' g1, g2, g3⟩

theorem new_inj {i j : Nat} {x y : DI} (hx : its[i]? = some x) (hy : its[j]? = some y) {id : Nat} (h1 : nidAt nid0 (its.take i) ≤ id ∧ id < nidAt nid0 (its.take i) + x.s.k) (h2 : nidAt nid0 (its.take j) ≤ id ∧ id < nidAt nid0 (its.take j) + y.s.k) : i = j := by
  rcases Nat.lt_trichotomy i j with h | h | h
  · have := nidAt_le nid0 its h hx; omega
  · exact h
  · have := nidAt_le nid0 its h hy; omega

/-- What one operation sees stands in every state in which it may come up. -/
theorem DFacts.sees (F : DFacts nid0 st0 its) {M : Nat → Bool} (hcl : ∀ (j : Nat) (y : DI), its[j]? = some y → M j = true → ∀ a ∈ y.s.anc, M a = true) {i : Nat} {x : DI} (hx : its[i]? = some x) (hi : M i = false) (ha : ∀ a ∈ x.s.anc, M a = true) :
    (∀ t, (red nid0 st0 (its.take i) x.s).ev t = .any ∨ (red nid0 st0 (its.take i) x.s).ev t = (dfold M 0 its st0).ev t) ∧
    (∀ id o, (red nid0 st0 (its.take i) x.s).ob id = some o → (dfold M 0 its st0).ob id = some o) := by
  have hext : dfold (fun j => x.s.anc.contains j) 0 its st0 = dfold (fun j => x.s.anc.contains j) 0 (its.take i) st0 := by
    have key : ∀ (l1 l2 : List DI) (j : Nat) (st : St), (∀ q, q < l2.length → x.s.anc.contains (j + l1.length + q) = false) → dfold (fun j => x.s.anc.contains j) j (l1 ++ l2) st = dfold (fun j => x.s.anc.contains j) j l1 st := by
      intro l1
      induction l1 with
      | nil =>
        intro l2
        induction l2 with
        | nil => intro j st _; rfl
        | cons z l2 ih2 =>
          intro j st h
          have h0 := h 0 (by simp)
          simp only [List.length_nil, Nat.add_zero] at h0
          simp only [List.nil_append, dfold, h0, Bool.false_eq_true, if_false]
          have := ih2 (j + 1) st (fun q hq => by have := h (q + 1) (by simpa using hq); simpa [Nat.add_assoc, Nat.add_comm 1 q] using this)
          simpa [dfold] using this
      | cons z l1 ih => intro l2 j st h; simp only [List.cons_append, dfold]; exact ih l2 (j + 1) _ (fun q hq => by have := h q hq; simpa [Nat.add_assoc, Nat.add_comm 1] using this)
    conv => lhs; rw [← List.take_append_drop i its]
    refine key _ _ 0 st0 (fun q _ => ?_)
    have hil := (List.getElem?_eq_some_iff.1 hx).1
    simp only [Nat.zero_add, List.length_take, Nat.min_eq_left (Nat.le_of_lt hil)]
    refine Bool.eq_false_iff.2 (fun hc => ?_)
    have := (F.anc i x hx _ (by simpa using hc)).1
    omega
  have hun : ∀ (q : Nat) (y : DI), its[q]? = some y → M q = true → q ∉ x.s.anc → i ≠ q ∧ i ∉ y.s.anc := by
    intro q y hq hM hna
    refine ⟨fun e => ?_, fun hd => ?_⟩
    · subst e; rw [hi] at hM; cases hM
    · have := hcl q y hq hM i hd; rw [hi] at this; cases this
  refine ⟨fun t => ?_, fun id o ho => ?_⟩
  · unfold red
    simp only [St.ev]
    rw [redEnv_ev]
    by_cases htu : t ∈ x.s.ud
    · rw [if_pos htu]; exact .inl rfl
    · rw [if_neg htu]
      right
      change (dfold (fun j => x.s.anc.contains j) 0 (its.take i) st0).ev t = (dfold M 0 its st0).ev t
      rw [← hext]
      by_cases hw : ∃ (p : Nat) (y : DI), its[p]? = some y ∧ p ∈ x.s.anc ∧ y.o.dst = some t
      · obtain ⟨p, y, h1, h2, h3⟩ := hw
        rw [fold_ev_some its 0 p st0 y h1 (by simpa using h2) h3 (fun q z hq hne => by
          intro hz; exact F.uniq p q y z h1 hq (Ne.symm hne) t h3 hz)]
        rw [fold_ev_some its 0 p st0 y h1 (by simpa using ha p h2) h3 (fun q z hq hne => by
          intro hz; exact F.uniq p q y z h1 hq (Ne.symm hne) t h3 hz)]
      · rw [fold_ev_none its 0 st0 (fun q z hq hM hz => hw ⟨q, z, hq, by simpa using hM, hz⟩)]
        rw [fold_ev_none its 0 st0 (fun q z hq hM hz => by
          simp only [Nat.zero_add] at hM
          by_cases hqa : q ∈ x.s.anc
          · exact hw ⟨q, z, hq, hqa, hz⟩
          · obtain ⟨h1, h2⟩ := hun q z hq hM hqa
            exact htu ((F.un i q x z hx hq h1 hqa h2).1 t hz))]
  · obtain ⟨hf2, hf1, hob, hf3⟩ := red_ob ho
    rw [← hext] at hob
    rw [← hob]
    refine fold_ob_same its 0 st0 st0 rfl (fun q y hq hA => ?_) (fun q y hq hM hA hk => ?_)
    · simp only [Nat.zero_add, List.contains_iff_mem] at hA ⊢; exact ha q hA
    · simp only [Nat.zero_add] at hM hA
      have hqa : q ∉ x.s.anc := by simpa using hA
      obtain ⟨h1, h2⟩ := hun q y hq hM hqa
      obtain ⟨_, _, h3⟩ := F.un i q x y hx hq h1 hqa h2
      rcases F.keys q y hq id hk with hk | ⟨⟨o', hk⟩, hmd⟩
      · have hge : nid0 ≤ id := by have : nid0 ≤ nidAt nid0 (its.take q) := by unfold nidAt; omega
                                   omega
        rcases F.new i x hx id o ho with hlt | ⟨b, z, g1, g2, g3⟩
        · omega
        · have := new_inj hq g2 hk g3
          exact hqa (this ▸ g1)
      · rcases h3 with h3 | h3
        · exact hf2 h3
        · rcases hmd with hmd | ⟨hmd, hge⟩ | hmd
          · exact hf2 (h3 _ hmd)
          · have := hf1 (h3 _ hmd); omega
          · exact hf3 (h3 _ hmd)

theorem Sim.drew {c : Ctx} {ρ : Rho} {D J : Nat → Prop} {st : St} {a : Act} {w : World} (h : Sim c ρ D J st a w) (k : Nat) : Sim c ρ D J st a { w with drawn := k } := by
  have hr : ∀ {v x} {ρ : Rho}, Rep w J ρ v x → Rep { w with drawn := k } J ρ v x := fun h => by
    refine h.mono (w := w) (w' := { w with drawn := k }) (J := J) (J' := J) ?_ (Nat.le_refl _) (fun _ _ h => h)
    exact fun b hb _ => ⟨hb, rfl⟩
  refine ⟨h.defers, h.tmps, fun t => hr (h.env t), fun id o ho => ?_, h.inj, h.dom, h.jok, h.jlt, h.ilt, h.pin, ⟨h.kept.size, h.kept.os, h.kept.tape, h.kept.output, h.kept.block⟩⟩
  obtain ⟨b, s, h1, h2, h3⟩ := h.obj id o ho
  refine ⟨b, s, h1, ?_, h3⟩
  refine h2.mono (w := w) (w' := { w with drawn := k }) (J := J) (J' := J) ?_ (Nat.le_refl _) (fun _ _ h => h) rfl
  exact fun b hb _ => ⟨hb, rfl⟩

def newOf (nid0 : Nat) (its : List DI) (M : Nat → Bool) (id : Nat) : Prop := id < nid0 ∨ ∃ (j : Nat) (y : DI), its[j]? = some y ∧ M j = true ∧ nidAt nid0 (its.take j) ≤ id ∧ id < nidAt nid0 (its.take j) + y.s.k

variable {P : Program} {Q : Exit → Nat → St → Prop}

theorem draw_step {ops : Array Oper} (hops : ops = (its.map (·.o)).toArray) (F : DFacts nid0 st0 its) (hD : ∀ (i : Nat) (x : DI), its[i]? = some x → DStep P ops nid0 st0 (its.take i) x.o x.s x.e)
    {M : Nat → Bool} (hcl : ∀ (j : Nat) (y : DI), its[j]? = some y → M j = true → ∀ a ∈ y.s.anc, M a = true) {i : Nat} {x : DI} (hx : its[i]? = some x) (hi : M i = false) (ha : ∀ a ∈ x.s.anc, M a = true)
    {M' : Nat → Bool} (hM' : M' i = true) (hoth : ∀ j, j ≠ i → M' j = M j) {c : Ctx} {ρ : Rho} {J : Nat → Prop} {a : Act} {w : World} (hs : Sim c ρ (newOf nid0 its M) J (dfold M 0 its st0) a w) {K : Act → World → Prop} {R : Exit → Act → World → Prop}
    (hK : ∀ a' w' ρ' J', Sim c ρ' (newOf nid0 its M') J' (dfold M' 0 its st0) a' w' → K a' w') : wpOp P ops R i K a w := by
  obtain ⟨hse, hso⟩ := F.sees hcl hx hi ha
  have hn := fold_n M its 0 st0
  have hrn : (red nid0 st0 (its.take i) x.s).n = st0.n ∧ (red nid0 st0 (its.take i) x.s).m = st0.m := ⟨rfl, rfl⟩
  -- what the operation sees, as a relation
  have hred : Sim c ρ (newOf nid0 its M) J (red nid0 st0 (its.take i) x.s) a w := by
    refine ⟨hs.defers, by rw [hs.tmps, hn.1]; exact hrn.1.symm, fun t => ?_, fun id o ho => hs.obj id o (hso id o ho), fun id id' o o' b s s' h1 h2 => hs.inj id id' o o' b s s' (hso _ _ h1) (hso _ _ h2), hs.dom, hs.jok, hs.jlt, hs.ilt, by have := hs.pin; rw [hn.2] at this; exact this, hs.kept⟩
    rcases hse t with h | h
    · rw [h]; exact .any _
    · rw [h]; exact hs.env t
  have hopi : ops[i]? = some x.o := by rw [hops]; simp [hx]
  have hdst : ∀ d, x.o.dst = some d → d < (dfold M 0 its st0).n := fun d hd => by rw [hn.1]; exact F.dst i x hx d hd
  have hset : Eqv (dfold M' 0 its st0) ((dfold M 0 its st0).app x.o.dst x.e) := by
    refine fold_set hi hM' hoth its 0 i st0 x (by omega) hx (fun q y hq hlt hM => ?_)
    simp only [Nat.zero_add] at hM
    have hne : i ≠ q := by omega
    refine ⟨fun t ht => F.uniq i q x y hx hq hne t ht, fun k hk hk' => ?_⟩
    have hqa : q ∉ x.s.anc := fun hh => by have := (F.anc i x hx q hh).1; omega
    have hiq : i ∉ y.s.anc := fun hh => by have := hcl q y hq hM i hh; rw [hi] at this; cases this
    obtain ⟨_, h2, _⟩ := F.un i q x y hx hq hne hqa hiq
    rcases F.keys i x hx k hk with g1 | ⟨⟨o1, g1⟩, m1⟩
    · rcases F.keys q y hq k hk' with g2 | ⟨⟨o2, g2⟩, m2⟩
      · exact hne (new_inj hx hq g1 g2)
      · have hge : nid0 ≤ k := by
          have : nid0 ≤ nidAt nid0 (its.take i) := by unfold nidAt; omega
          omega
        rcases F.new q y hq k o2 g2 with hlt' | ⟨b, z, e1, e2, e3⟩
        · omega
        · have := new_inj hx e2 g1 e3; exact hiq (this ▸ e1)
    · rcases F.keys q y hq k hk' with g2 | ⟨⟨o2, g2⟩, m2⟩
      · have hge : nid0 ≤ k := by
          have : nid0 ≤ nidAt nid0 (its.take q) := by unfold nidAt; omega
          omega
        rcases F.new i x hx k o1 g1 with hlt' | ⟨b, z, e1, e2, e3⟩
        · omega
        · have := new_inj hq e2 g2 e3; exact hqa (this ▸ e1)
      · rcases h2 with h2 | h2
        · rw [h2] at m1; simp at m1
        · have n1 : ∃ c ∈ x.s.md, c = 2 ∨ c = 1 ∨ c = 3 + k := by
            rcases m1 with m1 | ⟨m1, _⟩ | m1
            · exact ⟨_, m1, .inl rfl⟩
            · exact ⟨_, m1, .inr (.inl rfl)⟩
            · exact ⟨_, m1, .inr (.inr rfl)⟩
          have n2 : ∃ c ∈ y.s.md, c = 2 ∨ c = 1 ∨ c = 3 + k := by
            rcases m2 with m2 | ⟨m2, _⟩ | m2
            · exact ⟨_, m2, .inl rfl⟩
            · exact ⟨_, m2, .inr (.inl rfl)⟩
            · exact ⟨_, m2, .inr (.inr rfl)⟩
          obtain ⟨c1, a1, b1⟩ := n1
          obtain ⟨c2, a2, b2⟩ := n2
          have e1 := h2 c2 a2
          have e2 := e1.2 c1 a1
          omega
  have hDmono : ∀ id, newOf nid0 its M id → newOf nid0 its M' id := by
    rintro id (h | ⟨j, y, h1, h2, h3⟩)
    · exact .inl h
    · exact .inr ⟨j, y, h1, by rw [hoth j (fun e => by subst e; rw [hi] at h2; cases h2)]; exact h2, h3⟩
  have hfresh : ∀ id, nidAt nid0 (its.take i) ≤ id → id < nidAt nid0 (its.take i) + x.s.k → ¬ newOf nid0 its M id := by
    intro id h1 h2 hcon
    rcases hcon with hcon | ⟨j, y, g1, g2, g3⟩
    · have : nid0 ≤ nidAt nid0 (its.take i) := by unfold nidAt; omega
      omega
    · have := new_inj hx g1 ⟨h1, h2⟩ g3
      subst this; rw [hi] at g2; cases g2
  have run : OpT P x.o (nidAt nid0 (its.take i)) x.s.k (red nid0 st0 (its.take i) x.s) x.e → x.o.wp P a w K R := fun hop => by
    refine hop c ρ _ J a w hred hfresh K R (fun v w' ρ' J' p => hK _ _ ρ' J' ?_)
    have p' : Post c (nidAt nid0 (its.take i)) x.s.k (dfold M 0 its st0) x.e ρ ρ' J J' w w' v :=
      ⟨p.size, p.os, p.tape, p.output, fun b hb hne => p.same b hb (fun id o s hk ho => hne id o s hk (hso id o ho)), p.ρmono, p.ρnew, p.Jmono, fun b hb => (p.Jnew b hb).imp id (fun h => h.imp id (fun ⟨id0, o0, s0, k1, k2, k3⟩ => ⟨id0, o0, s0, k1, hso _ _ k2, k3⟩)), p.val, fun id o ho => by
        obtain ⟨b, s, h1, h2, h3, h4⟩ := p.obj id o ho
        exact ⟨b, s, h1, h2, h3, h4.imp (fun h => h) (fun ⟨id0, o0, s0, k1, k2, k3⟩ => ⟨id0, o0, s0, k1, hso _ _ k2, k3⟩)⟩, p.inj⟩
    refine Sim.eqv hset.symm (hs.app p' hdst (fun id hid => ?_))
    rcases hid with hid | hid
    · exact hDmono id hid
    · exact .inr ⟨i, x, hx, hM', hid⟩
  have hstep := (hD i x hx).2
  unfold wpOp
  simp only [hopi]
  cases hg : x.o.guard with
  | none =>
    rw [hg] at hstep
    rw [if_pos (by simp [Region.wanted, hg])]
    exact .inl (run hstep)
  | some jb =>
    obtain ⟨j, b⟩ := jb
    rw [hg] at hstep
    obtain ⟨t, h1, h2, h34⟩ := hstep
    have skip : x.e = ⟨noV, []⟩ → K (a.put x.o.dst undef) w := fun he => by
      refine hK _ _ ρ J ?_
      have hsk : Sim c ρ (newOf nid0 its M) J ((dfold M 0 its st0).put x.o.dst noV) (a.put x.o.dst undef) w := hs.skip _ (by
        cases hd : x.o.dst with
        | none => rfl
        | some d => simpa [dstOk] using hdst d hd)
      have e1 : (dfold M 0 its st0).app x.o.dst x.e = (dfold M 0 its st0).put x.o.dst noV := by rw [he]; cases x.o.dst <;> rfl
      rw [e1] at hset
      have hsk' := Sim.eqv hset.symm hsk
      exact ⟨hsk'.defers, hsk'.tmps, hsk'.env, hsk'.obj, hsk'.inj, fun id p hp => hDmono id (hsk'.dom id p hp), hsk'.jok, hsk'.jlt, hsk'.ilt, hsk'.pin, hsk'.kept⟩
    rcases h34 with ⟨b', h3, h4⟩ | ⟨h3, he⟩
    · have hy : yielded ops a.tmps j = some b' := yielded_of hred h1 h3 (by rw [hrn.1]; exact h2)
      rcases h4 with ⟨rfl, hop⟩ | ⟨hne, he⟩
      · rw [if_pos (by simp [Region.wanted, hg, hy])]
        exact .inl (run hop)
      · rw [if_neg (by simp [Region.wanted, hg, hy]; exact hne)]
        exact skip he
    · have hy : yielded ops a.tmps j = none := no_yield hred h1 h3 (by rw [hrn.1]; exact h2)
      rw [if_neg (by simp [Region.wanted, hg, hy])]
      exact skip he

theorem draw_any {ops : Array Oper} (hops : ops = (its.map (·.o)).toArray) (F : DFacts nid0 st0 its) (hD : ∀ (i : Nat) (x : DI), its[i]? = some x → DStep P ops nid0 st0 (its.take i) x.o x.s x.e) {c : Ctx} {R : Exit → Act → World → Prop}
    (hfin : ∀ a w ρ J, Sim c ρ (newOf nid0 its fun _ => true) J (dfold (fun _ => true) 0 its st0) a w → R .normal a w) :
    ∀ (fuel : Nat) (listed : Array Bool) (a : Act) (w : World) (ρ : Rho) (J : Nat → Prop), listed.size = its.length → (List.range its.length).countP (fun j => !listed.getD j false) ≤ fuel →
      (∀ (j : Nat) (y : DI), its[j]? = some y → listed.getD j false = true → ∀ a ∈ y.s.anc, listed.getD a false = true) → Sim c ρ (newOf nid0 its fun j => listed.getD j false) J (dfold (fun j => listed.getD j false) 0 its st0) a w → wpAny P .any ops R fuel listed a w := by
  intro fuel
  have hdone : ∀ (listed : Array Bool), listed.size = its.length → (∀ j, j < its.length → listed.getD j false = true) → ∀ a w ρ J, Sim c ρ (newOf nid0 its fun j => listed.getD j false) J (dfold (fun j => listed.getD j false) 0 its st0) a w → R .normal a w := by
    intro listed hl hall a w ρ J hs
    refine hfin a w ρ J ?_
    have e1 : dfold (fun j => listed.getD j false) 0 its st0 = dfold (fun _ => true) 0 its st0 := fold_congr its 0 st0 (fun i hi => by simpa using hall i hi)
    rw [e1] at hs
    refine ⟨hs.defers, hs.tmps, hs.env, hs.obj, hs.inj, fun id p hp => ?_, hs.jok, hs.jlt, hs.ilt, hs.pin, hs.kept⟩
    rcases hs.dom id p hp with h | ⟨j, y, h1, h2, h3⟩
    · exact .inl h
    · exact .inr ⟨j, y, h1, rfl, h3⟩
  have hready : ∀ (listed : Array Bool), listed.size = its.length → Region.ready .any ops listed = [] → ∀ j, j < its.length → listed.getD j false = true := by
    intro listed hl hr j
    induction j using Nat.strongRecOn with
    | _ j ih =>
      intro hj
      refine Classical.byContradiction fun hn => ?_
      have hx := List.getElem?_eq_getElem hj
      have hm : j ∈ Region.ready .any ops listed := by
        rw [mem_ready]
        refine ⟨?_, its[j].o, by rw [hops]; simp [hj], fun e he hb => ?_⟩
        · have : listed.getD j false = false := by simpa using hn
          have hlt : j < listed.size := by omega
          simpa [Array.getD, hlt] using this
        · have := F.down j _ hx e he hb
          exact ih e.on this (by omega)
      rw [hr] at hm; cases hm
  induction fuel with
  | zero =>
    intro listed a w ρ J hl hcnt hcl hs
    have hall : ∀ j, j < its.length → listed.getD j false = true := by
      intro j hj
      have h0 : (List.range its.length).countP (fun j => !listed.getD j false) = 0 := by omega
      rw [List.countP_eq_zero] at h0
      have := h0 j (List.mem_range.2 hj)
      simpa using this
    refine ⟨?_, hdone listed hl hall a w ρ J hs⟩
    cases hr : Region.ready .any ops listed with
    | nil => rfl
    | cons i l =>
      have hm : i ∈ Region.ready .any ops listed := by rw [hr]; exact List.mem_cons_self
      obtain ⟨h1, o, h2, _⟩ := mem_ready.1 hm
      have hi : i < its.length := by have := (Array.getElem?_eq_some_iff.1 h2).1; rw [hops] at this; simpa using this
      have := hall i hi
      have hlt : i < listed.size := by omega
      simp [Array.getD, hlt] at h1 this
      rw [h1] at this; cases this
  | succ fuel ih =>
    intro listed a w ρ J hl hcnt hcl hs
    refine ⟨fun hr => hdone listed hl (hready listed hl hr) a w ρ J hs, fun i hm => ?_⟩
    obtain ⟨h1, o, h2, h3⟩ := mem_ready.1 hm
    have hi : i < its.length := by have := (Array.getElem?_eq_some_iff.1 h2).1; rw [hops] at this; simpa using this
    have hx := List.getElem?_eq_getElem hi
    have hilt : i < listed.size := by omega
    have hio : o = its[i].o := by rw [hops] at h2; simpa [hi] using h2.symm
    have hfi : listed.getD i false = false := by simp [Array.getD, hilt] at h1 ⊢; exact h1
    have hset1 : (listed.setIfInBounds i true).getD i false = true := by simp [Array.getD, hilt]
    have hsetne : ∀ j, j ≠ i → (listed.setIfInBounds i true).getD j false = listed.getD j false := fun j hj => getD_set_ne false (Ne.symm hj)
    have hanc : ∀ a ∈ its[i].s.anc, listed.getD a false = true := by
      intro q hq
      obtain ⟨_, ⟨e, he, hb, hor⟩, _⟩ := F.anc i _ hx q hq
      have hon := h3 e (by rw [hio]; exact he) hb
      rcases hor with hor | ⟨y, hy, hqy⟩
      · rw [← hor]; exact hon
      · exact hcl e.on y hy hon q hqy
    refine draw_step hops F hD hcl hx hfi hanc (M' := fun j => (listed.setIfInBounds i true).getD j false) hset1 hsetne hs (fun a' w' ρ' J' hs' => ?_)
    refine ih _ a' w' ρ' J' (by simpa using hl) ?_ ?_ hs'
    · -- one fewer is left
      have key : ∀ (l : List Nat), l.Nodup → i ∈ l → l.countP (fun j => !(listed.setIfInBounds i true).getD j false) + 1 ≤ l.countP (fun j => !listed.getD j false) := by
        intro l
        induction l with
        | nil => intro _ h; cases h
        | cons q l ihl =>
          intro hnd hm
          rw [List.nodup_cons] at hnd
          simp only [List.countP_cons]
          by_cases hq : q = i
          · subst hq
            have hrest : l.countP (fun j => !(listed.setIfInBounds q true).getD j false) = l.countP (fun j => !listed.getD j false) :=
              List.countP_congr (fun j hj => by rw [hsetne j (fun e => hnd.1 (e ▸ hj))])
            rw [hrest]
            simp only [hset1, hfi]; simp
          · have hm' : i ∈ l := by rcases List.mem_cons.1 hm with h | h; exact absurd h.symm hq; exact h
            have := ihl hnd.2 hm'
            rw [hsetne q hq]; omega
      have := key (List.range its.length) List.nodup_range (List.mem_range.2 hi)
      omega
    · intro j y hj hlj q hq
      by_cases hji : j = i
      · subst hji
        rw [hx] at hj; cases hj
        have := hanc q hq
        by_cases hqi : q = j
        · subst hqi; exact hset1
        · rw [hsetne q hqi]; exact this
      · rw [hsetne j hji] at hlj
        have := hcl j y hj hlj q hq
        by_cases hqi : q = i
        · subst hqi; exact hset1
        · rw [hsetne q hqi]; exact this

end

end Go.Sy
