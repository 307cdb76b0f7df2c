/- SymB: Sym12 Sym13 Sym14 Sym15 Sym16 Sym17 Sym18 Sym19, merged. No condition. -/
import Derived.Test.YtabafldpnkjboaaDoorSymA
import Derived.Orders
import Derived.WalkKit
import Derived.ProofKit
import Derived.OpenShut
import Derived.ChangeArms
import Derived.ChangeBears
import Derived.ReadAgain
import Derived.Handed
import Derived.Laws.StructEq
import Derived.Lib.Overlaps
/- Sym12. -/
set_option linter.unusedVariables false
set_option linter.unusedSectionVars false
set_option linter.unusedSimpArgs false
namespace Go.Sy

structure Sd where
  i : Nat
  anc : List Nat
  ud : List Nat
  f : List Nat
  md : List Nat
  k : Nat

structure DI where
  o : Oper
  s : Sd
  e : Eff

def dfold (M : Nat → Bool) : Nat → List DI → St → St
  | _, [], st => st
  | j, x :: l, st => dfold M (j + 1) l (if M j then st.app x.o.dst x.e else st)

structure Eqv (a b : St) : Prop where
  n : a.n = b.n
  m : a.m = b.m
  ev : ∀ t, a.ev t = b.ev t
  ob : ∀ t, a.ob t = b.ob t

theorem Eqv.refl (a : St) : Eqv a a := ⟨rfl, rfl, fun _ => rfl, fun _ => rfl⟩
theorem Eqv.trans {a b c : St} (h : Eqv a b) (k : Eqv b c) : Eqv a c := ⟨h.n.trans k.n, h.m.trans k.m, fun t => (h.ev t).trans (k.ev t), fun t => (h.ob t).trans (k.ob t)⟩
theorem Eqv.symm {a b : St} (h : Eqv a b) : Eqv b a := ⟨h.n.symm, h.m.symm, fun t => (h.ev t).symm, fun t => (h.ob t).symm⟩

theorem St.app_n (st : St) (d : Option Nat) (e : Eff) : (st.app d e).n = st.n := by unfold St.app St.put; split <;> rfl
theorem St.app_m (st : St) (d : Option Nat) (e : Eff) : (st.app d e).m = st.m := by unfold St.app St.put; split <;> rfl
theorem St.ev_app (st : St) (d : Option Nat) (e : Eff) (t : Nat) : (st.app d e).ev t = if d = some t then e.v else st.ev t := by
  cases d with
  | none => simp [St.app, St.put, St.ev]
  | some d =>
    simp only [St.app, St.put, St.ev, look, Option.some.injEq]
    by_cases h : t = d
    · subst h; simp
    · rw [if_neg h, if_neg (Ne.symm h)]

theorem Eqv.app {a b : St} (h : Eqv a b) (d : Option Nat) (e : Eff) : Eqv (a.app d e) (b.app d e) :=
  ⟨by rw [St.app_n, St.app_n, h.n], by rw [St.app_m, St.app_m, h.m], fun t => by rw [St.ev_app, St.ev_app, h.ev], fun t => by rw [St.ob_app, St.ob_app, h.ob]⟩

theorem Eqv.fold {M : Nat → Bool} (l : List DI) : ∀ (j : Nat) {a b : St}, Eqv a b → Eqv (dfold M j l a) (dfold M j l b) := by
  induction l with
  | nil => intro j a b h; exact h
  | cons x l ih =>
    intro j a b h
    simp only [dfold]
    refine ih _ ?_
    split
    · exact h.app _ _
    · exact h

theorem app_comm {st : St} {d d' : Option Nat} {e e' : Eff} (h1 : ∀ t, d = some t → d' ≠ some t) (h2 : ∀ i, i ∈ e.keys → i ∉ e'.keys) : Eqv ((st.app d e).app d' e') ((st.app d' e').app d e) := by
  refine ⟨by simp [St.app_n], by simp [St.app_m], fun t => ?_, fun t => ?_⟩
  · simp only [St.ev_app]
    by_cases a : d = some t
    · have b : ¬ d' = some t := h1 t a
      rw [if_neg b, if_pos a, if_pos a]
    · by_cases b : d' = some t
      · rw [if_pos b, if_neg a, if_pos b]
      · rw [if_neg b, if_neg a, if_neg a, if_neg b]
  · simp only [St.ob_app]
    by_cases a : t ∈ e.keys
    · rw [if_pos a, if_neg (h2 t a), if_pos a]
    · by_cases b : t ∈ e'.keys
      · rw [if_pos b, if_neg a, if_pos b]
      · rw [if_neg b, if_neg a, if_neg a, if_neg b]

theorem Sim.eqv {c : Ctx} {ρ : Rho} {D J : Nat → Prop} {a b : St} {x : Act} {w : World} (h : Eqv a b) (hs : Sim c ρ D J a x w) : Sim c ρ D J b x w :=
  ⟨hs.defers, by rw [hs.tmps, h.n], fun t => by rw [← h.ev]; exact hs.env t, fun id o ho => hs.obj id o (by rw [h.ob]; exact ho),
    fun id id' o o' b s s' h1 h2 => hs.inj id id' o o' b s s' (by rw [h.ob]; exact h1) (by rw [h.ob]; exact h2), hs.dom, hs.jok, hs.jlt, hs.ilt, by rw [← h.m]; exact hs.pin, hs.kept, by rw [show b.ob = a.ob from funext fun id => (h.ob id).symm]; exact hs.hid, hs.laid⟩

theorem fold_app {M : Nat → Bool} (l : List DI) : ∀ (j : Nat) (st : St) (d : Option Nat) (e : Eff),
    (∀ i x, l[i]? = some x → M (j + i) = true → (∀ t, d = some t → x.o.dst ≠ some t) ∧ ∀ k, k ∈ e.keys → k ∉ x.e.keys) → Eqv (dfold M j l (st.app d e)) ((dfold M j l st).app d e) := by
  induction l with
  | nil => intro j st d e _; exact Eqv.refl _
  | cons x l ih =>
    intro j st d e h
    simp only [dfold]
    have hrest : ∀ i y, l[i]? = some y → M (j + 1 + i) = true → (∀ t, d = some t → y.o.dst ≠ some t) ∧ ∀ k, k ∈ e.keys → k ∉ y.e.keys := fun i y hi hm =>
      h (i + 1) y (by simpa using hi) (by rw [show j + (i + 1) = j + 1 + i by omega]; exact hm)
    by_cases hM : M j = true
    · simp only [hM, if_true]
      obtain ⟨h1, h2⟩ := h 0 x rfl (by simpa using hM)
      exact (Eqv.fold l _ (app_comm h1 h2)).trans (ih _ _ _ _ hrest)
    · simp only [hM, if_false, Bool.false_eq_true]
      exact ih _ _ _ _ hrest

theorem fold_set {M M' : Nat → Bool} {i : Nat} (hM : M i = false) (hM' : M' i = true) (ho : ∀ j, j ≠ i → M' j = M j) (l : List DI) : ∀ (j p : Nat) (st : St) (x : DI), j + p = i → l[p]? = some x →
    (∀ q y, l[q]? = some y → p < q → M (j + q) = true → (∀ t, x.o.dst = some t → y.o.dst ≠ some t) ∧ ∀ k, k ∈ x.e.keys → k ∉ y.e.keys) →
    Eqv (dfold M' j l st) ((dfold M j l st).app x.o.dst x.e) := by
  induction l with
  | nil => intro j p st x _ h; simp at h
  | cons y l ih =>
    intro j p st x hjp hx h
    simp only [dfold]
    cases p with
    | zero =>
      have hj : j = i := by omega
      subst hj
      simp only [List.getElem?_cons_zero, Option.some.injEq] at hx
      subst hx
      rw [hM, hM']
      simp only [if_true, Bool.false_eq_true, if_false]
      have e1 : ∀ (l : List DI) (k : Nat) (s : St), j < k → dfold M' k l s = dfold M k l s := by
        intro l
        induction l with
        | nil => intro k s _; rfl
        | cons z l ih2 => intro k s hk; simp only [dfold, ho k (by omega)]; exact ih2 _ _ (by omega)
      rw [e1 l (j + 1) _ (by omega)]
      exact fold_app l (j + 1) st _ _ (fun q z hz hm => h (q + 1) z (by simpa using hz) (by omega) (by rw [show j + (q + 1) = j + 1 + q by omega]; exact hm))
    | succ p =>
      have hj : j ≠ i := by omega
      rw [ho j hj]
      exact ih (j + 1) p _ x (by omega) (by simpa using hx) (fun q z hz hlt hm => h (q + 1) z (by simpa using hz) (by omega) (by rw [show j + (q + 1) = j + 1 + q by omega]; exact hm))

def redEnv (ud : List Nat) (env : List (Nat × AV)) : List (Nat × AV) := ud.map (fun t => (t, .any)) ++ env
def keepLt (nid : Nat) : List (Nat × Option AObj) → List (Nat × Option AObj)
  | [] => []
  | (i, o) :: l => if i < nid then (i, o) :: keepLt nid l else keepLt nid l
def red1 (f nid0 : Nat) (objs : List (Nat × Option AObj)) : List (Nat × Option AObj) := if f = 2 then [] else if f = 1 then keepLt nid0 objs else if 3 ≤ f then (f - 3, none) :: objs else objs
def redObjs : List Nat → Nat → List (Nat × Option AObj) → List (Nat × Option AObj)
  | [], _, objs => objs
  | a :: f, nid0, objs => red1 a nid0 (redObjs f nid0 objs)
theorem redObjs_nil (nid0 : Nat) (objs : List (Nat × Option AObj)) : redObjs [] nid0 objs = objs := rfl
theorem redObjs_cons (a : Nat) (f : List Nat) (nid0 : Nat) (objs : List (Nat × Option AObj)) : redObjs (a :: f) nid0 objs = red1 a nid0 (redObjs f nid0 objs) := rfl

def red (nid0 : Nat) (st0 : St) (done : List DI) (s : Sd) : St :=
  ⟨st0.n, st0.m, redEnv s.ud (dfold (fun j => s.anc.contains j) 0 done st0).env, redObjs s.f nid0 (dfold (fun j => s.anc.contains j) 0 done st0).objs⟩

theorem look_keepLt (nid : Nat) (l : List (Nat × Option AObj)) (t : Nat) : look (keepLt nid l) t = if t < nid then look l t else none := by
  induction l with
  | nil => simp [keepLt, look]
  | cons x l ih =>
    obtain ⟨i, o⟩ := x
    simp only [keepLt]
    split
    · simp only [look, ih]
      split
      · rename_i h1 h2; subst h2; rw [if_pos h1]
      · rfl
    · rw [ih]; simp only [look]
      split
      · rename_i h1 h2
        by_cases h3 : t = i
        · omega
        · rw [if_neg h3]
      · rfl

theorem redEnv_ev (ud : List Nat) (env : List (Nat × AV)) (t : Nat) : (look (redEnv ud env) t).getD .any = if t ∈ ud then .any else (look env t).getD .any := by
  induction ud with
  | nil => simp [redEnv]
  | cons u ud ih =>
    simp only [redEnv, List.map_cons, List.cons_append, look]
    by_cases h : t = u
    · subst h; simp
    · rw [if_neg h]
      simp only [redEnv] at ih
      rw [ih]; simp [h]

def dAnc (l : List (Oper × Sd)) (i : Nat) : List Nat := ((l[i]?).map (·.2.anc)).getD []
def dDst (l : List (Oper × Sd)) (i : Nat) : Option Nat := (l[i]?).bind (·.1.dst)
def dMd (l : List (Oper × Sd)) (i : Nat) : List Nat := ((l[i]?).map (·.2.md)).getD []
def unord (l : List (Oper × Sd)) (i j : Nat) : Bool := i != j && !(dAnc l i).contains j && !(dAnc l j).contains i

def udHas (ud : List Nat) : Option Nat → Bool
  | some d => ud.contains d
  | none => true

def drawAt (l : List (Oper × Sd)) (n i : Nat) : Bool :=
  match l[i]? with
  | none => true
  | some (o, s) =>
    (o.after.all fun e => !Region.binds .any e || decide (e.on < i)) &&
    (s.anc.all fun j => decide (j < i) && ((dAnc l j).all fun a => s.anc.contains a) && o.after.any fun e => Region.binds .any e && (e.on == j || (dAnc l e.on).contains j)) &&
    dstOk n o.dst &&
    (List.range l.length).all fun j =>
      (i == j || o.dst.isNone || o.dst != dDst l j) &&
      (!unord l i j ||
        (udHas s.ud (dDst l j) && (s.md.isEmpty || (dMd l j).all fun c => Nat.ble 3 c && s.md.all fun c' => Nat.ble 3 c' && c' != c) &&
          (s.f.contains 2 || (dMd l j).all fun c => s.f.contains c)))

def drawOk (l : List (Oper × Sd)) (n : Nat) : Bool := (List.range l.length).all (drawAt l n)

def notTrO : Option AObj → Bool
  | none => true
  | some (.cells _ _) => true
  | some (.map _ _ _) => true
  | some (.full _ _) => true
  | some (.tr _ _) => false
def keysOk (nid k nid0 : Nat) (md : List Nat) (objs : List (Nat × Option AObj)) : List (Nat × Option AObj) → Prop
  | [] => True
  | (i, o) :: l => notTrO o = true ∧ ((nid ≤ i ∧ i < nid + k) ∨ ((look objs i).join.isSome = true ∧ (2 ∈ md ∨ 1 ∈ md ∧ nid0 ≤ i ∨ 3 + i ∈ md))) ∧ keysOk nid k nid0 md objs l

theorem keysOk_mem {nid k nid0 : Nat} {md : List Nat} {objs : List (Nat × Option AObj)} {u : List (Nat × Option AObj)} (h : keysOk nid k nid0 md objs u) : ∀ i ∈ u.map (·.1), (nid ≤ i ∧ i < nid + k) ∨ ((look objs i).join.isSome = true ∧ (2 ∈ md ∨ 1 ∈ md ∧ nid0 ≤ i ∨ 3 + i ∈ md)) := by
  induction u with
  | nil => intro i hi; cases hi
  | cons x u ih =>
    obtain ⟨j, o⟩ := x
    intro i hi
    simp only [List.map_cons, List.mem_cons] at hi
    rcases hi with rfl | hi
    · exact h.2.1
    · exact ih h.2.2 i hi
def nidAt (nid0 : Nat) (done : List DI) : Nat := nid0 + (done.map (·.s.k)).sum

def inN : List Nat → Nat → Bool
  | [], _ => false
  | a :: l, i => a == i || inN l i
def filtU (κ : List Nat) : List (Nat × Option AObj) → List (Nat × Option AObj)
  | [] => []
  | (i, o) :: l => if inN κ i = true then filtU κ l else (i, o) :: filtU κ l
def dropOk (objs : List (Nat × Option AObj)) (κ : List Nat) : List (Nat × Option AObj) → Prop
  | [] => True
  | (i, o) :: l => notTrO o = true ∧ (inN κ i = false ∨ (look objs i).join = o ∧ o.isSome = true) ∧ dropOk objs κ l
theorem filtU_nil : ∀ u : List (Nat × Option AObj), filtU [] u = u
  | [] => rfl
  | (i, o) :: l => by simp [filtU, inN, filtU_nil l]
theorem dropOk_nil {nid k nid0 : Nat} {md : List Nat} {objs : List (Nat × Option AObj)} : ∀ {u : List (Nat × Option AObj)}, keysOk nid k nid0 md objs u → dropOk objs [] u
  | [], _ => trivial
  | (i, o) :: l, h => ⟨h.1, .inl rfl, dropOk_nil h.2.2⟩
theorem dropOk_tr {objs : List (Nat × Option AObj)} {κ : List Nat} {u : List (Nat × Option AObj)} (h : dropOk objs κ u) : ¬ trIn u := by
  induction u with
  | nil => exact trIn_nil
  | cons x u ih =>
    obtain ⟨j, o⟩ := x
    cases o with
    | none => exact trIn_cons_none (ih h.2.2)
    | some o => exact trIn_cons (by have := h.1; cases o <;> first | rfl | cases this) (ih h.2.2)
theorem look_filt {κ : List Nat} {i : Nat} (hi : inN κ i = false) : ∀ u : List (Nat × Option AObj), look (filtU κ u) i = look u i
  | [] => rfl
  | (j, o) :: l => by
    simp only [filtU]
    split
    · rename_i h
      have : ¬ i = j := fun e => by subst e; rw [hi] at h; cases h
      rw [look_filt hi l]; simp only [look]; rw [if_neg this]
    · simp only [look]; rw [look_filt hi l]
theorem look_filt_in {κ : List Nat} {i : Nat} (hi : inN κ i = true) : ∀ u : List (Nat × Option AObj), look (filtU κ u) i = none
  | [] => rfl
  | (j, o) :: l => by
    simp only [filtU]
    split
    · exact look_filt_in hi l
    · rename_i h
      have : ¬ i = j := fun e => by subst e; exact h hi
      simp only [look]; rw [if_neg this]; exact look_filt_in hi l
theorem dropOk_look {objs : List (Nat × Option AObj)} {κ : List Nat} {i : Nat} {o : Option AObj} (hi : inN κ i = true) : ∀ {u : List (Nat × Option AObj)}, dropOk objs κ u → look u i = some o → (look objs i).join = o ∧ o.isSome = true
  | [], _, h => by cases h
  | (j, o') :: l, hd, h => by
    simp only [look] at h
    split at h
    · rename_i e
      subst e
      cases h
      rcases hd.2.1 with h | h
      · rw [hi] at h; cases h
      · exact h
    · exact dropOk_look hi hd.2.2 h
def OpB (P : Program) (o : Oper) (nid k : Nat) (st : St) (e : Eff) : Prop := ∃ κ eR, OpT P o nid k st eR ∧ e = ⟨eR.v, filtU κ eR.upd⟩ ∧ dropOk st.objs κ eR.upd
theorem OpB.of {P : Program} {o : Oper} {nid k : Nat} {st : St} {e : Eff} (hd : dropOk st.objs [] e.upd) (h : OpT P o nid k st e) : OpB P o nid k st e :=
  ⟨[], e, h, by rw [filtU_nil], hd⟩
theorem Eqv.filt {st : St} {κ : List Nat} {e : Eff} (d : Option Nat) (h : ∀ i o, inN κ i = true → look e.upd i = some o → st.ob i = o ∧ o.isSome = true) : Eqv (st.app d e) (st.app d ⟨e.v, filtU κ e.upd⟩) := by
  refine ⟨by rw [St.app_n, St.app_n], by rw [St.app_m, St.app_m], fun t => by rw [St.ev_app, St.ev_app], fun t => ?_⟩
  have h0 : ∀ u, (st.app d ⟨e.v, u⟩).ob t = ((look u t).or (look st.objs t)).join := fun u => by
    have : (st.put d e.v).objs = st.objs := by unfold St.put; split <;> rfl
    show (look (u ++ st.objs) t).join = _
    rw [look_append]
  have h1 := h0 e.upd
  have h2 := h0 (filtU κ e.upd)
  rw [h2]
  refine h1.trans ?_
  cases hi : inN κ t with
  | false => rw [look_filt hi]
  | true =>
    rw [look_filt_in hi]
    cases hl : look e.upd t with
    | none => rfl
    | some o =>
      have := (h t o hi hl).1
      show o = (look st.objs t).join
      exact this.symm

def DStep (P : Program) (ops : Array Oper) (nid0 : Nat) (st0 : St) (done : List DI) (o : Oper) (s : Sd) (e : Eff) : Prop :=
  keysOk (nidAt nid0 done) s.k nid0 s.md (red nid0 st0 done s).objs e.upd ∧
  match o.guard with
  | none => OpB P o (nidAt nid0 done) s.k (red nid0 st0 done s) e
  | some (j, b) => ∃ t, dstAt ops j = some t ∧ t < st0.n ∧ ((∃ b', (red nid0 st0 done s).ev t = .val (.bool b') ∧ ((b' = b ∧ OpB P o (nidAt nid0 done) s.k (red nid0 st0 done s) e) ∨ (b' ≠ b ∧ e = ⟨noV, []⟩))) ∨ ((red nid0 st0 done s).ev t = noV ∧ e = ⟨noV, []⟩))

def DGo (P : Program) (ops : Array Oper) (nid0 : Nat) (st0 : St) (fin : List DI → Prop) : List DI → List (Oper × Sd) → Prop
  | done, [] => fin done
  | done, (o, s) :: rest => ∃ e, DStep P ops nid0 st0 done o s e ∧ DGo P ops nid0 st0 fin (done ++ [⟨o, s, e⟩]) rest

theorem DGo_all {P : Program} {ops : Array Oper} {nid0 : Nat} {st0 : St} {fin : List DI → Prop} (rest : List (Oper × Sd)) : ∀ (done : List DI), DGo P ops nid0 st0 fin done rest →
    ∃ more : List DI, fin (done ++ more) ∧ more.map (fun x => (x.o, x.s)) = rest ∧ ∀ i x, more[i]? = some x → DStep P ops nid0 st0 (done ++ more.take i) x.o x.s x.e := by
  induction rest with
  | nil => intro done h; exact ⟨[], by simpa [DGo] using h, rfl, fun i x hx => by simp at hx⟩
  | cons p rest ih =>
    obtain ⟨o, s⟩ := p
    intro done h
    obtain ⟨e, h1, h2⟩ := h
    obtain ⟨more, k1, k2, k3⟩ := ih _ h2
    refine ⟨⟨o, s, e⟩ :: more, by simpa using k1, by simp [k2], fun i x hx => ?_⟩
    cases i with
    | zero => simp at hx; subst hx; simpa using h1
    | succ i => have := k3 i x (by simpa using hx); simpa using this

theorem fold_n (M : Nat → Bool) (l : List DI) : ∀ (j : Nat) (st : St), (dfold M j l st).n = st.n ∧ (dfold M j l st).m = st.m := by
  induction l with
  | nil => intro j st; exact ⟨rfl, rfl⟩
  | cons x l ih => intro j st; simp only [dfold]; obtain ⟨h1, h2⟩ := ih (j + 1) (if M j then st.app x.o.dst x.e else st); rw [h1, h2]; split <;> simp [St.app_n, St.app_m]

theorem fold_congr {M M' : Nat → Bool} (l : List DI) : ∀ (j : Nat) (st : St), (∀ i, i < l.length → M (j + i) = M' (j + i)) → dfold M j l st = dfold M' j l st := by
  induction l with
  | nil => intro j st _; rfl
  | cons x l ih =>
    intro j st h
    simp only [dfold]
    rw [show M j = M' j from by simpa using h 0 (by simp)]
    exact ih _ _ (fun i hi => by have := h (i + 1) (by simpa using hi); rwa [show j + (i + 1) = j + 1 + i by omega] at this)

theorem fold_ev_none {M : Nat → Bool} {t : Nat} (l : List DI) : ∀ (j : Nat) (st : St), (∀ i x, l[i]? = some x → M (j + i) = true → x.o.dst ≠ some t) → (dfold M j l st).ev t = st.ev t := by
  induction l with
  | nil => intro j st _; rfl
  | cons x l ih =>
    intro j st h
    simp only [dfold]
    rw [ih _ _ (fun i y hi hm => h (i + 1) y (by simpa using hi) (by rw [show j + (i + 1) = j + 1 + i by omega]; exact hm))]
    split
    · rename_i hM; rw [St.ev_app, if_neg (h 0 x rfl (by simpa using hM))]
    · rfl

theorem fold_ev_some {M : Nat → Bool} {t : Nat} (l : List DI) : ∀ (j p : Nat) (st : St) (x : DI), l[p]? = some x → M (j + p) = true → x.o.dst = some t → (∀ i y, l[i]? = some y → i ≠ p → y.o.dst ≠ some t) → (dfold M j l st).ev t = x.e.v := by
  induction l with
  | nil => intro j p st x h; simp at h
  | cons y l ih =>
    intro j p st x hx hM hd h
    simp only [dfold]
    cases p with
    | zero =>
      simp only [List.getElem?_cons_zero, Option.some.injEq] at hx; subst hx
      rw [fold_ev_none l _ _ (fun i z hi _ => h (i + 1) z (by simpa using hi) (by omega))]
      rw [if_pos (by simpa using hM), St.ev_app, if_pos hd]
    | succ p =>
      exact ih (j + 1) p _ x (by simpa using hx) (by rw [show j + 1 + p = j + (p + 1) by omega]; exact hM) hd (fun i z hi hne => h (i + 1) z (by simpa using hi) (by omega))

theorem fold_ob_same {M M' : Nat → Bool} {id : Nat} (l : List DI) : ∀ (j : Nat) (a b : St), a.ob id = b.ob id → (∀ i x, l[i]? = some x → M' (j + i) = true → M (j + i) = true) → (∀ i x, l[i]? = some x → M (j + i) = true → M' (j + i) = false → id ∉ x.e.keys) → (dfold M j l a).ob id = (dfold M' j l b).ob id := by
  induction l with
  | nil => intro j a b h _ _; exact h
  | cons x l ih =>
    intro j a b h h1 h2
    simp only [dfold]
    refine ih (j + 1) _ _ ?_ (fun i y hi hm => by have := h1 (i + 1) y (by simpa using hi); rw [show j + (i + 1) = j + 1 + i by omega] at this; exact this hm) (fun i y hi hm hm' => by
      have := h2 (i + 1) y (by simpa using hi); rw [show j + (i + 1) = j + 1 + i by omega] at this; exact this hm hm')
    cases hM' : M' j with
    | true =>
      have hM := h1 0 x rfl (by simpa using hM')
      simp only [Nat.add_zero] at hM
      simp only [hM, if_true, St.ob_app]; rw [h]
    | false =>
      cases hM : M j with
      | true => simp only [if_true, Bool.false_eq_true, if_false, St.ob_app]; rw [if_neg (h2 0 x rfl (by simpa using hM) (by simpa using hM'))]; exact h
      | false => simpa using h

theorem fold_ob_from {M : Nat → Bool} {id : Nat} {o : AObj} (l : List DI) : ∀ (j : Nat) (st : St), (dfold M j l st).ob id = some o → st.ob id = some o ∨ ∃ i x, l[i]? = some x ∧ M (j + i) = true ∧ id ∈ x.e.keys := by
  induction l with
  | nil => intro j st h; exact .inl h
  | cons x l ih =>
    intro j st h
    simp only [dfold] at h
    rcases ih _ _ h with h | ⟨i, y, h1, h2, h3⟩
    · split at h
      · rename_i hM
        by_cases hk : id ∈ x.e.keys
        · exact .inr ⟨0, x, rfl, by simpa using hM, hk⟩
        · rw [St.ob_app, if_neg hk] at h; exact .inl h
      · exact .inl h
    · exact .inr ⟨i + 1, y, by simpa using h1, by rw [show j + (i + 1) = j + 1 + i by omega]; exact h2, h3⟩

theorem nidAt_le (nid0 : Nat) (its : List DI) {i j : Nat} (hij : i < j) {x : DI} (hx : its[i]? = some x) : nidAt nid0 (its.take i) + x.s.k ≤ nidAt nid0 (its.take j) := by
  unfold nidAt
  have hlt := (List.getElem?_eq_some_iff.1 hx).1
  have h1 : its.take j = its.take i ++ (x :: (its.take j).drop (i + 1)) := by
    have e : (its.take j).take i = its.take i := by rw [List.take_take, Nat.min_eq_left (by omega)]
    have hxj : (its.take j)[i]? = some x := by rw [List.getElem?_take_of_lt hij]; exact hx
    obtain ⟨hl, he⟩ := List.getElem?_eq_some_iff.1 hxj
    conv => lhs; rw [← List.take_append_drop i (its.take j)]
    rw [e, List.drop_eq_getElem_cons hl, he]
  rw [h1]
  simp only [List.map_append, List.map_cons, List.sum_append, List.sum_cons]
  omega

structure DFacts (nid0 : Nat) (st0 : St) (its : List DI) : Prop where
  down : ∀ (i : Nat) (x : DI), its[i]? = some x → ∀ e ∈ x.o.after, Region.binds .any e = true → e.on < i
  anc : ∀ (i : Nat) (x : DI), its[i]? = some x → ∀ j ∈ x.s.anc, j < i ∧ (∃ e ∈ x.o.after, Region.binds .any e = true ∧ (e.on = j ∨ ∃ y : DI, its[e.on]? = some y ∧ j ∈ y.s.anc)) ∧ ∀ y : DI, its[j]? = some y → ∀ a ∈ y.s.anc, a ∈ x.s.anc
  dst : ∀ (i : Nat) (x : DI), its[i]? = some x → ∀ d, x.o.dst = some d → d < st0.n
  uniq : ∀ (i j : Nat) (x y : DI), its[i]? = some x → its[j]? = some y → i ≠ j → ∀ t, x.o.dst = some t → y.o.dst ≠ some t
  un : ∀ (i j : Nat) (x y : DI), its[i]? = some x → its[j]? = some y → i ≠ j → j ∉ x.s.anc → i ∉ y.s.anc → (∀ d, y.o.dst = some d → d ∈ x.s.ud) ∧ (x.s.md = [] ∨ ∀ c ∈ y.s.md, 3 ≤ c ∧ ∀ c' ∈ x.s.md, 3 ≤ c' ∧ c' ≠ c) ∧ (2 ∈ x.s.f ∨ ∀ c ∈ y.s.md, c ∈ x.s.f)
  base : ∀ id o, st0.ob id = some o → id < nid0
  keys : ∀ (i : Nat) (x : DI), its[i]? = some x → ∀ id ∈ x.e.keys, (nidAt nid0 (its.take i) ≤ id ∧ id < nidAt nid0 (its.take i) + x.s.k) ∨ ((∃ o, (red nid0 st0 (its.take i) x.s).ob id = some o) ∧ (2 ∈ x.s.md ∨ 1 ∈ x.s.md ∧ nid0 ≤ id ∨ 3 + id ∈ x.s.md))

section
variable {nid0 : Nat} {st0 : St} {its : List DI}

theorem red1_ob {a id : Nat} {objs : List (Nat × Option AObj)} {o : AObj} (h : (look (red1 a nid0 objs) id).join = some o) : a ≠ 2 ∧ (a = 1 → id < nid0) ∧ a ≠ 3 + id ∧ (look objs id).join = some o := by
  unfold red1 at h
  split at h
  · simp [look] at h
  · rename_i h2
    split at h
    · rename_i h1
      rw [look_keepLt] at h
      split at h
      · rename_i hlt; exact ⟨h2, fun _ => hlt, by omega, h⟩
      · simp at h
    · rename_i h1
      split at h
      · rename_i h3
        simp only [look] at h
        split at h
        · simp at h
        · rename_i h4; exact ⟨h2, fun hh => absurd hh h1, by omega, h⟩
      · rename_i h3; exact ⟨h2, fun hh => absurd hh h1, by omega, h⟩

theorem redObjs_ob {id : Nat} {o : AObj} (f : List Nat) (objs : List (Nat × Option AObj)) (h : (look (redObjs f nid0 objs) id).join = some o) : 2 ∉ f ∧ (1 ∈ f → id < nid0) ∧ 3 + id ∉ f ∧ (look objs id).join = some o := by
  induction f with
  | nil => exact ⟨by simp, by simp, by simp, h⟩
  | cons a f ih =>
    obtain ⟨h1, h2, h3, h4⟩ := red1_ob h
    obtain ⟨g1, g2, g3, g4⟩ := ih h4
    refine ⟨?_, ?_, ?_, g4⟩
    · intro hc; rcases List.mem_cons.1 hc with hc | hc
      · exact h1 hc.symm
      · exact g1 hc
    · intro hc; rcases List.mem_cons.1 hc with hc | hc
      · exact h2 hc.symm
      · exact g2 hc
    · intro hc; rcases List.mem_cons.1 hc with hc | hc
      · exact h3 hc.symm
      · exact g3 hc

theorem red_ob {i : Nat} {s : Sd} {id : Nat} {o : AObj} (h : (red nid0 st0 (its.take i) s).ob id = some o) : 2 ∉ s.f ∧ (1 ∈ s.f → id < nid0) ∧ (dfold (fun j => s.anc.contains j) 0 (its.take i) st0).ob id = some o ∧ 3 + id ∉ s.f := by
  obtain ⟨h1, h2, h3, h4⟩ := redObjs_ob s.f _ h
  exact ⟨h1, h2, h4, h3⟩

theorem DFacts.new (F : DFacts nid0 st0 its) : ∀ (i : Nat) (x : DI), its[i]? = some x → ∀ id o, (red nid0 st0 (its.take i) x.s).ob id = some o → id < nid0 ∨ ∃ (b : Nat) (y : DI), b ∈ x.s.anc ∧ its[b]? = some y ∧ nidAt nid0 (its.take b) ≤ id ∧ id < nidAt nid0 (its.take b) + y.s.k := by
  intro i
  induction i using Nat.strongRecOn with
  | _ i ih =>
    intro x hx id o ho
    obtain ⟨_, _, ho, _⟩ := red_ob ho
    rcases fold_ob_from _ _ _ ho with h | ⟨b, y, h1, h2, h3⟩
    · exact .inl (F.base _ _ h)
    · simp only [Nat.zero_add, List.contains_iff_mem] at h2
      have hb := (F.anc i x hx b h2).1
      have hy : its[b]? = some y := by rw [List.getElem?_take_of_lt hb] at h1; exact h1
      rcases F.keys b y hy id h3 with hk | ⟨⟨o', hk⟩, _⟩
      · exact .inr ⟨b, y, h2, hy, hk⟩
      · rcases ih b hb y hy id o' hk with hlt | ⟨b', y', g1, g2, g3⟩
        · exact .inl hlt
        · exact .inr ⟨b', y', (F.anc i x hx b h2).2.2 y hy b' g1, g2, g3⟩

theorem new_inj {i j : Nat} {x y : DI} (hx : its[i]? = some x) (hy : its[j]? = some y) {id : Nat} (h1 : nidAt nid0 (its.take i) ≤ id ∧ id < nidAt nid0 (its.take i) + x.s.k) (h2 : nidAt nid0 (its.take j) ≤ id ∧ id < nidAt nid0 (its.take j) + y.s.k) : i = j := by
  rcases Nat.lt_trichotomy i j with h | h | h
  · have := nidAt_le nid0 its h hx; omega
  · exact h
  · have := nidAt_le nid0 its h hy; omega

theorem DFacts.sees (F : DFacts nid0 st0 its) {M : Nat → Bool} (hcl : ∀ (j : Nat) (y : DI), its[j]? = some y → M j = true → ∀ a ∈ y.s.anc, M a = true) {i : Nat} {x : DI} (hx : its[i]? = some x) (hi : M i = false) (ha : ∀ a ∈ x.s.anc, M a = true) :
    (∀ t, (red nid0 st0 (its.take i) x.s).ev t = .any ∨ (red nid0 st0 (its.take i) x.s).ev t = (dfold M 0 its st0).ev t) ∧
    (∀ id o, (red nid0 st0 (its.take i) x.s).ob id = some o → (dfold M 0 its st0).ob id = some o) := by
  have hext : dfold (fun j => x.s.anc.contains j) 0 its st0 = dfold (fun j => x.s.anc.contains j) 0 (its.take i) st0 := by
    have key : ∀ (l1 l2 : List DI) (j : Nat) (st : St), (∀ q, q < l2.length → x.s.anc.contains (j + l1.length + q) = false) → dfold (fun j => x.s.anc.contains j) j (l1 ++ l2) st = dfold (fun j => x.s.anc.contains j) j l1 st := by
      intro l1
      induction l1 with
      | nil =>
        intro l2
        induction l2 with
        | nil => intro j st _; rfl
        | cons z l2 ih2 =>
          intro j st h
          have h0 := h 0 (by simp)
          simp only [List.length_nil, Nat.add_zero] at h0
          simp only [List.nil_append, dfold, h0, Bool.false_eq_true, if_false]
          have := ih2 (j + 1) st (fun q hq => by have := h (q + 1) (by simpa using hq); simpa [Nat.add_assoc, Nat.add_comm 1 q] using this)
          simpa [dfold] using this
      | cons z l1 ih => intro l2 j st h; simp only [List.cons_append, dfold]; exact ih l2 (j + 1) _ (fun q hq => by have := h q hq; simpa [Nat.add_assoc, Nat.add_comm 1] using this)
    conv => lhs; rw [← List.take_append_drop i its]
    refine key _ _ 0 st0 (fun q _ => ?_)
    have hil := (List.getElem?_eq_some_iff.1 hx).1
    simp only [Nat.zero_add, List.length_take, Nat.min_eq_left (Nat.le_of_lt hil)]
    refine Bool.eq_false_iff.2 (fun hc => ?_)
    have := (F.anc i x hx _ (by simpa using hc)).1
    omega
  have hun : ∀ (q : Nat) (y : DI), its[q]? = some y → M q = true → q ∉ x.s.anc → i ≠ q ∧ i ∉ y.s.anc := by
    intro q y hq hM hna
    refine ⟨fun e => ?_, fun hd => ?_⟩
    · subst e; rw [hi] at hM; cases hM
    · have := hcl q y hq hM i hd; rw [hi] at this; cases this
  refine ⟨fun t => ?_, fun id o ho => ?_⟩
  · unfold red
    simp only [St.ev]
    rw [redEnv_ev]
    by_cases htu : t ∈ x.s.ud
    · rw [if_pos htu]; exact .inl rfl
    · rw [if_neg htu]
      right
      change (dfold (fun j => x.s.anc.contains j) 0 (its.take i) st0).ev t = (dfold M 0 its st0).ev t
      rw [← hext]
      by_cases hw : ∃ (p : Nat) (y : DI), its[p]? = some y ∧ p ∈ x.s.anc ∧ y.o.dst = some t
      · obtain ⟨p, y, h1, h2, h3⟩ := hw
        rw [fold_ev_some its 0 p st0 y h1 (by simpa using h2) h3 (fun q z hq hne => by
          intro hz; exact F.uniq p q y z h1 hq (Ne.symm hne) t h3 hz)]
        rw [fold_ev_some its 0 p st0 y h1 (by simpa using ha p h2) h3 (fun q z hq hne => by
          intro hz; exact F.uniq p q y z h1 hq (Ne.symm hne) t h3 hz)]
      · rw [fold_ev_none its 0 st0 (fun q z hq hM hz => hw ⟨q, z, hq, by simpa using hM, hz⟩)]
        rw [fold_ev_none its 0 st0 (fun q z hq hM hz => by
          simp only [Nat.zero_add] at hM
          by_cases hqa : q ∈ x.s.anc
          · exact hw ⟨q, z, hq, hqa, hz⟩
          · obtain ⟨h1, h2⟩ := hun q z hq hM hqa
            exact htu ((F.un i q x z hx hq h1 hqa h2).1 t hz))]
  · obtain ⟨hf2, hf1, hob, hf3⟩ := red_ob ho
    rw [← hext] at hob
    rw [← hob]
    refine fold_ob_same its 0 st0 st0 rfl (fun q y hq hA => ?_) (fun q y hq hM hA hk => ?_)
    · simp only [Nat.zero_add, List.contains_iff_mem] at hA ⊢; exact ha q hA
    · simp only [Nat.zero_add] at hM hA
      have hqa : q ∉ x.s.anc := by simpa using hA
      obtain ⟨h1, h2⟩ := hun q y hq hM hqa
      obtain ⟨_, _, h3⟩ := F.un i q x y hx hq h1 hqa h2
      rcases F.keys q y hq id hk with hk | ⟨⟨o', hk⟩, hmd⟩
      · have hge : nid0 ≤ id := by have : nid0 ≤ nidAt nid0 (its.take q) := by unfold nidAt; omega
                                   omega
        rcases F.new i x hx id o ho with hlt | ⟨b, z, g1, g2, g3⟩
        · omega
        · have := new_inj hq g2 hk g3
          exact hqa (this ▸ g1)
      · rcases h3 with h3 | h3
        · exact hf2 h3
        · rcases hmd with hmd | ⟨hmd, hge⟩ | hmd
          · exact hf2 (h3 _ hmd)
          · have := hf1 (h3 _ hmd); omega
          · exact hf3 (h3 _ hmd)

theorem Sim.drew {c : Ctx} {ρ : Rho} {D J : Nat → Prop} {st : St} {a : Act} {w : World} (h : Sim c ρ D J st a w) (k : Nat) : Sim c ρ D J st a { w with drawn := k } := by
  have hr : ∀ {v x} {ρ : Rho}, Rep w J ρ v x → Rep { w with drawn := k } J ρ v x := fun h => by
    refine h.mono (w := w) (w' := { w with drawn := k }) (J := J) (J' := J) ?_ (Nat.le_refl _) (fun _ _ h => h)
    exact fun b hb _ => ⟨hb, rfl⟩
  refine ⟨h.defers, h.tmps, fun t => hr (h.env t), fun id o ho => ?_, h.inj, h.dom, h.jok, h.jlt, h.ilt, h.pin, ⟨h.kept.size, h.kept.os, h.kept.tape, h.kept.output, h.kept.block⟩, h.hid.step (fun i => i) (fun _ _ _ h => h) (fun _ _ _ _ _ _ _ _ e => e) (Nat.le_refl _) rfl rfl rfl (fun _ _ => rfl) (fun _ _ _ => rfl) (fun _ _ _ _ => rfl) (fun b hb => hb) (fun id H j hi hx => by
      obtain ⟨s, r, g, _⟩ := h.nl hi; exact hx.2.2.2 _ _ _ hi g), h.laid.mono (fun _ h _ => ⟨h, rfl⟩) (Nat.le_refl _)⟩
  obtain ⟨b, s, h1, h2, h3⟩ := h.obj id o ho
  refine ⟨b, s, h1, ?_, h3⟩
  refine h2.mono (w := w) (w' := { w with drawn := k }) (J := J) (J' := J) ?_ (Nat.le_refl _) (fun _ _ h => h) rfl
  exact fun b hb _ => ⟨hb, rfl⟩

def newOf (nid0 : Nat) (its : List DI) (M : Nat → Bool) (id : Nat) : Prop := id < nid0 ∨ ∃ (j : Nat) (y : DI), its[j]? = some y ∧ M j = true ∧ nidAt nid0 (its.take j) ≤ id ∧ id < nidAt nid0 (its.take j) + y.s.k

variable {P : Program} {Q : Exit → Nat → St → Prop}

theorem draw_step {ops : Array Oper} (hops : ops = (its.map (·.o)).toArray) (F : DFacts nid0 st0 its) (hD : ∀ (i : Nat) (x : DI), its[i]? = some x → DStep P ops nid0 st0 (its.take i) x.o x.s x.e)
    {M : Nat → Bool} (hcl : ∀ (j : Nat) (y : DI), its[j]? = some y → M j = true → ∀ a ∈ y.s.anc, M a = true) {i : Nat} {x : DI} (hx : its[i]? = some x) (hi : M i = false) (ha : ∀ a ∈ x.s.anc, M a = true)
    {M' : Nat → Bool} (hM' : M' i = true) (hoth : ∀ j, j ≠ i → M' j = M j) {c : Ctx} {ρ : Rho} {J : Nat → Prop} {a : Act} {w : World} (hs : Sim c ρ (newOf nid0 its M) J (dfold M 0 its st0) a w) {K : Act → World → Prop} {R : Exit → Act → World → Prop}
    (hK : ∀ a' w' ρ' J', Sim c ρ' (newOf nid0 its M') J' (dfold M' 0 its st0) a' w' → K a' w') : wpOpIn (fen c.rd) 0 P ops R i K a w := by
  obtain ⟨hse, hso⟩ := F.sees hcl hx hi ha
  have hn := fold_n M its 0 st0
  have hrn : (red nid0 st0 (its.take i) x.s).n = st0.n ∧ (red nid0 st0 (its.take i) x.s).m = st0.m := ⟨rfl, rfl⟩
  -- what the operation sees, as a relation
  have hred : Sim c ρ (newOf nid0 its M) J (red nid0 st0 (its.take i) x.s) a w := by
    refine ⟨hs.defers, by rw [hs.tmps, hn.1]; exact hrn.1.symm, fun t => ?_, fun id o ho => hs.obj id o (hso id o ho), fun id id' o o' b s s' h1 h2 => hs.inj id id' o o' b s s' (hso _ _ h1) (hso _ _ h2), hs.dom, hs.jok, hs.jlt, hs.ilt, by have := hs.pin; rw [hn.2] at this; exact this, hs.kept, hs.hid_of (fun i => i) (fun id o h => ⟨o, hso id o h, fun _ _ e => e, rfl⟩) (fun _ _ _ _ _ _ _ _ e => e) (fun _ h => .inl h), hs.laid⟩
    rcases hse t with h | h
    · rw [h]; exact .any _
    · rw [h]; exact hs.env t
  have hopi : ops[i]? = some x.o := by rw [hops]; simp [hx]
  have hdst : ∀ d, x.o.dst = some d → d < (dfold M 0 its st0).n := fun d hd => by rw [hn.1]; exact F.dst i x hx d hd
  have hset : Eqv (dfold M' 0 its st0) ((dfold M 0 its st0).app x.o.dst x.e) := by
    refine fold_set hi hM' hoth its 0 i st0 x (by omega) hx (fun q y hq hlt hM => ?_)
    simp only [Nat.zero_add] at hM
    have hne : i ≠ q := by omega
    refine ⟨fun t ht => F.uniq i q x y hx hq hne t ht, fun k hk hk' => ?_⟩
    have hqa : q ∉ x.s.anc := fun hh => by have := (F.anc i x hx q hh).1; omega
    have hiq : i ∉ y.s.anc := fun hh => by have := hcl q y hq hM i hh; rw [hi] at this; cases this
    obtain ⟨_, h2, _⟩ := F.un i q x y hx hq hne hqa hiq
    rcases F.keys i x hx k hk with g1 | ⟨⟨o1, g1⟩, m1⟩
    · rcases F.keys q y hq k hk' with g2 | ⟨⟨o2, g2⟩, m2⟩
      · exact hne (new_inj hx hq g1 g2)
      · have hge : nid0 ≤ k := by
          have : nid0 ≤ nidAt nid0 (its.take i) := by unfold nidAt; omega
          omega
        rcases F.new q y hq k o2 g2 with hlt' | ⟨b, z, e1, e2, e3⟩
        · omega
        · have := new_inj hx e2 g1 e3; exact hiq (this ▸ e1)
    · rcases F.keys q y hq k hk' with g2 | ⟨⟨o2, g2⟩, m2⟩
      · have hge : nid0 ≤ k := by
          have : nid0 ≤ nidAt nid0 (its.take q) := by unfold nidAt; omega
          omega
        rcases F.new i x hx k o1 g1 with hlt' | ⟨b, z, e1, e2, e3⟩
        · omega
        · have := new_inj hq e2 g2 e3; exact hqa (this ▸ e1)
      · rcases h2 with h2 | h2
        · rw [h2] at m1; simp at m1
        · have n1 : ∃ c ∈ x.s.md, c = 2 ∨ c = 1 ∨ c = 3 + k := by
            rcases m1 with m1 | ⟨m1, _⟩ | m1
            · exact ⟨_, m1, .inl rfl⟩
            · exact ⟨_, m1, .inr (.inl rfl)⟩
            · exact ⟨_, m1, .inr (.inr rfl)⟩
          have n2 : ∃ c ∈ y.s.md, c = 2 ∨ c = 1 ∨ c = 3 + k := by
            rcases m2 with m2 | ⟨m2, _⟩ | m2
            · exact ⟨_, m2, .inl rfl⟩
            · exact ⟨_, m2, .inr (.inl rfl)⟩
            · exact ⟨_, m2, .inr (.inr rfl)⟩
          obtain ⟨c1, a1, b1⟩ := n1
          obtain ⟨c2, a2, b2⟩ := n2
          have e1 := h2 c2 a2
          have e2 := e1.2 c1 a1
          omega
  have hDmono : ∀ id, newOf nid0 its M id → newOf nid0 its M' id := by
    rintro id (h | ⟨j, y, h1, h2, h3⟩)
    · exact .inl h
    · exact .inr ⟨j, y, h1, by rw [hoth j (fun e => by subst e; rw [hi] at h2; cases h2)]; exact h2, h3⟩
  have hfresh : ∀ id, nidAt nid0 (its.take i) ≤ id → id < nidAt nid0 (its.take i) + x.s.k → ¬ newOf nid0 its M id := by
    intro id h1 h2 hcon
    rcases hcon with hcon | ⟨j, y, g1, g2, g3⟩
    · have : nid0 ≤ nidAt nid0 (its.take i) := by unfold nidAt; omega
      omega
    · have := new_inj hx g1 ⟨h1, h2⟩ g3
      subst this; rw [hi] at g2; cases g2
  have run : OpB P x.o (nidAt nid0 (its.take i)) x.s.k (red nid0 st0 (its.take i) x.s) x.e → x.o.wpIn (fen c.rd) 0 P a w K R := fun hopB => by
    obtain ⟨κ, eR, hop, heR, hdr⟩ := hopB
    have hntr : ¬ trIn eR.upd := dropOk_tr hdr
    refine hop.at_ hred hfresh (fun v w' ρ' J' p => hK _ _ ρ' J' ?_)
    have p' : Post c (nidAt nid0 (its.take i)) x.s.k (dfold M 0 its st0) eR ρ ρ' J J' w w' v :=
      ⟨p.size, p.os, p.tape, p.output, fun b hb hne _ => p.same b hb (fun id o s hk ho => hne id o s hk (hso id o ho)) (fun h => absurd h hntr), p.ρmono, p.ρnew, p.Jmono, fun b hb => (p.Jnew b hb).imp id (fun h => h.imp (fun h => ⟨h.1.imp (fun h => h) (fun h => absurd h.1 hntr), h.2⟩) (fun ⟨id0, o0, s0, k1, k2, k3⟩ => ⟨id0, o0, s0, k1, hso _ _ k2, k3⟩)), p.val, fun id o ho => by
        obtain ⟨b, s, h1, h2, h3, h4⟩ := p.obj id o ho
        exact ⟨b, s, h1, h2, h3, h4.imp (fun h => h.imp (fun h => h) (fun h => absurd h.1 hntr)) (fun ⟨id0, o0, s0, k1, k2, k3⟩ => ⟨id0, o0, s0, k1, hso _ _ k2, k3⟩)⟩, p.inj, fun h => absurd h hntr⟩
    have hflt : Eqv ((dfold M 0 its st0).app x.o.dst eR) ((dfold M 0 its st0).app x.o.dst x.e) := by
      rw [heR]
      refine Eqv.filt _ fun id o hin hl => ?_
      obtain ⟨h1, h2⟩ := dropOk_look hin hdr hl
      cases o with
      | none => cases h2
      | some o => exact ⟨hso id o h1, rfl⟩
    refine Sim.eqv (hflt.trans hset.symm) (hs.app p' hdst (fun id hid => ?_))
    rcases hid with hid | hid
    · exact hDmono id hid
    · exact .inr ⟨i, x, hx, hM', hid⟩
  have hstep := (hD i x hx).2
  unfold wpOpIn
  simp only [hopi]
  cases hg : x.o.guard with
  | none =>
    rw [hg] at hstep
    rw [if_pos (by simp [Region.wanted, hg])]
    exact run hstep
  | some jb =>
    obtain ⟨j, b⟩ := jb
    rw [hg] at hstep
    obtain ⟨t, h1, h2, h34⟩ := hstep
    have skip : x.e = ⟨noV, []⟩ → K (a.put x.o.dst undef) w := fun he => by
      refine hK _ _ ρ J ?_
      have hsk : Sim c ρ (newOf nid0 its M) J ((dfold M 0 its st0).put x.o.dst noV) (a.put x.o.dst undef) w := hs.skip _ (by
        cases hd : x.o.dst with
        | none => rfl
        | some d => simpa [dstOk] using hdst d hd)
      have e1 : (dfold M 0 its st0).app x.o.dst x.e = (dfold M 0 its st0).put x.o.dst noV := by rw [he]; cases x.o.dst <;> rfl
      rw [e1] at hset
      have hsk' := Sim.eqv hset.symm hsk
      exact ⟨hsk'.defers, hsk'.tmps, hsk'.env, hsk'.obj, hsk'.inj, fun id p hp => hDmono id (hsk'.dom id p hp), hsk'.jok, hsk'.jlt, hsk'.ilt, hsk'.pin, hsk'.kept, hsk'.hid, hsk'.laid⟩
    rcases h34 with ⟨b', h3, h4⟩ | ⟨h3, he⟩
    · have hy : yielded ops a.tmps j = some b' := yielded_of hred h1 h3 (by rw [hrn.1]; exact h2)
      rcases h4 with ⟨rfl, hop⟩ | ⟨hne, he⟩
      · rw [if_pos (by simp [Region.wanted, hg, hy])]
        exact run hop
      · rw [if_neg (by simp [Region.wanted, hg, hy]; exact hne)]
        exact ⟨fun _ _ => trivial, skip he⟩
    · have hy : yielded ops a.tmps j = none := no_yield hred h1 h3 (by rw [hrn.1]; exact h2)
      rw [if_neg (by simp [Region.wanted, hg, hy])]
      exact ⟨fun _ _ => trivial, skip he⟩

theorem draw_any {ops : Array Oper} (hops : ops = (its.map (·.o)).toArray) (F : DFacts nid0 st0 its) (hD : ∀ (i : Nat) (x : DI), its[i]? = some x → DStep P ops nid0 st0 (its.take i) x.o x.s x.e) {c : Ctx} {R : Exit → Act → World → Prop}
    (hfin : ∀ a w ρ J, Sim c ρ (newOf nid0 its fun _ => true) J (dfold (fun _ => true) 0 its st0) a w → R .normal a w) :
    ∀ (fuel : Nat) (listed : Array Bool) (a : Act) (w : World) (ρ : Rho) (J : Nat → Prop), listed.size = its.length → (List.range its.length).countP (fun j => !listed.getD j false) ≤ fuel →
      (∀ (j : Nat) (y : DI), its[j]? = some y → listed.getD j false = true → ∀ a ∈ y.s.anc, listed.getD a false = true) → Sim c ρ (newOf nid0 its fun j => listed.getD j false) J (dfold (fun j => listed.getD j false) 0 its st0) a w → wpAnyIn (fen c.rd) 0 P .any ops R fuel listed a w := by
  intro fuel
  have hdone : ∀ (listed : Array Bool), listed.size = its.length → (∀ j, j < its.length → listed.getD j false = true) → ∀ a w ρ J, Sim c ρ (newOf nid0 its fun j => listed.getD j false) J (dfold (fun j => listed.getD j false) 0 its st0) a w → R .normal a w := by
    intro listed hl hall a w ρ J hs
    refine hfin a w ρ J ?_
    have e1 : dfold (fun j => listed.getD j false) 0 its st0 = dfold (fun _ => true) 0 its st0 := fold_congr its 0 st0 (fun i hi => by simpa using hall i hi)
    rw [e1] at hs
    refine ⟨hs.defers, hs.tmps, hs.env, hs.obj, hs.inj, fun id p hp => ?_, hs.jok, hs.jlt, hs.ilt, hs.pin, hs.kept, hs.hid, hs.laid⟩
    rcases hs.dom id p hp with h | ⟨j, y, h1, h2, h3⟩
    · exact .inl h
    · exact .inr ⟨j, y, h1, rfl, h3⟩
  have hready : ∀ (listed : Array Bool), listed.size = its.length → Region.ready .any ops listed = [] → ∀ j, j < its.length → listed.getD j false = true := by
    intro listed hl hr j
    induction j using Nat.strongRecOn with
    | _ j ih =>
      intro hj
      refine Classical.byContradiction fun hn => ?_
      have hx := List.getElem?_eq_getElem hj
      have hm : j ∈ Region.ready .any ops listed := by
        rw [mem_ready]
        refine ⟨?_, its[j].o, by rw [hops]; simp [hj], fun e he hb => ?_⟩
        · have : listed.getD j false = false := by simpa using hn
          have hlt : j < listed.size := by omega
          simpa [Array.getD, hlt] using this
        · have := F.down j _ hx e he hb
          exact ih e.on this (by omega)
      rw [hr] at hm; cases hm
  induction fuel with
  | zero =>
    intro listed a w ρ J hl hcnt hcl hs
    have hall : ∀ j, j < its.length → listed.getD j false = true := by
      intro j hj
      have h0 : (List.range its.length).countP (fun j => !listed.getD j false) = 0 := by omega
      rw [List.countP_eq_zero] at h0
      have := h0 j (List.mem_range.2 hj)
      simpa using this
    refine ⟨?_, hdone listed hl hall a w ρ J hs⟩
    cases hr : Region.ready .any ops listed with
    | nil => rfl
    | cons i l =>
      have hm : i ∈ Region.ready .any ops listed := by rw [hr]; exact List.mem_cons_self
      obtain ⟨h1, o, h2, _⟩ := mem_ready.1 hm
      have hi : i < its.length := by have := (Array.getElem?_eq_some_iff.1 h2).1; rw [hops] at this; simpa using this
      have := hall i hi
      have hlt : i < listed.size := by omega
      simp [Array.getD, hlt] at h1 this
      rw [h1] at this; cases this
  | succ fuel ih =>
    intro listed a w ρ J hl hcnt hcl hs
    refine ⟨fun hr => hdone listed hl (hready listed hl hr) a w ρ J hs, fun i hm => ?_⟩
    obtain ⟨h1, o, h2, h3⟩ := mem_ready.1 hm
    have hi : i < its.length := by have := (Array.getElem?_eq_some_iff.1 h2).1; rw [hops] at this; simpa using this
    have hx := List.getElem?_eq_getElem hi
    have hilt : i < listed.size := by omega
    have hio : o = its[i].o := by rw [hops] at h2; simpa [hi] using h2.symm
    have hfi : listed.getD i false = false := by simp [Array.getD, hilt] at h1 ⊢; exact h1
    have hset1 : (listed.setIfInBounds i true).getD i false = true := by simp [Array.getD, hilt]
    have hsetne : ∀ j, j ≠ i → (listed.setIfInBounds i true).getD j false = listed.getD j false := fun j hj => getD_set_ne false (Ne.symm hj)
    have hanc : ∀ a ∈ its[i].s.anc, listed.getD a false = true := by
      intro q hq
      obtain ⟨_, ⟨e, he, hb, hor⟩, _⟩ := F.anc i _ hx q hq
      have hon := h3 e (by rw [hio]; exact he) hb
      rcases hor with hor | ⟨y, hy, hqy⟩
      · rw [← hor]; exact hon
      · exact hcl e.on y hy hon q hqy
    refine draw_step hops F hD hcl hx hfi hanc (M' := fun j => (listed.setIfInBounds i true).getD j false) hset1 hsetne hs (fun a' w' ρ' J' hs' => ?_)
    refine ih _ a' w' ρ' J' (by simpa using hl) ?_ ?_ hs'
    · -- one fewer is left
      have key : ∀ (l : List Nat), l.Nodup → i ∈ l → l.countP (fun j => !(listed.setIfInBounds i true).getD j false) + 1 ≤ l.countP (fun j => !listed.getD j false) := by
        intro l
        induction l with
        | nil => intro _ h; cases h
        | cons q l ihl =>
          intro hnd hm
          rw [List.nodup_cons] at hnd
          simp only [List.countP_cons]
          by_cases hq : q = i
          · subst hq
            have hrest : l.countP (fun j => !(listed.setIfInBounds q true).getD j false) = l.countP (fun j => !listed.getD j false) :=
              List.countP_congr (fun j hj => by rw [hsetne j (fun e => hnd.1 (e ▸ hj))])
            rw [hrest]
            simp only [hset1, hfi]; simp
          · have hm' : i ∈ l := by rcases List.mem_cons.1 hm with h | h; exact absurd h.symm hq; exact h
            have := ihl hnd.2 hm'
            rw [hsetne q hq]; omega
      have := key (List.range its.length) List.nodup_range (List.mem_range.2 hi)
      omega
    · intro j y hj hlj q hq
      by_cases hji : j = i
      · subst hji
        rw [hx] at hj; cases hj
        have := hanc q hq
        by_cases hqi : q = j
        · subst hqi; exact hset1
        · rw [hsetne q hqi]; exact this
      · rw [hsetne j hji] at hlj
        have := hcl j y hj hlj q hq
        by_cases hqi : q = i
        · subst hqi; exact hset1
        · rw [hsetne q hqi]; exact this

end

end Go.Sy
/- Sym13. -/
set_option linter.unusedVariables false
set_option linter.unusedSectionVars false
set_option linter.unusedSimpArgs false
namespace Go.Sy

theorem drawOk_at {l : List (Oper × Sd)} {n : Nat} (h : drawOk l n = true) {i : Nat} (hi : i < l.length) : drawAt l n i = true := by
  unfold drawOk at h
  exact List.all_eq_true.1 h i (List.mem_range.2 hi)

theorem facts_of {nid0 : Nat} {st0 : St} {its : List DI} {l : List (Oper × Sd)} (hl : its.map (fun x => (x.o, x.s)) = l) (hB : drawOk l st0.n = true) (hbase : ∀ id o, st0.ob id = some o → id < nid0) {P : Program} {ops : Array Oper}
    (hD : ∀ (i : Nat) (x : DI), its[i]? = some x → DStep P ops nid0 st0 (its.take i) x.o x.s x.e) : DFacts nid0 st0 its := by
  have hget : ∀ {i : Nat} {x : DI}, its[i]? = some x → l[i]? = some (x.o, x.s) := fun {i x} h => by rw [← hl]; simp [h]
  have hback : ∀ {i : Nat} {o : Oper} {s : Sd}, l[i]? = some (o, s) → ∃ x, its[i]? = some x ∧ x.o = o ∧ x.s = s := fun {i o s} h => by
    rw [← hl, List.getElem?_map] at h
    cases hi : its[i]? with
    | none => simp [hi] at h
    | some x => simp [hi] at h; exact ⟨x, rfl, h.1, h.2⟩
  have hlen : its.length = l.length := by rw [← hl]; simp
  have hat : ∀ {i : Nat} {x : DI}, its[i]? = some x → (x.o.after.all fun e => !Region.binds .any e || decide (e.on < i)) = true ∧
      (x.s.anc.all fun j => decide (j < i) && ((dAnc l j).all fun a => x.s.anc.contains a) && x.o.after.any fun e => Region.binds .any e && (e.on == j || (dAnc l e.on).contains j)) = true ∧
      dstOk st0.n x.o.dst = true ∧
      ∀ j, j < l.length → (i == j || x.o.dst.isNone || x.o.dst != dDst l j) = true ∧ (!unord l i j ||
        (udHas x.s.ud (dDst l j) && (x.s.md.isEmpty || (dMd l j).all fun c => Nat.ble 3 c && x.s.md.all fun c' => Nat.ble 3 c' && c' != c) &&
          (x.s.f.contains 2 || (dMd l j).all fun c => x.s.f.contains c))) = true := by
    intro i x hx
    have hi : i < l.length := by rw [← hlen]; exact (List.getElem?_eq_some_iff.1 hx).1
    have := drawOk_at hB hi
    unfold drawAt at this
    rw [hget hx] at this
    simp only [Bool.and_eq_true] at this
    obtain ⟨⟨⟨h1, h2⟩, h3⟩, h4⟩ := this
    refine ⟨h1, ?_, h3, fun j hj => ?_⟩
    · rw [List.all_eq_true] at h2 ⊢
      intro q hq
      have := h2 q hq
      simpa only [Bool.and_eq_true] using this
    · have := List.all_eq_true.1 h4 j (List.mem_range.2 hj)
      simpa only [Bool.and_eq_true] using this
  refine ⟨?_, ?_, ?_, ?_, ?_, hbase, ?_⟩
  · intro i x hx e he hb
    have := (hat hx).1
    rw [Array.all_eq_true_iff_forall_mem] at this
    have := this e he
    simp [hb] at this; exact this
  · intro i x hx j hj
    have := List.all_eq_true.1 (hat hx).2.1 j hj
    simp only [Bool.and_eq_true, decide_eq_true_eq] at this
    obtain ⟨⟨h1, h2⟩, h3⟩ := this
    refine ⟨h1, ?_, fun y hy a ha => ?_⟩
    · rw [Array.any_eq_true'] at h3
      obtain ⟨e, he, hor⟩ := h3
      simp only [Bool.and_eq_true, Bool.or_eq_true, beq_iff_eq] at hor
      refine ⟨e, he, hor.1, hor.2.imp id (fun hc => ?_)⟩
      unfold dAnc at hc
      cases hle : l[e.on]? with
      | none => simp [hle] at hc
      | some p =>
        obtain ⟨y, hy, ho, hs⟩ := hback (o := p.1) (s := p.2) (by rw [hle])
        refine ⟨y, hy, ?_⟩
        rw [hs]; simpa [hle] using hc
    · have e1 : dAnc l j = y.s.anc := by unfold dAnc; rw [hget hy]; rfl
      rw [e1] at h2
      simpa using List.all_eq_true.1 h2 a ha
  · intro i x hx d hd
    have := (hat hx).2.2.1
    rw [hd] at this
    simpa [dstOk] using this
  · intro i j x y hx hy hne t hxt hyt
    have hj : j < l.length := by rw [← hlen]; exact (List.getElem?_eq_some_iff.1 hy).1
    have := ((hat hx).2.2.2 j hj).1
    have e1 : dDst l j = y.o.dst := by unfold dDst; rw [hget hy]; rfl
    rw [e1, hxt, hyt] at this
    simp [hne] at this
  · intro i j x y hx hy hne h1 h2
    have hj : j < l.length := by rw [← hlen]; exact (List.getElem?_eq_some_iff.1 hy).1
    have := ((hat hx).2.2.2 j hj).2
    have e1 : dDst l j = y.o.dst := by unfold dDst; rw [hget hy]; rfl
    have e2 : dMd l j = y.s.md := by unfold dMd; rw [hget hy]; rfl
    have e3 : dAnc l j = y.s.anc := by unfold dAnc; rw [hget hy]; rfl
    have e4 : dAnc l i = x.s.anc := by unfold dAnc; rw [hget hx]; rfl
    have hu : unord l i j = true := by
      unfold unord; rw [e3, e4]
      simp [hne, h1, h2]
    rw [hu, e1, e2] at this
    simp only [Bool.not_true, Bool.false_or, Bool.and_eq_true, Bool.or_eq_true, beq_iff_eq, Nat.ble_eq, bne_iff_ne, or_assoc, and_assoc, List.contains_iff_mem, List.isEmpty_iff, List.all_eq_true] at this
    obtain ⟨k1, k2, k3⟩ := this
    refine ⟨fun d hd => ?_, k2, ?_⟩
    · rw [hd] at k1; simpa [udHas] using k1
    · exact k3
  · intro i x hx id hid
    rcases keysOk_mem (hD i x hx).1 id hid with h | ⟨h1, h2⟩
    · exact .inl h
    · refine .inr ⟨?_, h2⟩
      exact Option.isSome_iff_exists.1 h1

section
variable {P : Program} {Q : Exit → Nat → St → Prop} {nid : Nat}

def namesLt (nid : Nat) : List (Nat × Option AObj) → Bool
  | [] => true
  | (i, _) :: l => decide (i < nid) && namesLt nid l

theorem namesLt_mem {nid : Nat} {l : List (Nat × Option AObj)} (h : namesLt nid l = true) : ∀ p ∈ l, p.1 < nid := by
  induction l with
  | nil => intro p hp; cases hp
  | cons x l ih =>
    obtain ⟨i, o⟩ := x
    simp only [namesLt, Bool.and_eq_true, decide_eq_true_eq] at h
    intro p hp
    rcases List.mem_cons.1 hp with rfl | hp
    · exact h.1
    · exact ih h.2 p hp

theorem AC_draw {id n m : Nat} {env : List (Nat × AV)} {objs : List (Nat × Option AObj)} {l : List Oper} (hm : P.follows .mixedOrders = true) (sds : List Sd) (hl : sds.length = l.length) (hB : drawOk (l.zip sds) n = true) (hlt : namesLt nid objs = true)
    (h : DGo P l.toArray nid ⟨n, m, env, objs⟩ (fun its => Q .normal (nidAt nid its) (dfold (fun _ => true) 0 its ⟨n, m, env, objs⟩)) [] (l.zip sds)) : AC P (.region id l.toArray true) Q nid ⟨n, m, env, objs⟩ := fun c ρ J a w hs => by
  obtain ⟨its, h1, h2, h3⟩ := DGo_all _ _ h
  simp only [List.nil_append] at h1 h3
  have hbase : ∀ id o, (⟨n, m, env, objs⟩ : St).ob id = some o → id < nid := by
    intro id o ho
    unfold St.ob at ho
    cases hk : look objs id with
    | none => simp [hk] at ho
    | some x => exact namesLt_mem hlt _ (look_mem hk)
  have F := facts_of h2 (st0 := ⟨n, m, env, objs⟩) hB hbase h3
  have hops : l.toArray = (its.map (·.o)).toArray := by
    have : its.map (·.o) = l := by
      have e1 : its.map (·.o) = (its.map fun x => (x.o, x.s)).map (·.1) := by simp
      rw [e1, h2, List.map_fst_zip (by omega)]
    rw [this]
  have hlen : its.length = l.length := by
    have := congrArg List.length h2
    simp at this; omega
  refine wpIn_region_any hm ?_
  have hs' := hs.drew (w.drawn + 1)
  have hsz : (Array.replicate l.toArray.size false).size = its.length := by simp [hlen]
  have hf : ∀ j, (Array.replicate l.toArray.size false).getD j false = false := by
    intro j; simp only [Array.getD]; split <;> simp
  refine draw_any hops F h3 (c := c) (R := Lift c Q) (fun a w ρ J hs => ⟨_, _, ρ, J, ?_, h1⟩) l.toArray.size (Array.replicate l.toArray.size false) a _ ρ J hsz ?_ ?_ ?_
  · refine ⟨hs.defers, hs.tmps, hs.env, hs.obj, hs.inj, fun id p hp => ?_, hs.jok, hs.jlt, hs.ilt, hs.pin, hs.kept, hs.hid, hs.laid⟩
    rcases hs.dom id p hp with hd | ⟨j, y, g1, _, g2⟩
    · show id < nidAt nid its
      unfold nidAt; omega
    · show id < nidAt nid its
      have hj := (List.getElem?_eq_some_iff.1 g1).1
      have := nidAt_le nid its hj g1
      rw [List.take_length] at this
      omega
  · have : (List.range its.length).countP (fun j => !(Array.replicate l.toArray.size false).getD j false) ≤ (List.range its.length).length := List.countP_le_length
    rw [List.length_range] at this
    have e2 : l.toArray.size = its.length := by simp [hlen]
    omega
  · intro j y _ hj; rw [hf j] at hj; cases hj
  · have e1 : dfold (fun j => (Array.replicate l.toArray.size false).getD j false) 0 its ⟨n, m, env, objs⟩ = ⟨n, m, env, objs⟩ := by
      have key : ∀ (l' : List DI) (j : Nat) (st : St), dfold (fun j => (Array.replicate l.toArray.size false).getD j false) j l' st = st := by
        intro l'
        induction l' with
        | nil => intro j st; rfl
        | cons x l' ih => intro j st; simp only [dfold, hf j, Bool.false_eq_true, if_false]; exact ih _ _
      exact key _ _ _
    rw [e1]
    exact ⟨hs'.defers, hs'.tmps, hs'.env, hs'.obj, hs'.inj, fun id p hp => .inl (hs'.dom id p hp), hs'.jok, hs'.jlt, hs'.ilt, hs'.pin, hs'.kept, hs'.hid, hs'.laid⟩

def DOp (P : Program) (ops : Array Oper) (nid0 : Nat) (st0 : St) (fin : List DI → Prop) (done : List DI) (o : Oper) (s : Sd) (rest : List (Oper × Sd)) (nid : Nat) (env : List (Nat × AV)) (objs : List (Nat × Option AObj)) : Prop :=
  match o.guard with
  | none => ∃ e, keysOk nid s.k nid0 s.md objs e.upd ∧ OpB P o nid s.k ⟨st0.n, st0.m, env, objs⟩ e ∧ DGo P ops nid0 st0 fin (done ++ [⟨o, s, e⟩]) rest
  | some (j, b) => ∃ t, dstAt ops j = some t ∧ t < st0.n ∧ ((∃ b', (look env t).getD .any = .val (.bool b') ∧
      ((b' = b ∧ ∃ e, keysOk nid s.k nid0 s.md objs e.upd ∧ OpB P o nid s.k ⟨st0.n, st0.m, env, objs⟩ e ∧ DGo P ops nid0 st0 fin (done ++ [⟨o, s, e⟩]) rest) ∨ (b' ≠ b ∧ DGo P ops nid0 st0 fin (done ++ [⟨o, s, ⟨noV, []⟩⟩]) rest))) ∨
      ((look env t).getD .any = noV ∧ DGo P ops nid0 st0 fin (done ++ [⟨o, s, ⟨noV, []⟩⟩]) rest))

theorem DG_next {ops : Array Oper} {nid0 : Nat} {st0 : St} {fin : List DI → Prop} {done : List DI} {o : Oper} {s : Sd} {rest : List (Oper × Sd)}
    (h : ∀ K : Nat → List (Nat × AV) → List (Nat × Option AObj) → Prop, (∀ nid env objs, DOp P ops nid0 st0 fin done o s rest nid env objs → K nid env objs) →
      K (nidAt nid0 done) (redEnv s.ud (dfold (fun j => s.anc.contains j) 0 done st0).env) (redObjs s.f nid0 (dfold (fun j => s.anc.contains j) 0 done st0).objs)) : DGo P ops nid0 st0 fin done ((o, s) :: rest) := by
  have := h _ (fun _ _ _ h => h)
  unfold DOp at this
  unfold DGo DStep
  cases hg : o.guard with
  | none =>
    rw [hg] at this
    obtain ⟨e, h1, h2, h3⟩ := this
    exact ⟨e, ⟨h1, h2⟩, h3⟩
  | some jb =>
    obtain ⟨j, b⟩ := jb
    rw [hg] at this
    obtain ⟨t, h1, h2, h34⟩ := this
    rcases h34 with ⟨b', h3, h4⟩ | ⟨h3, h5⟩
    · rcases h4 with ⟨h4, e, h5, h6, h7⟩ | ⟨h4, h5⟩
      · exact ⟨e, ⟨h5, t, h1, h2, .inl ⟨b', h3, .inl ⟨h4, h6⟩⟩⟩, h7⟩
      · exact ⟨⟨noV, []⟩, ⟨trivial, t, h1, h2, .inl ⟨b', h3, .inr ⟨h4, rfl⟩⟩⟩, h5⟩
    · exact ⟨⟨noV, []⟩, ⟨trivial, t, h1, h2, .inr ⟨h3, rfl⟩⟩, h5⟩

def okIdx : Nat → List DI → Bool
  | _, [] => true
  | j, x :: l => Nat.beq x.s.i j && okIdx (j + 1) l

def dsn (M : Nat → Bool) (l : List DI) (st : St) : St := l.foldl (fun st x => if M x.s.i then st.app x.o.dst x.e else st) st

theorem dfold_dsn (M : Nat → Bool) (l : List DI) : ∀ (j : Nat) (st : St), okIdx j l = true → dfold M j l st = dsn M l st := by
  induction l with
  | nil => intro j st _; rfl
  | cons x l ih =>
    intro j st h
    simp only [okIdx, Bool.and_eq_true] at h
    have e : x.s.i = j := Nat.eq_of_beq_eq_true h.1
    simp only [dfold, dsn, List.foldl_cons, e]
    exact ih (j + 1) _ h.2

def dsnE (M : Nat → Bool) (l : List DI) (n m : Nat) (env : List (Nat × AV)) (objs : List (Nat × Option AObj)) : List (Nat × AV) := (dsn M l ⟨n, m, env, objs⟩).env
def dsnO (M : Nat → Bool) (l : List DI) (n m : Nat) (env : List (Nat × AV)) (objs : List (Nat × Option AObj)) : List (Nat × Option AObj) := (dsn M l ⟨n, m, env, objs⟩).objs

section
variable {M : Nat → Bool} {l : List DI} {n m : Nat} {env : List (Nat × AV)} {objs : List (Nat × Option AObj)} {d : Nat} {dst : Option Nat} {op : Op} {ty : TypeId} {pos : String} {af : Array Edge} {g : Option (Nat × Bool)} {i k : Nat} {f md anc ud : List Nat} {v : AV} {u : List (Nat × Option AObj)}
theorem dsnE_nil : dsnE M [] n m env objs = env := rfl
theorem dsnO_nil : dsnO M [] n m env objs = objs := rfl
theorem dsnE_some : dsnE M (l ++ [⟨⟨some d, op, ty, pos, af, g⟩, ⟨i, anc, ud, f, md, k⟩, ⟨v, u⟩⟩]) n m env objs = if M i = true then (d, v) :: dsnE M l n m env objs else dsnE M l n m env objs := by
  unfold dsnE dsn; rw [List.foldl_append]; simp only [List.foldl_cons, List.foldl_nil]; split <;> rfl
theorem dsnE_none : dsnE M (l ++ [⟨⟨none, op, ty, pos, af, g⟩, ⟨i, anc, ud, f, md, k⟩, ⟨v, u⟩⟩]) n m env objs = dsnE M l n m env objs := by
  unfold dsnE dsn; rw [List.foldl_append]; simp only [List.foldl_cons, List.foldl_nil]; split <;> rfl
theorem dsnO_snoc : dsnO M (l ++ [⟨⟨dst, op, ty, pos, af, g⟩, ⟨i, anc, ud, f, md, k⟩, ⟨v, u⟩⟩]) n m env objs = if M i = true then u ++ dsnO M l n m env objs else dsnO M l n m env objs := by
  unfold dsnO dsn; rw [List.foldl_append]; simp only [List.foldl_cons, List.foldl_nil]; split
  · cases dst <;> rfl
  · rfl
theorem nidAt_nil {nid0 : Nat} : nidAt nid0 [] = nid0 := rfl
theorem nidAt_snoc {nid0 : Nat} {o : Oper} {e : Eff} : nidAt nid0 (l ++ [⟨o, ⟨i, anc, ud, f, md, k⟩, e⟩]) = nidAt nid0 l + k := by
  unfold nidAt; simp; omega
end

theorem DG_next' {ops : Array Oper} {nid0 n m : Nat} {env0 : List (Nat × AV)} {objs0 : List (Nat × Option AObj)} {fin : List DI → Prop} {done : List DI} {o : Oper} {i k : Nat} {f md anc ud : List Nat} {rest : List (Oper × Sd)} (hi : okIdx 0 done = true)
    (h : ∀ K : Nat → List (Nat × AV) → List (Nat × Option AObj) → Prop, (∀ nid env objs, DOp P ops nid0 ⟨n, m, env0, objs0⟩ fin done o ⟨i, anc, ud, f, md, k⟩ rest nid env objs → K nid env objs) →
      K (nidAt nid0 done) (redEnv ud (dsnE (fun j => anc.contains j) done n m env0 objs0)) (redObjs f nid0 (dsnO (fun j => anc.contains j) done n m env0 objs0))) : DGo P ops nid0 ⟨n, m, env0, objs0⟩ fin done ((o, ⟨i, anc, ud, f, md, k⟩) :: rest) := by
  refine DG_next (fun K hK => ?_)
  rw [dfold_dsn _ _ _ _ hi]
  exact h K hK

def DRun (P : Program) (ops : Array Oper) (nid0 n m : Nat) (env0 : List (Nat × AV)) (objs0 : List (Nat × Option AObj)) (fin : List DI → Prop) (done : List DI) (o : Oper) (s : Sd) (rest : List (Oper × Sd)) (nid : Nat) (env : List (Nat × AV)) (objs : List (Nat × Option AObj)) : Prop :=
  ∀ K : AV → List (Nat × Option AObj) → Prop, (∀ v u, DGo P ops nid0 ⟨n, m, env0, objs0⟩ fin (done ++ [⟨o, s, ⟨v, u⟩⟩]) rest → K v u) → ∃ κ, AO P o nid ⟨n, m, env, objs⟩ (fun k e => k = s.k ∧ dropOk objs κ e.upd ∧ keysOk nid s.k nid0 s.md objs (filtU κ e.upd) ∧ K e.v (filtU κ e.upd))

theorem DG_run {ops : Array Oper} {nid0 n m : Nat} {env0 : List (Nat × AV)} {objs0 : List (Nat × Option AObj)} {fin : List DI → Prop} {done : List DI} {o : Oper} {i k : Nat} {f md anc ud : List Nat} {rest : List (Oper × Sd)} {nid : Nat} {env : List (Nat × AV)} {objs : List (Nat × Option AObj)}
    (h : ∀ K : AV → List (Nat × Option AObj) → Prop, (∀ v u, DGo P ops nid0 ⟨n, m, env0, objs0⟩ fin (done ++ [⟨o, ⟨i, anc, ud, f, md, k⟩, ⟨v, u⟩⟩]) rest → K v u) → AO P o nid ⟨n, m, env, objs⟩ (fun k' e => k' = k ∧ keysOk nid k nid0 md objs e.upd ∧ K e.v e.upd)) :
    DRun P ops nid0 n m env0 objs0 fin done o ⟨i, anc, ud, f, md, k⟩ rest nid env objs := fun K hK => by
  obtain ⟨k', e, h1, h2, h3, h4⟩ := h K hK
  exact ⟨[], k', e, h1, h2, dropOk_nil h3, by rw [filtU_nil]; exact h3, by rw [filtU_nil]; exact h4⟩

theorem DG_runB (κ : List Nat) {ops : Array Oper} {nid0 n m : Nat} {env0 : List (Nat × AV)} {objs0 : List (Nat × Option AObj)} {fin : List DI → Prop} {done : List DI} {o : Oper} {i k : Nat} {f md anc ud : List Nat} {rest : List (Oper × Sd)} {nid : Nat} {env : List (Nat × AV)} {objs : List (Nat × Option AObj)}
    (h : ∀ K : AV → List (Nat × Option AObj) → Prop, (∀ v u, DGo P ops nid0 ⟨n, m, env0, objs0⟩ fin (done ++ [⟨o, ⟨i, anc, ud, f, md, k⟩, ⟨v, u⟩⟩]) rest → K v u) → AO P o nid ⟨n, m, env, objs⟩ (fun k' e => k' = k ∧ dropOk objs κ e.upd ∧ keysOk nid k nid0 md objs (filtU κ e.upd) ∧ K e.v (filtU κ e.upd))) :
    DRun P ops nid0 n m env0 objs0 fin done o ⟨i, anc, ud, f, md, k⟩ rest nid env objs := fun K hK => ⟨κ, h K hK⟩

theorem DG_go {ops : Array Oper} {nid0 n m : Nat} {env0 : List (Nat × AV)} {objs0 : List (Nat × Option AObj)} {fin : List DI → Prop} {done : List DI} {dst : Option Nat} {op : Op} {ty : TypeId} {pos : String} {af : Array Edge} {s : Sd} {rest : List (Oper × Sd)} {nid : Nat} {env : List (Nat × AV)} {objs : List (Nat × Option AObj)}
    (h : DRun P ops nid0 n m env0 objs0 fin done ⟨dst, op, ty, pos, af, none⟩ s rest nid env objs) : DOp P ops nid0 ⟨n, m, env0, objs0⟩ fin done ⟨dst, op, ty, pos, af, none⟩ s rest nid env objs := by
  obtain ⟨κ, k, e, h1, h2, h3, h4, h5⟩ := h (fun v u => DGo P ops nid0 ⟨n, m, env0, objs0⟩ fin (done ++ [⟨⟨dst, op, ty, pos, af, none⟩, s, ⟨v, u⟩⟩]) rest) (fun _ _ h => h)
  subst h2
  exact ⟨⟨e.v, filtU κ e.upd⟩, h4, ⟨κ, e, h1, rfl, h3⟩, h5⟩

theorem DG_guard {ops : Array Oper} {nid0 n m j t : Nat} {b : Bool} {env0 : List (Nat × AV)} {objs0 : List (Nat × Option AObj)} {fin : List DI → Prop} {done : List DI} {dst : Option Nat} {op : Op} {ty : TypeId} {pos : String} {af : Array Edge} {s : Sd} {rest : List (Oper × Sd)} {nid : Nat} {env : List (Nat × AV)} {objs : List (Nat × Option AObj)}
    (ht : dstAt ops j = some t) (hn : dstOk n (some t) = true)
    (h : ∀ K1 K2 : Prop, (DRun P ops nid0 n m env0 objs0 fin done ⟨dst, op, ty, pos, af, some (j, b)⟩ s rest nid env objs → K1) →
      (DGo P ops nid0 ⟨n, m, env0, objs0⟩ fin (done ++ [⟨⟨dst, op, ty, pos, af, some (j, b)⟩, s, ⟨noV, []⟩⟩]) rest → K2) →
      gAV b ((look env t).getD .any) K1 K2) : DOp P ops nid0 ⟨n, m, env0, objs0⟩ fin done ⟨dst, op, ty, pos, af, some (j, b)⟩ s rest nid env objs := by
  have hn' : t < n := by simpa [dstOk] using hn
  refine ⟨t, ht, hn', ?_⟩
  rcases h _ _ (fun h => h) (fun h => h) with ⟨b', hb, h1, h2⟩ | ⟨hb, h2⟩
  · refine .inl ⟨b', hb, ?_⟩
    by_cases e : b' = b
    · obtain ⟨κ, k, e', h3, h4, h7, h5, h6⟩ := h1 e (fun v u => DGo P ops nid0 ⟨n, m, env0, objs0⟩ fin (done ++ [⟨⟨dst, op, ty, pos, af, some (j, b)⟩, s, ⟨v, u⟩⟩]) rest) (fun _ _ h => h)
      subst h4
      exact .inl ⟨e, ⟨e'.v, filtU κ e'.upd⟩, h5, ⟨κ, e', h3, rfl, h7⟩, h6⟩
    · have e' : b' = !b := by
        clear h h1 h2 hb
        revert e; cases b <;> cases b' <;> simp
      exact .inr ⟨e, h2 e'⟩
  · exact .inr ⟨hb, h2⟩

theorem DG_nil {ops : Array Oper} {nid0 n m : Nat} {env0 : List (Nat × AV)} {objs0 : List (Nat × Option AObj)} {done : List DI} (hi : okIdx 0 done = true)
    (h : ∀ K : Nat → List (Nat × AV) → List (Nat × Option AObj) → Prop, (∀ nid env objs, Q .normal nid ⟨n, m, env, objs⟩ → K nid env objs) →
      K (nidAt nid0 done) (dsnE (fun _ => true) done n m env0 objs0) (dsnO (fun _ => true) done n m env0 objs0)) :
    DGo P ops nid0 ⟨n, m, env0, objs0⟩ (fun its => Q .normal (nidAt nid0 its) (dfold (fun _ => true) 0 its ⟨n, m, env0, objs0⟩)) done [] := by
  have := h (fun nid env objs => Q .normal nid ⟨n, m, env, objs⟩) (fun _ _ _ h => h)
  unfold dsnE dsnO at this
  rw [← dfold_dsn _ _ _ _ hi] at this
  have hn := fold_n (fun _ => true) done 0 ⟨n, m, env0, objs0⟩
  show Q .normal (nidAt nid0 done) (dfold (fun _ => true) 0 done ⟨n, m, env0, objs0⟩)
  have e : dfold (fun _ => true) 0 done ⟨n, m, env0, objs0⟩ = ⟨n, m, (dfold (fun _ => true) 0 done ⟨n, m, env0, objs0⟩).env, (dfold (fun _ => true) 0 done ⟨n, m, env0, objs0⟩).objs⟩ := by
    generalize dfold (fun _ => true) 0 done ⟨n, m, env0, objs0⟩ = s at hn
    obtain ⟨a, b, c, d⟩ := s
    simp only at hn
    rw [hn.1, hn.2]
  rw [e]; exact this

end
end Go.Sy
/- Sym14. -/
set_option linter.unusedVariables false
set_option linter.unusedSectionVars false
set_option linter.unusedSimpArgs false
namespace Go.Sy

theorem bnd_val {n : Nat} {v : Value} : bnd n (.val v) = True := by simp [bnd]
theorem bnd_isl {n : Nat} {z : Bool} {cs : List AV} {k : Nat} : bnd n (.isl z cs k) = True := by simp [bnd]
theorem bnd_ipt {n : Nat} {cs : List AV} {k : Nat} : bnd n (.ipt cs k) = True := by simp [bnd]
theorem bnd_any {n : Nat} : bnd n .any = True := by simp [bnd]
theorem bnd_sl {n id off len es : Nat} : bnd n (.sl id off len es) = (id < n) := by simp [bnd]
theorem bnd_pt {n id off : Nat} : bnd n (.pt id off) = (id < n) := by simp [bnd]
theorem bnd_mp {n id : Nat} : bnd n (.mp id) = (id < n) := by simp [bnd]
theorem bnd_yl {n id : Nat} : bnd n (.yl id) = (id < n) := by simp [bnd]
theorem bndO_tr {n j : Nat} {H : Proc} : bndO n (.tr H j) = True := rfl
theorem bnd_agg {n : Nat} {cs : List AV} : bnd n (.agg cs) = ∀ x ∈ cs, bnd n x := by simp [bnd]
theorem bnd_tup {n : Nat} {cs : List AV} : bnd n (.tup cs) = ∀ x ∈ cs, bnd n x := by simp [bnd]
theorem bnd_fn {n f : Nat} {cs : List AV} : bnd n (.fn f cs) = ∀ x ∈ cs, bnd n x := by simp [bnd]
theorem bndO_cells {n : Nat} {cs : List AV} {e : TypeId} : bndO n (.cells cs e) = ∀ x ∈ cs, bnd n x := rfl
theorem bndO_map {n k : Nat} {ag : Bool} {l : List (List Int × AV)} : bndO n (.map ag k l) = ∀ x ∈ l, bnd n x.2 := rfl
theorem noImmO_map {k : Nat} {ag : Bool} {l : List (List Int × AV)} : noImmO (.map ag k l) = ∀ x ∈ l, noImm x.2 := rfl
theorem noImm_val {v : Value} : noImm (.val v) = True := by simp [noImm]
theorem noImm_isl {z : Bool} {cs : List AV} {k : Nat} : noImm (.isl z cs k) = (cs = []) := by simp [noImm]
theorem noImm_ipt {cs : List AV} {k : Nat} : noImm (.ipt cs k) = (cs = []) := by simp [noImm]
theorem noImm_any : noImm .any = True := by simp [noImm]
theorem noImm_sl {id off len es : Nat} : noImm (.sl id off len es) = True := by simp [noImm]
theorem noImm_pt {id off : Nat} : noImm (.pt id off) = True := by simp [noImm]
theorem noImm_mp {id : Nat} : noImm (.mp id) = True := by simp [noImm]
theorem noImm_yl {id : Nat} : noImm (.yl id) = True := by simp [noImm]
theorem noImmO_tr {j : Nat} {H : Proc} : noImmO (.tr H j) = True := rfl
theorem noImm_agg {cs : List AV} : noImm (.agg cs) = ∀ x ∈ cs, noImm x := by simp [noImm]
theorem noImm_tup {cs : List AV} : noImm (.tup cs) = ∀ x ∈ cs, noImm x := by simp [noImm]
theorem noImm_fn {f : Nat} {cs : List AV} : noImm (.fn f cs) = ∀ x ∈ cs, noImm x := by simp [noImm]
theorem noImmO_cells {cs : List AV} {e : TypeId} : noImmO (.cells cs e) = ∀ x ∈ cs, noImm x := rfl

section
variable {P : Program} {st : St} {a b c d e : ResultVar}
theorem resultAV_1 : resultAV P st [a] = resAV P st a := by
  simp only [resultAV, List.mapM_cons, List.mapM_nil]
  cases resAV P st a <;> rfl
theorem resultAV_2 : resultAV P st [a, b] = (resAV P st a).bind fun x => (resAV P st b).bind fun y => some (.tup [x, y]) := by
  simp only [resultAV, List.mapM_cons, List.mapM_nil]
  cases resAV P st a <;> cases resAV P st b <;> rfl
theorem resultAV_3 : resultAV P st [a, b, c] = (resAV P st a).bind fun x => (resAV P st b).bind fun y => (resAV P st c).bind fun z => some (.tup [x, y, z]) := by
  simp only [resultAV, List.mapM_cons, List.mapM_nil]
  cases resAV P st a <;> cases resAV P st b <;> cases resAV P st c <;> rfl
theorem resultAV_4 : resultAV P st [a, b, c, d] = (resAV P st a).bind fun x => (resAV P st b).bind fun y => (resAV P st c).bind fun z => (resAV P st d).bind fun u => some (.tup [x, y, z, u]) := by
  simp only [resultAV, List.mapM_cons, List.mapM_nil]
  cases resAV P st a <;> cases resAV P st b <;> cases resAV P st c <;> cases resAV P st d <;> rfl
theorem resultAV_0 : resultAV P st [] = some (.tup []) := rfl
end

def obOf (st : St) (σ : List Nat) (fz : Bool) : Option AObj → AObj
  | some o => toO st σ fz o
  | none => .cells [] 0
def toObj (st : St) (σ : List Nat) (fz : Bool) (id : Nat) : AObj := obOf st σ fz (look st.objs id).join
def obsOk (st : St) : List Nat → Prop
  | [] => True
  | s :: ss => (look st.objs s).join.isSome = true ∧ obsOk st ss
theorem obsOk_get {st : St} {σ0 : List Nat} {fz : Bool} : ∀ {ss : List Nat}, obsOk st ss → ∀ j (h : j < (ss.map (toObj st σ0 fz)).length), ∃ o, st.ob (ss.getD j 0) = some o ∧ (ss.map (toObj st σ0 fz))[j] = toO st σ0 fz o
  | [], _, j, h => by simp at h
  | s :: ss, h, j, hj => by
    cases j with
    | zero =>
      obtain ⟨o, ho⟩ := Option.isSome_iff_exists.1 h.1
      refine ⟨o, ho, ?_⟩
      simp [toObj, ho, obOf]
    | succ j => exact obsOk_get (σ0 := σ0) (fz := fz) h.2 j (by simpa using hj)

section
variable {P : Program} {dst : Option Nat} {ty : TypeId} {pos : String} {af : Array Edge} {g : Option (Nat × Bool)} {nid : Nat} {K : Nat → Eff → Prop}

def CallGo (P : Program) (f : FuncId) (σ : List Nat) (m : Nat) (fz : Bool) (nid : Nat) (K : Nat → Eff → Prop) (as : List AV) (os : List AObj) : Prop :=
  ∃ r cobjs', ACall P f as os m r cobjs' ∧ m ≤ cobjs'.length ∧ (fz = true → noImm r ∧ ∀ o ∈ cobjs', noImmO o) ∧ trs cobjs' = trs os ∧ K (cobjs'.length - m) ⟨ren (outName σ m nid) r, callUpd σ m nid cobjs'⟩

theorem R_callG {f : FuncId} {xs : Array Operand} {tys : Array TypeId} {st : St} [hp : TPlain P f] (σ : List Nat) (m : Nat) (fz : Bool)
    (h : obsOk st σ ∧ m ≤ σ.length ∧ σ.Nodup ∧ (∀ i ∈ σ, i < nid) ∧
      ∀ G : List AV → List AObj → Prop, (∀ as os, CallGo P f σ m fz nid K as os → G as os) → G (xs.toList.map fun x => toA st σ fz 8 (st.op x)) (σ.map (toObj st σ fz))) :
    AO P ⟨dst, .call ⟨.value (.func f), xs, tys⟩, ty, pos, af, g⟩ nid st K := by
  obtain ⟨h2, h3, h4, h5, h6⟩ := h
  obtain ⟨r, cobjs', hc, hm, hfz, htr, hK⟩ := h6 _ (fun _ _ h => h)
  exact R_call hc σ fz ⟨by simpa using h3, hm, by simp, h4, h5⟩ (obsOk_get h2) rfl (fun hf => ⟨(hfz hf).1, fun j hj => (hfz hf).2 _ (List.getElem_mem hj)⟩) htr hK
end

section
variable {P : Program} {Q : Exit → Nat → St → Prop} {nid : Nat}

theorem AC_frz {code : Code} {n m : Nat} {env : List (Nat × AV)} {objs : List (Nat × Option AObj)} (id : Nat)
    (h : ∃ cs e, (look objs id).join = some (.cells cs e) ∧ (∀ x ∈ cs, bnd 0 x) ∧ ∀ K : List (Nat × AV) → List (Nat × Option AObj) → Prop, (∀ env' objs', AC P code Q nid ⟨n, m, env', objs'⟩ → K env' objs') →
      K (env.map fun p => (p.1, frzV id cs p.2)) ((id, none) :: objs.map fun p => (p.1, p.2.map (frzO id cs)))) : AC P code Q nid ⟨n, m, env, objs⟩ := fun c ρ J a w hs => by
  obtain ⟨cs, e, h1, h2, h3⟩ := h
  obtain ⟨J', hs'⟩ := Frz.one (st := ⟨n, m, env, objs⟩) h1 h2 c ρ _ J a w hs
  exact h3 (fun env' objs' => AC P code Q nid ⟨n, m, env', objs'⟩) (fun _ _ h => h) c ρ J' a w hs'

theorem Ends.frz {fn : Func} {objs0 : List AObj} {m0 : Nat} {r : AV} {objs' : List AObj} {e : Exit} {n m : Nat} {env : List (Nat × AV)} {objs : List (Nat × Option AObj)} (id : Nat)
    (h : ∃ cs e', (look objs id).join = some (.cells cs e') ∧ (∀ x ∈ cs, bnd 0 x) ∧ ∀ K : List (Nat × AV) → List (Nat × Option AObj) → Prop, (∀ env' objs'', Ends P fn objs0 m0 r objs' e ⟨n, m, env', objs''⟩ → K env' objs'') →
      K (env.map fun p => (p.1, frzV id cs p.2)) ((id, none) :: objs.map fun p => (p.1, p.2.map (frzO id cs)))) : Ends P fn objs0 m0 r objs' e ⟨n, m, env, objs⟩ := by
  obtain ⟨cs, e', h1, h2, h3⟩ := h
  obtain ⟨he, st', σ, hf, h⟩ := h3 (fun env' objs'' => Ends P fn objs0 m0 r objs' e ⟨n, m, env', objs''⟩) (fun _ _ h => h)
  exact ⟨he, st', σ, (Frz.one (st := ⟨n, m, env, objs⟩) h1 h2).trans hf, h⟩

theorem Ends.mk2 {fn : Func} {objs0 : List AObj} {m : Nat} {r : AV} {objs' : List AObj} {e : Exit} {n : Nat} {env : List (Nat × AV)} {objs : List (Nat × Option AObj)} (he : e = .normal ∨ e = .ret) (σ : List Nat)
    (h : σ.length = objs'.length ∧ σ.Nodup ∧ σ.take m = List.range m ∧ bnd σ.length r ∧ subObj σ ⟨n, m, env, objs⟩ ((idx 0 objs').map fun p => (p.1, some p.2)) ∧ resultAV P ⟨n, m, env, objs⟩ fn.results.toList = some (ren (σ.getD · 0) r)) : Ends P fn objs0 m r objs' e ⟨n, m, env, objs⟩ :=
  Ends.mk' he σ h.1 h.2.2.2.2.1 h.2.1 h.2.2.1 h.2.2.2.2.2 h.2.2.2.1
end
end Go.Sy
/- Sym15. -/
set_option linter.unusedVariables false
set_option linter.unusedSectionVars false
set_option linter.unusedSimpArgs false
namespace Go.Sy

structure Ph {α : Type} (k : α → Prop) : Type where
def bindK {α : Type} (o : Option α) (k : α → Prop) (_ : Ph k := ⟨⟩) : Prop := ∃ a, o = some a ∧ k a
theorem bindK_some {α : Type} {a : α} {k : α → Prop} {h} : bindK (some a) k h = k a := by simp [bindK]
theorem bindK_map {α β : Type} {o : Option α} {f : α → β} {k : β → Prop} {h} : bindK (o.map f) k h = bindK o (fun a => k (f a)) := by cases o <;> simp [bindK]
theorem bindK_get {α : Type} [Inhabited α] {l : List α} {i : Nat} {k : α → Prop} {p} (h : i < l.length) : bindK l[i]? k p = k (l.getD i default) := by
  simp [bindK, List.getD_eq_getElem?_getD, List.getElem?_eq_getElem h]
theorem bindK_if {α : Type} {p : Prop} [Decidable p] {a : α} {k : α → Prop} {q} (h : p) : bindK (if p then some a else none) k q = k a := by simp [bindK, h]
theorem bindK_if' {α : Type} {p : Prop} [Decidable p] {a : α} {k : α → Prop} {q} (h : ¬ p) : bindK (if p then none else some a) k q = k a := by simp [bindK, h]

def boolAV : AV → Option Bool
  | .val (.bool b) => some b
  | _ => none
def intkAV : AV → Option (IntKind × Int)
  | .val (.int k n) => some (k, n)
  | _ => none
def strAV : AV → Option ByteArray
  | .val (.string s) => some s
  | _ => none
def ptAV : AV → Option (Nat × Nat)
  | .pt id off => some (id, off)
  | _ => none
def islAV : AV → Option (Bool × List AV × Nat)
  | .isl z cs n => some (z, cs, n)
  | _ => none
def slAV : AV → Option (Nat × Nat × Nat × Nat)
  | .sl id off n es => some (id, off, n, es)
  | _ => none
def aggAV : AV → Option (List AV)
  | .agg cs => some cs
  | _ => none
def tupAV : AV → Option (List AV)
  | .tup cs => some cs
  | _ => none
def clOb : Option AObj → Option (List AV × TypeId)
  | some (.cells cs e) => some (cs, e)
  | _ => none

theorem boolAV_eq {x : AV} {b : Bool} (h : boolAV x = some b) : x = .val (.bool b) := by unfold boolAV at h; split at h <;> simp_all
theorem intkAV_eq {x : AV} {p : IntKind × Int} (h : intkAV x = some p) : x = .val (.int p.1 p.2) := by unfold intkAV at h; split at h <;> simp_all [Prod.ext_iff]
theorem strAV_eq {x : AV} {b : ByteArray} (h : strAV x = some b) : x = .val (.string b) := by unfold strAV at h; split at h <;> simp_all
theorem ptAV_eq {x : AV} {p : Nat × Nat} (h : ptAV x = some p) : x = .pt p.1 p.2 := by unfold ptAV at h; split at h <;> simp_all [Prod.ext_iff]
theorem islAV_eq {x : AV} {p : Bool × List AV × Nat} (h : islAV x = some p) : x = .isl p.1 p.2.1 p.2.2 := by unfold islAV at h; split at h <;> simp_all [Prod.ext_iff]
theorem slAV_eq {x : AV} {p : Nat × Nat × Nat × Nat} (h : slAV x = some p) : x = .sl p.1 p.2.1 p.2.2.1 p.2.2.2 := by unfold slAV at h; split at h <;> simp_all [Prod.ext_iff]
theorem aggAV_eq {x : AV} {p : List AV} (h : aggAV x = some p) : x = .agg p := by unfold aggAV at h; split at h <;> simp_all
theorem tupAV_eq {x : AV} {p : List AV} (h : tupAV x = some p) : x = .tup p := by unfold tupAV at h; split at h <;> simp_all
theorem clOb_eq {x : Option AObj} {p : List AV × TypeId} (h : clOb x = some p) : x = some (.cells p.1 p.2) := by unfold clOb at h; split at h <;> simp_all [Prod.ext_iff]
theorem intAV_eq {x : AV} {n : Int} (h : intAV x = some n) : ∃ k, x = .val (.int k n) := by unfold intAV at h; split at h <;> simp_all

section
variable {P : Program} {Q : Exit → Nat → St → Prop} {nid : Nat} {st : St} {dst : Option Nat} {ty : TypeId} {pos : String} {af : Array Edge} {g : Option (Nat × Bool)} {K : Nat → Eff → Prop}

theorem Q_pick (x y z : Operand) (h : bindK (boolAV (st.op x)) fun b => K 0 ⟨pickAV b (st.op y) (st.op z), []⟩) : AO P ⟨dst, .pick x y z, ty, pos, af, g⟩ nid st K := by
  obtain ⟨b, h1, h2⟩ := h; exact R_pick x y z ⟨b, boolAV_eq h1, h2⟩
theorem Q_not (t : TypeId) (x : Operand) (h : bindK (boolAV (st.op x)) fun b => K 0 ⟨.val (.bool !b), []⟩) : AO P ⟨dst, .unOp .not t x, ty, pos, af, g⟩ nid st K := by
  obtain ⟨b, h1, h2⟩ := h; exact R_not t x ⟨b, boolAV_eq h1, h2⟩
theorem Q_neg (t : TypeId) (x : Operand) (h : bindK (intkAV (st.op x)) fun p => K 0 ⟨.val (.int p.1 (p.1.wrap (0 - p.2))), []⟩) : AO P ⟨dst, .unOp .neg t x, ty, pos, af, g⟩ nid st K := by
  obtain ⟨b, h1, h2⟩ := h; exact R_neg t x ⟨_, _, intkAV_eq h1, h2⟩
theorem Q_convert {ks k : IntKind} (s t : TypeId) (x : Operand) [hs : TKind P s ks] [ht : TKind P t k] (h : bindK (intAV (st.op x)) fun n => K 0 ⟨.val (.int k (k.wrap n)), []⟩) : AO P ⟨dst, .convert s t x, ty, pos, af, g⟩ nid st K := by
  obtain ⟨n, h1, h2⟩ := h; obtain ⟨k', hk⟩ := intAV_eq h1; exact R_convert s t x ⟨k', n, hk, h2⟩
theorem Q_bin (bo : BinOp) (t : TypeId) (x y : Operand) (t' : TypeId) (h : bindK (binAV P bo t (st.op x) (st.op y)) fun r => K 0 ⟨r, []⟩) : AO P ⟨dst, .binOp bo t x y t', ty, pos, af, g⟩ nid st K := R_bin bo t x y t' h
theorem Q_eqnil (t : TypeId) (x y : Operand) (t' : TypeId) (h : bindK (eqAV P t (st.op x) (st.op y)) fun b => K 0 ⟨.val (.bool b), []⟩) : AO P ⟨dst, .binOp .eql t x y t', ty, pos, af, g⟩ nid st K := R_eqnil t x y t' h
theorem Q_neqnil (t : TypeId) (x y : Operand) (t' : TypeId) (h : bindK (eqAV P t (st.op x) (st.op y)) fun b => K 0 ⟨.val (.bool !b), []⟩) : AO P ⟨dst, .binOp .neq t x y t', ty, pos, af, g⟩ nid st K := R_neqnil t x y t' h
theorem Q_fieldAddr {fo n : Nat} {ft : TypeId} (s : TypeId) (x : Operand) (f : Nat) [hf : TField P s f fo ft] [hz : TSiz P ft (n + 1)] (h : bindK (addPt fo (st.op x)) fun y => K 0 ⟨y, []⟩) : AO P ⟨dst, .fieldAddr s x f, ty, pos, af, g⟩ nid st K := R_fieldAddr s x f h
theorem Q_indexAddr {e : TypeId} {es : Nat} (t : TypeId) (x ix : Operand) [he : TElem P t e] [hz : TSiz P e es] (h : bindK (intAV (st.op ix)) fun i => bindK (idxAV i.toNat es (st.op x)) fun p => (0 ≤ i ∧ i < p.2) ∧ K 0 ⟨p.1, []⟩) : AO P ⟨dst, .indexAddr t x ix, ty, pos, af, g⟩ nid st K := by
  obtain ⟨i, h1, p, h2, h3, h4⟩ := h; obtain ⟨k, hk⟩ := intAV_eq h1; exact R_indexAddr t x ix ⟨k, i, p.1, p.2, hk, h2, h3, h4⟩
theorem Q_indexArr {e : TypeId} {n es : Nat} (t : TypeId) (x ix : Operand) [he : TArr P t n e] [hz : TSiz P e es] (h : bindK (intAV (st.op ix)) fun i => bindK (addPt (i.toNat * es) (st.op x)) fun y => (0 ≤ i ∧ i < n) ∧ K 0 ⟨y, []⟩) : AO P ⟨dst, .indexAddr t x ix, ty, pos, af, g⟩ nid st K := by
  obtain ⟨i, h1, p, h2, h3, h4⟩ := h; obtain ⟨k, hk⟩ := intAV_eq h1; exact R_indexArr t x ix ⟨k, i, p, hk, h2, h3, h4⟩
theorem Q_load (t : TypeId) (x : Operand) [ha : TAgg P t false] (h : bindK (cellsAt st (st.op x)) fun p => bindK p.1[p.2]? fun y => K 0 ⟨y, []⟩) : AO P ⟨dst, .load t x, ty, pos, af, g⟩ nid st K := by
  obtain ⟨p, h1, y, h2, h3⟩ := h; exact R_load t x ⟨p.1, p.2, y, h1, h2, h3⟩
theorem Q_loadAgg {n : Nat} (t : TypeId) (x : Operand) [ha : TAgg P t true] [hz : TSiz P t n] (h : bindK (cellsAt st (st.op x)) fun p => p.2 + n ≤ p.1.length ∧ K 0 ⟨.agg ((p.1.drop p.2).take n), []⟩) : AO P ⟨dst, .load t x, ty, pos, af, g⟩ nid st K := by
  obtain ⟨p, h1, h2, h3⟩ := h; exact R_loadAgg t x ⟨p.1, p.2, h1, h2, h3⟩
theorem Q_extract (x : Operand) (i : Nat) (h : bindK (tupAV (st.op x)) fun cs => bindK cs[i]? fun y => K 0 ⟨y, []⟩) : AO P ⟨dst, .extract x i, ty, pos, af, g⟩ nid st K := by
  obtain ⟨cs, h1, y, h2, h3⟩ := h; exact R_extract x i ⟨cs, y, tupAV_eq h1, h2, h3⟩
theorem Q_lenStr (t : TypeId) (x : Operand) [ht : TStr P t] (h : bindK (strAV (st.op x)) fun s => K 0 ⟨.val (.int .i64 s.size), []⟩) : AO P ⟨dst, .call ⟨.builtin .len, #[x], #[t]⟩, ty, pos, af, g⟩ nid st K := by
  obtain ⟨s, h1, h2⟩ := h; exact R_lenStr t x ⟨s, strAV_eq h1, h2⟩
theorem Q_len {e : TypeId} (t : TypeId) (x : Operand) [ht : TElem P t e] (h : bindK (lenSl (st.op x)) fun n => K 0 ⟨.val (.int .i64 n), []⟩) : AO P ⟨dst, .call ⟨.builtin .len, #[x], #[t]⟩, ty, pos, af, g⟩ nid st K := R_len t x h
theorem Q_box (e : TypeId) (x : Operand) (h : bindK (st.op x).parts fun cs => cs.all AV.scalar = true ∧ K 1 ⟨.pt nid 0, [(nid, some (.cells cs e))]⟩) : AO P ⟨dst, .box e x, ty, pos, af, g⟩ nid st K := R_box e x h
theorem Q_store {n : Nat} (t : TypeId) (x y : Operand) [hz : TSiz P t n] (h : bindK (ptAV (st.op x)) fun p => bindK (clOb (st.ob p.1)) fun q => bindK (st.op y).parts fun vs => vs.all AV.scalar = true ∧ vs.length = n ∧ p.2 + n ≤ q.1.length ∧
      K 0 ⟨.any, [(p.1, some (.cells (putAV q.1 p.2 vs) q.2))]⟩) : AO P ⟨dst, .store t x y, ty, pos, af, g⟩ nid st K := by
  obtain ⟨p, h1, q, h2, vs, h3, h4, h5, h6, h7⟩ := h; exact R_store t x y ⟨_, _, _, _, vs, ptAV_eq h1, clOb_eq h2, h3, h4, h5, h6, h7⟩
theorem Q_build {zs : List Value} {pl : List (Nat × Nat)} (t : TypeId) (ps : Array (Nat × Operand)) [hz : TZero P t zs] [hp : TPlaces P t pl]
    (h : bindK (fillAV (pl[·]?) (zs.map ofV) (ps.toList.map fun p => (p.1, st.op p.2))) fun out => K 0 ⟨.agg out, []⟩) : AO P ⟨dst, .build t ps, ty, pos, af, g⟩ nid st K := R_build t ps h
theorem Q_buildSlice {e : TypeId} {es : Nat} {zs : List Value} (t : TypeId) (len : Nat) (ps : Array (Nat × Operand)) [he : TElem P t e] [hs : TSiz P e es] [hz : TZero P e zs]
    (h : bindK (fillAV (fun i => some (i * es, es)) (zrow zs len) (ps.toList.map fun p => (p.1, st.op p.2))) fun out => zs.length = es ∧ zs.all Value.oneCell' = true ∧ len * es ≤ 16777216 ∧ out.all AV.scalar = true ∧ out.length = len * es ∧
      K 1 ⟨.sl nid 0 len es, [(nid, some (.cells out e))]⟩) : AO P ⟨dst, .buildSlice t len ps, ty, pos, af, g⟩ nid st K := R_buildSlice t len ps h
theorem Q_makeSlice {e : TypeId} {es by' : Nat} {zs : List Value} (t : TypeId) (l c : Operand) [he : TElem P t e] [hs : TSiz P e es] [hb : TByt P e by'] [hz : TZero P e zs]
    (h : bindK (intAV (st.op l)) fun n => bindK (intAV (st.op c)) fun n' => n' = n ∧ zs.length = es ∧ zs.all Value.oneCell' = true ∧ 0 ≤ n ∧ n ≤ 9223372036854775807 ∧ (by' : Int) * n ≤ 281474976710656 ∧
      K 1 ⟨.sl nid 0 n.toNat es, [(nid, some (.cells (zrow zs n.toNat) e))]⟩) : AO P ⟨dst, .makeSlice t l c, ty, pos, af, g⟩ nid st K := by
  obtain ⟨n, h1, n', h2, rfl, h3⟩ := h
  obtain ⟨k1, hk1⟩ := intAV_eq h1; obtain ⟨k2, hk2⟩ := intAV_eq h2
  exact R_makeSlice t l c ⟨k1, k2, _, hk1, hk2, h3⟩
theorem Q_sliceStr (t : TypeId) (x : Operand) (lo hi : Option Operand) [ht : TStr P t] (h : bindK (strAV (st.op x)) fun s => bindK (boundAV st 0 lo) fun l => bindK (boundAV st s.size hi) fun u => (0 ≤ l ∧ l ≤ u ∧ u ≤ s.size) ∧ K 0 ⟨.val (.string (s.extract l.toNat u.toNat)), []⟩) :
    AO P ⟨dst, .slice t x lo hi none, ty, pos, af, g⟩ nid st K := by
  obtain ⟨s, h1, l, h2, u, h3, h4, h5⟩ := h; exact R_sliceStr t x lo hi ⟨s, l, u, strAV_eq h1, h2, h3, h4, h5⟩
theorem Q_sliceI {e : TypeId} {es : Nat} (t : TypeId) (x : Operand) (lo hi : Option Operand) [ht : TElem P t e] [hs : TSiz P e es] (h : bindK (islAV (st.op x)) fun p => bindK (boundAV st 0 lo) fun l => bindK (boundAV st p.2.2 hi) fun u => (0 ≤ l ∧ l ≤ u ∧ u ≤ p.2.2) ∧
      K 0 ⟨.isl p.1 ((p.2.1.drop (l.toNat * es)).take ((u.toNat - l.toNat) * es)) (u.toNat - l.toNat), []⟩) : AO P ⟨dst, .slice t x lo hi none, ty, pos, af, g⟩ nid st K := by
  obtain ⟨p, h1, l, h2, u, h3, h4, h5⟩ := h; exact R_sliceI t x lo hi ⟨_, _, _, l, u, islAV_eq h1, h2, h3, h4, h5⟩
theorem Q_slice {e : TypeId} {es : Nat} (t : TypeId) (x : Operand) (lo hi : Option Operand) [ht : TElem P t e] [hs : TSiz P e es] (h : bindK (slAV (st.op x)) fun p => bindK (boundAV st 0 lo) fun l => bindK (boundAV st p.2.2.1 hi) fun u => p.2.2.2 = es ∧ (0 ≤ l ∧ l ≤ u ∧ u ≤ p.2.2.1) ∧
      (l < p.2.2.1 ∨ l = 0) ∧ K 0 ⟨.sl p.1 (p.2.1 + l.toNat * es) (u.toNat - l.toNat) es, []⟩) : AO P ⟨dst, .slice t x lo hi none, ty, pos, af, g⟩ nid st K := by
  obtain ⟨p, h1, l, h2, u, h3, h4, h5, h6, h7⟩ := h; exact R_slice t x lo hi ⟨_, _, _, _, l, u, slAV_eq h1, h4, h2, h3, h5, h6, h7⟩
theorem Q_sliceEnd {e : TypeId} {es : Nat} (t : TypeId) (x : Operand) (lo hi : Option Operand) [ht : TElem P t e] [hs : TSiz P e es] (h : bindK (slAV (st.op x)) fun p => bindK (boundAV st 0 lo) fun l => bindK (boundAV st p.2.2.1 hi) fun u => p.2.2.2 = es ∧ (0 ≤ l ∧ l = u ∧ u ≤ p.2.2.1) ∧
      K 0 ⟨.isl false [] 0, []⟩) : AO P ⟨dst, .slice t x lo hi none, ty, pos, af, g⟩ nid st K := by
  obtain ⟨p, h1, l, h2, u, h3, h4, h5, h6⟩ := h; exact R_sliceEnd t x lo hi ⟨_, _, _, _, l, u, slAV_eq h1, h4, h2, h3, h5, h6⟩
theorem Q_appendNil {e : TypeId} {es by' : Nat} {zs : List Value} (t : TypeId) (x y : Operand) [he : TElem P t e] [hs : TSiz P e es] [hb : TByt P e by'] [hz : TZero P e zs]
    (h : bindK (islAV (st.op x)) fun p => bindK (srcOf st (st.op y)) fun q => p = (true, [], 0) ∧ zs.length = es ∧ zs.all Value.oneCell' = true ∧ q.1.length = q.2 * es ∧ 0 < q.2 ∧ q.2 * by' ≤ 140737488355328 ∧ q.2 ≤ 9223372036854775807 ∧ K 1 ⟨.sl nid 0 q.2 es, [(nid, some (.cells q.1 e))]⟩) :
    AO P ⟨dst, .call ⟨.builtin .append, #[x, y], #[t, t]⟩, ty, pos, af, g⟩ nid st K := by
  obtain ⟨p, h1, q, h2, rfl, h3⟩ := h; exact R_appendNil t x y ⟨_, _, islAV_eq h1, h2, h3⟩
theorem Q_append {e : TypeId} {es by' : Nat} {zs : List Value} (t : TypeId) (x y : Operand) [he : TElem P t e] [hs : TSiz P e es] [hb : TByt P e by'] [hz : TZero P e zs]
    (h : bindK (slAV (st.op x)) fun p => bindK (clOb (st.ob p.1)) fun o => bindK (srcOf st (st.op y)) fun q => p.2.1 = 0 ∧ p.2.2.2 = es ∧ o.2 = e ∧ zs.length = es ∧ zs.all Value.oneCell' = true ∧ o.1.length = p.2.2.1 * es ∧ q.1.length = q.2 * es ∧ (p.2.2.1 + q.2) * by' ≤ 140737488355328 ∧ p.2.2.1 + q.2 ≤ 9223372036854775807 ∧
      K 1 ⟨.sl nid 0 (p.2.2.1 + q.2) es, [(nid, some (.cells (o.1 ++ q.1) e)), (p.1, none)]⟩) :
    AO P ⟨dst, .call ⟨.builtin .append, #[x, y], #[t, t]⟩, ty, pos, af, g⟩ nid st K := by
  obtain ⟨⟨id, off, n, es'⟩, h1, ⟨cs, e'⟩, h2, q, h3, h4, h5, h6, h7⟩ := h
  dsimp only at h4 h5 h6 h7
  subst h4; subst h5; subst h6
  exact R_append t x y ⟨_, _, _, _, _, slAV_eq h1, clOb_eq h2, h3, h7⟩
end

theorem putAV_one {cs : List AV} {off : Nat} {v : AV} : putAV cs off [v] = cs.set off v := rfl
theorem spl_full {α : Type} {cs vs : List α} (h : vs.length = cs.length) : spl cs 0 vs = vs := by unfold spl; simp [h]
theorem zrow_one {v : Value} {n : Nat} : zrow [v] n = List.replicate n (ofV v) := by
  unfold zrow
  induction n with
  | zero => rfl
  | succ n ih => simp only [List.map_cons, List.map_nil] at ih; simp [List.replicate_succ, ih]
theorem take_self {α : Type} {l : List α} {n : Nat} (h : l.length ≤ n) : l.take n = l := List.take_of_length_le h

def sel {α : Type} (z : Bool) (a b : α) : α := if z then a else b
theorem sel_dt {α : Type} {a b : α} {p : Prop} [Decidable p] (h : p) : sel (decide p) a b = a := by simp [sel, h]
theorem sel_df {α : Type} {a b : α} {p : Prop} [Decidable p] (h : ¬ p) : sel (decide p) a b = b := by simp [sel, h]
theorem sel_t {α : Type} {a b : α} {z : Bool} (h : z = true) : sel z a b = a := by simp [sel, h]
theorem sel_f {α : Type} {a b : α} {z : Bool} (h : z = false) : sel z a b = b := by simp [sel, h]
theorem sel_true {α : Type} {a b : α} : sel true a b = a := rfl
theorem sel_false {α : Type} {a b : α} : sel false a b = b := rfl

section
variable {id off n es k i t : Nat} {cs : List AV} {z b : Bool} {s : ByteArray} {m : Int} {kd : IntKind} {v : Value} {x y : AV} {st : St} {o : AObj} {e : TypeId} {env : List (Nat × AV)} {objs : List (Nat × Option AObj)} {β : Type} {u : β} {l : List (Nat × β)}
theorem e_look : look ((i, u) :: l) t = if t = i then some u else look l t := rfl
theorem e_look0 : look ([] : List (Nat × β)) t = none := rfl
theorem e_hit : look ((i, u) :: l) i = some u := by simp [look]
theorem e_ev : St.ev ⟨n, k, env, objs⟩ t = (look env t).getD .any := rfl
theorem e_ob : St.ob ⟨n, k, env, objs⟩ t = (look objs t).join := rfl
theorem e_opt : St.op st (.tmp t) = st.ev t := rfl
theorem e_opc : St.op st (.const v) = ofV v := rfl
theorem e_pt : ptAV (.pt id off) = some (id, off) := rfl
theorem e_bool : boolAV (.val (.bool b)) = some b := rfl
theorem e_intk : intkAV (.val (.int kd m)) = some (kd, m) := rfl
theorem e_int : intAV (.val (.int kd m)) = some m := rfl
theorem e_str : strAV (.val (.string s)) = some s := rfl
theorem e_isl : islAV (.isl z cs n) = some (z, cs, n) := rfl
theorem e_sl : slAV (.sl id off n es) = some (id, off, n, es) := rfl
theorem e_agg : aggAV (.agg cs) = some cs := rfl
theorem e_tup : tupAV (.tup cs) = some cs := rfl
theorem e_cl : clOb (some (.cells cs e)) = some (cs, e) := rfl
theorem e_addPt : addPt k (.pt id off) = some (.pt id (off + k)) := rfl
theorem e_addPt' : addPt k (.ipt cs off) = some (.ipt cs (off + k)) := rfl
theorem e_idx : idxAV i es (.sl id off n k) = some (.pt id (off + i * es), n) := rfl
theorem e_idx' : idxAV i es (.isl z cs n) = some (.ipt cs (i * es), n) := rfl
theorem e_cellsAt : cellsAt ⟨n, k, env, objs⟩ (.pt id off) = cellsOb off (look objs id).join := rfl
theorem e_cellsAt' : cellsAt st (.ipt cs off) = some (cs, off) := rfl
theorem e_cellsOb : cellsOb off (some (.cells cs e)) = some (cs, off) := rfl
theorem e_lenSl : lenSl (.sl id off n es) = some n := rfl
theorem e_lenSl' : lenSl (.isl z cs n) = some n := rfl
theorem e_srcOf : srcOf ⟨n, k, env, objs⟩ (.sl id off i es) = srcOb off i es (look objs id).join := rfl
theorem e_srcOf' : srcOf st (.isl z cs n) = some (cs, n) := rfl
theorem e_srcOb : srcOb off i es (some (.cells cs e)) = some ((cs.drop off).take (i * es), i) := rfl
theorem e_srcObF : srcOb off i es (some (.full cs e)) = some ((cs.drop off).take (i * es), i) := rfl
theorem e_bound0 : boundAV st k none = some (k : Int) := rfl
theorem e_bound1 {x : Operand} : boundAV st k (some x) = intAV (st.op x) := rfl
theorem e_parts1 : AV.parts (.agg cs) = some cs := rfl
theorem e_parts2 : AV.parts (.isl z cs n) = some [.isl z cs n] := rfl
theorem e_parts3 : AV.parts (.ipt cs n) = some [.ipt cs n] := rfl
theorem e_parts4 : AV.parts (.sl id off n es) = some [.sl id off n es] := rfl
theorem e_parts5 : AV.parts (.pt id off) = some [.pt id off] := rfl
theorem e_parts6 : AV.parts (.mp id) = some [.mp id] := rfl
theorem e_partsY : AV.parts (.yl id) = some [.yl id] := rfl
theorem e_scY : AV.scalar (.yl id) = true := rfl
theorem e_parts7 {f : Nat} : AV.parts (.fn f cs) = some [.fn f cs] := rfl
theorem e_parts8 : AV.parts (.val (.int kd m)) = some [.val (.int kd m)] := rfl
theorem e_parts9 : AV.parts (.val (.bool b)) = some [.val (.bool b)] := rfl
theorem e_parts10 : AV.parts (.val (.string s)) = some [.val (.string s)] := rfl
theorem e_parts11 {ad : Option Addr} : AV.parts (.val (.pointer ad)) = some [.val (.pointer ad)] := rfl
theorem e_parts12 {ad : Option Nat} : AV.parts (.val (.map ad)) = some [.val (.map ad)] := rfl
theorem e_sc1 : AV.scalar (.isl z cs n) = true := rfl
theorem e_sc2 : AV.scalar (.ipt cs n) = true := rfl
theorem e_sc3 : AV.scalar (.sl id off n es) = true := rfl
theorem e_sc4 : AV.scalar (.pt id off) = true := rfl
theorem e_sc5 : AV.scalar (.mp id) = true := rfl
theorem e_sc6 {f : Nat} : AV.scalar (.fn f cs) = true := rfl
theorem e_sc7 : AV.scalar (.val v) = v.oneCell' := rfl
theorem e_nn1 : AV.notNil (.pt id off) = true := rfl
theorem e_nn2 : AV.notNil (.ipt cs off) = true := rfl
theorem e_nn3 {f : Nat} : AV.notNil (.fn f cs) = true := rfl
theorem e_nn4 : AV.notNil (.mp id) = true := rfl
theorem e_pick1 {p q : Bool} : pickAV z (.val (.bool p)) (.val (.bool q)) = .val (.bool (sel z p q)) := rfl
theorem e_pick2 {p q : Int} {kd' : IntKind} : pickAV z (.val (.int kd p)) (.val (.int kd' q)) = sel z (.val (.int kd p)) (.val (.int kd' q)) := rfl
theorem e_pick3 : pickAV z .any x = sel z .any x := by cases x <;> rfl
theorem e_pick5 : pickAV z noV x = sel z noV x := by cases x <;> rfl
theorem e_pick6 : pickAV z x noV = sel z x noV := by cases x <;> first | rfl | (rename_i v; cases v <;> rfl)
theorem e_pick4 : pickAV z x .any = sel z x .any := by cases x <;> first | rfl | (rename_i v; cases v <;> rfl)
end

def cS (l : List ByteArray) : List AV := l.map fun s => .val (.string s)
def cB (l : List Bool) : List AV := l.map fun b => .val (.bool b)
def cI (k : IntKind) (l : List Int) : List AV := l.map fun n => .val (.int k n)

section
variable {k : IntKind}
theorem cS_len (l : List ByteArray) : (cS l).length = l.length := by simp [cS]
theorem cB_len (l : List Bool) : (cB l).length = l.length := by simp [cB]
theorem cI_len (l : List Int) : (cI k l).length = l.length := by simp [cI]
theorem cS_set (l : List ByteArray) (i : Nat) (s : ByteArray) : (cS l).set i (.val (.string s)) = cS (l.set i s) := by simp [cS, List.map_set]
theorem cB_set (l : List Bool) (i : Nat) (s : Bool) : (cB l).set i (.val (.bool s)) = cB (l.set i s) := by simp [cB, List.map_set]
theorem cI_set (l : List Int) (i : Nat) (s : Int) : (cI k l).set i (.val (.int k s)) = cI k (l.set i s) := by simp [cI, List.map_set]
theorem cS_get (l : List ByteArray) (i : Nat) : (cS l)[i]? = l[i]?.map fun s => .val (.string s) := by simp [cS]
theorem cB_get (l : List Bool) (i : Nat) : (cB l)[i]? = l[i]?.map fun s => .val (.bool s) := by simp [cB]
theorem cI_get (l : List Int) (i : Nat) : (cI k l)[i]? = l[i]?.map fun s => .val (.int k s) := by simp [cI]
theorem cS_app (l m : List ByteArray) : cS l ++ cS m = cS (l ++ m) := by simp [cS]
theorem cB_app (l m : List Bool) : cB l ++ cB m = cB (l ++ m) := by simp [cB]
theorem cI_app (l m : List Int) : cI k l ++ cI k m = cI k (l ++ m) := by simp [cI]
theorem cS_snoc (l : List ByteArray) (s : ByteArray) : cS l ++ [.val (.string s)] = cS (l ++ [s]) := by simp [cS]
theorem cB_snoc (l : List Bool) (s : Bool) : cB l ++ [.val (.bool s)] = cB (l ++ [s]) := by simp [cB]
theorem cI_snoc (l : List Int) (s : Int) : cI k l ++ [.val (.int k s)] = cI k (l ++ [s]) := by simp [cI]
theorem cS_take (l : List ByteArray) (n : Nat) : (cS l).take n = cS (l.take n) := by simp [cS, List.map_take]
theorem cB_take (l : List Bool) (n : Nat) : (cB l).take n = cB (l.take n) := by simp [cB, List.map_take]
theorem cI_take (l : List Int) (n : Nat) : (cI k l).take n = cI k (l.take n) := by simp [cI, List.map_take]
theorem cS_drop (l : List ByteArray) (n : Nat) : (cS l).drop n = cS (l.drop n) := by simp [cS, List.map_drop]
theorem cB_drop (l : List Bool) (n : Nat) : (cB l).drop n = cB (l.drop n) := by simp [cB, List.map_drop]
theorem cI_drop (l : List Int) (n : Nat) : (cI k l).drop n = cI k (l.drop n) := by simp [cI, List.map_drop]
theorem cS_zrow (s : ByteArray) (n : Nat) : zrow [.string s] n = cS (List.replicate n s) := by simp [zrow_one, cS, ofV]
theorem cB_zrow (s : Bool) (n : Nat) : zrow [.bool s] n = cB (List.replicate n s) := by simp [zrow_one, cB, ofV]
theorem cI_zrow (s : Int) (n : Nat) : zrow [.int k s] n = cI k (List.replicate n s) := by simp [zrow_one, cI, ofV]
theorem cS_ren (τ : Nat → Nat) (l : List ByteArray) : (cS l).map (ren τ) = cS l := by simp [cS, ren]
theorem cB_ren (τ : Nat → Nat) (l : List Bool) : (cB l).map (ren τ) = cB l := by simp [cB, ren]
theorem cI_ren (τ : Nat → Nat) (l : List Int) : (cI k l).map (ren τ) = cI k l := by simp [cI, ren]
theorem cS_frz (id : Nat) (cs : List AV) (l : List ByteArray) : (cS l).map (frzV id cs) = cS l := by simp [cS, frzV]
theorem cB_frz (id : Nat) (cs : List AV) (l : List Bool) : (cB l).map (frzV id cs) = cB l := by simp [cB, frzV]
theorem cI_frz (id : Nat) (cs : List AV) (l : List Int) : (cI k l).map (frzV id cs) = cI k l := by simp [cI, frzV]
theorem cS_bnd (n : Nat) (l : List ByteArray) : (∀ x ∈ cS l, bnd n x) = True := by simp [cS, bnd]
theorem cB_bnd (n : Nat) (l : List Bool) : (∀ x ∈ cB l, bnd n x) = True := by simp only [cB, List.forall_mem_map]; simp [bnd]
theorem cI_bnd (n : Nat) (l : List Int) : (∀ x ∈ cI k l, bnd n x) = True := by simp [cI, bnd]
theorem cS_noImm (l : List ByteArray) : (∀ x ∈ cS l, noImm x) = True := by simp [cS, noImm]
theorem cB_noImm (l : List Bool) : (∀ x ∈ cB l, noImm x) = True := by simp only [cB, List.forall_mem_map]; simp [noImm]
theorem cI_noImm (l : List Int) : (∀ x ∈ cI k l, noImm x) = True := by simp [cI, noImm]
theorem cS_all (l : List ByteArray) : (cS l).all AV.scalar = true := by simp [cS, AV.scalar, Value.oneCell']
theorem cB_all (l : List Bool) : (cB l).all AV.scalar = true := by simp [cB, AV.scalar, Value.oneCell']
theorem cI_all (l : List Int) : (cI k l).all AV.scalar = true := by simp [cI, AV.scalar, Value.oneCell']
theorem cS_spl (l m : List ByteArray) (h : m.length = l.length) : spl (cS l) 0 (cS m) = cS m := spl_full (by simpa [cS] using h)
theorem cB_spl (l m : List Bool) (h : m.length = l.length) : spl (cB l) 0 (cB m) = cB m := spl_full (by simpa [cB] using h)
theorem cI_spl (l m : List Int) (h : m.length = l.length) : spl (cI k l) 0 (cI k m) = cI k m := spl_full (by simpa [cI] using h)
theorem cS_one {s : ByteArray} : cS [s] = [.val (.string s)] := rfl
theorem cB_one {s : Bool} : cB [s] = [.val (.bool s)] := rfl
theorem cI_one {s : Int} : cI k [s] = [.val (.int k s)] := rfl
theorem cS_nil : cS [] = [] := rfl
theorem cB_nil : cB [] = [] := rfl
theorem cI_nil : cI k [] = [] := rfl
end

theorem putAV_more {cs vs : List AV} {off : Nat} {a b : AV} : putAV cs off (a :: b :: vs) = spl cs off (a :: b :: vs) := rfl
theorem spl_lit {α : Type} {cs vs : List α} {off : Nat} {a c : α} : spl (c :: cs) off (a :: vs) = (c :: cs).take off ++ (a :: vs ++ (c :: cs).drop (off + (a :: vs).length)) := rfl
def cellResO (n off : Nat) : Option AObj → Option AV
  | some (.cells cs _) => if off + n ≤ cs.length then some (.agg ((cs.drop off).take n)) else none
  | _ => none
def cellResS (off : Nat) : Option AObj → Option AV
  | some (.cells cs _) => cs[off]?
  | _ => none
def cellRes (n : Nat) (st : St) : AV → Option AV
  | .pt id off => cellResO n off (st.ob id)
  | _ => none
def cellRes1 (st : St) : AV → Option AV
  | .pt id off => cellResS off (st.ob id)
  | _ => none
theorem resAV_tmp {P : Program} {st : St} {t : Nat} : resAV P st (.tmp t) = some (st.ev t) := rfl
theorem resAV_cellA {P : Program} {st : St} {x t n : Nat} [ha : TAgg P t true] [hs : TSiz P t n] : resAV P st (.cell x t) = cellRes n st (st.ev x) := by
  simp only [resAV, ha.out, hs.out]
  cases st.ev x with
  | pt id off =>
    cases ho : st.ob id with
    | none => simp [cellRes, cellResO, ho]
    | some o => cases o <;> simp [cellRes, cellResO, ho]
  | _ => rfl
theorem resAV_cellS {P : Program} {st : St} {x t : Nat} [ha : TAgg P t false] : resAV P st (.cell x t) = cellRes1 st (st.ev x) := by
  simp only [resAV, ha.out]
  cases st.ev x with
  | pt id off =>
    cases ho : st.ob id with
    | none => simp [cellRes1, cellResS, ho]
    | some o => cases o <;> simp [cellRes1, cellResS, ho]
  | _ => rfl
theorem e_cellRes {n k id off : Nat} {m : Nat} {env : List (Nat × AV)} {objs : List (Nat × Option AObj)} : cellRes n ⟨k, m, env, objs⟩ (.pt id off) = cellResO n off (look objs id).join := rfl
theorem e_cellRes1 {k id off : Nat} {m : Nat} {env : List (Nat × AV)} {objs : List (Nat × Option AObj)} : cellRes1 ⟨k, m, env, objs⟩ (.pt id off) = cellResS off (look objs id).join := rfl
theorem e_cellResO {n off : Nat} {cs : List AV} {e : TypeId} : cellResO n off (some (.cells cs e)) = if off + n ≤ cs.length then some (.agg ((cs.drop off).take n)) else none := rfl
theorem e_cellResS {off : Nat} {cs : List AV} {e : TypeId} : cellResS off (some (.cells cs e)) = cs[off]? := rfl

def nilOr (n id es : Nat) : AV := if n = 0 then .isl true [] 0 else .sl id 0 n es
def nilOb (n id : Nat) (cs : List AV) (e : TypeId) : List (Nat × Option AObj) := if n = 0 then [] else [(id, some (.cells cs e))]
def islN (n : Nat) (cs : List AV) : AV := .isl (n == 0) cs n
theorem nilOr_z {n id es : Nat} (h : n = 0) : nilOr n id es = .isl true [] 0 := by unfold nilOr; rw [if_pos h]
theorem nilOr_s {n id es : Nat} (h : 0 < n) : nilOr n id es = .sl id 0 n es := by unfold nilOr; rw [if_neg (by omega)]
theorem nilOb_z {n id : Nat} {cs : List AV} {e : TypeId} (h : n = 0) : nilOb n id cs e = [] := by unfold nilOb; rw [if_pos h]
theorem nilOb_s {n id : Nat} {cs : List AV} {e : TypeId} (h : 0 < n) : nilOb n id cs e = [(id, some (.cells cs e))] := by unfold nilOb; rw [if_neg (by omega)]
theorem islN_z {cs : List AV} {n : Nat} (h : n = 0) (hc : cs.length = 0) : islN n cs = .isl true [] 0 := by
  unfold islN; subst h; rw [List.length_eq_zero_iff.1 hc]; rfl
theorem islN_s {cs : List AV} {n : Nat} (h : 0 < n) : islN n cs = .isl false cs n := by
  unfold islN; congr 1; simp; omega

def Nxt {ι : Type} (I : ι → St) (μ : ι → Nat) (m : Nat) (i : ι) (s : St) : Prop := ∃ (σ' : List Nat) (j : ι), σ'.length = m ∧ Sub σ' (I j) s ∧ μ j < μ i
theorem Nxt.mk {ι : Type} {I : ι → St} {μ : ι → Nat} {m : Nat} {i : ι} {s : St} (σ : List Nat) (j : ι) (h1 : σ.length = m) (h2 : Sub σ (I j) s) (h3 : μ j < μ i) : Nxt I μ m i s := ⟨σ, j, h1, h2, h3⟩
theorem AC_loop' {P : Program} {Q : Exit → Nat → St → Prop} {nid : Nat} {st : St} {code : Code} {ι : Type} (σ : List Nat) (m : Nat) (I : ι → St) (μ : ι → Nat) (i0 : ι) (hm : σ.length = m) (h0 : Sub σ (I i0) st)
    (round : ∀ i, AC P code (Thn (fun _ s => Nxt I μ m i s) Q) m (I i)) : AC P (.loop code) Q nid st := AC_loop σ m I μ i0 hm h0 round

theorem w_i64 {n : Int} (h : -9223372036854775808 ≤ n ∧ n ≤ 9223372036854775807) : IntKind.i64.wrap n = n := by unfold IntKind.wrap; simp only [IntKind.bits, IntKind.signed]; simp; omega
theorem w_i32 {n : Int} (h : -2147483648 ≤ n ∧ n ≤ 2147483647) : IntKind.i32.wrap n = n := by unfold IntKind.wrap; simp only [IntKind.bits, IntKind.signed]; simp; omega
theorem w_u8 {n : Int} (h : 0 ≤ n ∧ n ≤ 255) : IntKind.u8.wrap n = n := by unfold IntKind.wrap; simp only [IntKind.bits, IntKind.signed]; simp; omega
theorem w_u16 {n : Int} (h : 0 ≤ n ∧ n ≤ 65535) : IntKind.u16.wrap n = n := by unfold IntKind.wrap; simp only [IntKind.bits, IntKind.signed]; simp; omega
theorem w_u32 {n : Int} (h : 0 ≤ n ∧ n ≤ 4294967295) : IntKind.u32.wrap n = n := by unfold IntKind.wrap; simp only [IntKind.bits, IntKind.signed]; simp; omega
theorem w_u64 {n : Int} (h : 0 ≤ n ∧ n ≤ 18446744073709551615) : IntKind.u64.wrap n = n := by unfold IntKind.wrap; simp only [IntKind.bits, IntKind.signed]; simp; omega

theorem AC_loop_id {P : Program} {Q : Exit → Nat → St → Prop} {nid : Nat} {st : St} {code : Code} (h : AC P (.loop code) Q nid st) : AC P (.loop code) Q nid st := h
theorem Nxt_id {ι : Type} {I : ι → St} {μ : ι → Nat} {m : Nat} {i : ι} {s : St} (h : Nxt I μ m i s) : Nxt I μ m i s := h

theorem tmod_nonneg {a b : Int} (h : 0 ≤ a) : a.tmod b = a % b := Int.tmod_eq_emod_of_nonneg h
theorem tdiv_nonneg {a b : Int} (h : 0 ≤ a) : a.tdiv b = a / b := Int.tdiv_eq_ediv_of_nonneg h

section
variable {τ : Nat → Nat} {σ : List Nat} {st : St} {id i off len es n k f : Nat} {z : Bool} {cs l : List AV} {v : Value} {e : TypeId}
theorem ren_no : ren τ noV = noV := by simp [noV, ren]
theorem ren_val : ren τ (.val v) = .val v := by simp [ren]
theorem ren_isl : ren τ (.isl z cs n) = .isl z cs n := by simp [ren]
theorem ren_ipt : ren τ (.ipt cs k) = .ipt cs k := by simp [ren]
theorem ren_sl : ren τ (.sl id off len es) = .sl (τ id) off len es := by simp [ren]
theorem ren_pt : ren τ (.pt id off) = .pt (τ id) off := by simp [ren]
theorem ren_mp : ren τ (.mp id) = .mp (τ id) := by simp [ren]
theorem ren_yl : ren τ (.yl id) = .yl (τ id) := by simp [ren]
theorem renO_tr {H : Proc} {j : Nat} : renO τ (.tr H j) = .tr H j := rfl
theorem ren_agg : ren τ (.agg cs) = .agg (cs.map (ren τ)) := by simp [ren]
theorem ren_tup : ren τ (.tup cs) = .tup (cs.map (ren τ)) := by simp [ren]
theorem ren_fn : ren τ (.fn f cs) = .fn f (cs.map (ren τ)) := by simp [ren]
theorem ren_any : ren τ .any = .any := by simp [ren]
theorem renO_full : renO τ (.full cs e) = .full (cs.map (ren τ)) e := rfl
theorem renO_cells : renO τ (.cells cs e) = .cells (cs.map (ren τ)) e := rfl
theorem frz_sl : frzV id cs (.sl i off len es) = if i = id then .isl false ((cs.drop off).take (len * es)) len else .sl i off len es := by simp [frzV]
theorem frz_pt : frzV id cs (.pt i off) = if i = id then .ipt cs off else .pt i off := by simp [frzV]
theorem frz_agg : frzV id cs (.agg l) = .agg (l.map (frzV id cs)) := by simp [frzV]
theorem frz_tup : frzV id cs (.tup l) = .tup (l.map (frzV id cs)) := by simp [frzV]
theorem frz_fn : frzV id cs (.fn f l) = .fn f (l.map (frzV id cs)) := by simp [frzV]
theorem frz_no : frzV id cs noV = noV := by simp [noV, frzV]
theorem frz_val : frzV id cs (.val v) = .val v := by simp [frzV]
theorem frz_isl : frzV id cs (.isl z l n) = .isl z l n := by simp [frzV]
theorem frz_ipt : frzV id cs (.ipt l k) = .ipt l k := by simp [frzV]
theorem frz_mp : frzV id cs (.mp i) = .mp i := by simp [frzV]
theorem frz_yl : frzV id cs (.yl i) = .yl i := by simp [frzV]
theorem frzO_tr {H : Proc} {j : Nat} : frzO id cs (.tr H j) = .tr H j := rfl
theorem frz_any : frzV id cs .any = .any := by simp [frzV]
theorem frzO_cells : frzO id cs (.cells l e) = .cells (l.map (frzV id cs)) e := rfl
def dfzS (st : St) (σ : List Nat) (k off len es : Nat) : Option AObj → AV
  | some (.cells cs _) => .isl false (((cs.drop off).take (len * es)).map (dfz st σ k)) len
  | _ => .any
def dfzP (st : St) (σ : List Nat) (k off : Nat) : Option AObj → AV
  | some (.cells cs _) => .ipt (cs.map (dfz st σ k)) off
  | _ => .any
theorem e_dfzS : dfzS st σ k off len es (some (.cells cs e)) = .isl false (((cs.drop off).take (len * es)).map (dfz st σ k)) len := rfl
theorem e_dfzP : dfzP st σ k off (some (.cells cs e)) = .ipt (cs.map (dfz st σ k)) off := rfl
theorem dfz_sl (h : 0 < k) : dfz st σ k (.sl id off len es) = if hasN σ id = true then .any else dfzS st σ (k - 1) off len es (look st.objs id).join := by
  obtain ⟨k, rfl⟩ : ∃ j, k = j + 1 := ⟨k - 1, by omega⟩
  rw [dfz]; split
  · rfl
  · cases (look st.objs id).join with
    | none => rfl
    | some o => cases o <;> rfl
theorem dfz_pt (h : 0 < k) : dfz st σ k (.pt id off) = if hasN σ id = true then .any else dfzP st σ (k - 1) off (look st.objs id).join := by
  obtain ⟨k, rfl⟩ : ∃ j, k = j + 1 := ⟨k - 1, by omega⟩
  rw [dfz]; split
  · rfl
  · cases (look st.objs id).join with
    | none => rfl
    | some o => cases o <;> rfl
theorem dfz_agg (h : 0 < k) : dfz st σ k (.agg l) = .agg (l.map (dfz st σ (k - 1))) := by obtain ⟨k, rfl⟩ : ∃ j, k = j + 1 := ⟨k - 1, by omega⟩; rw [dfz]; rfl
theorem dfz_tup (h : 0 < k) : dfz st σ k (.tup l) = .tup (l.map (dfz st σ (k - 1))) := by obtain ⟨k, rfl⟩ : ∃ j, k = j + 1 := ⟨k - 1, by omega⟩; rw [dfz]; rfl
theorem dfz_fn (h : 0 < k) : dfz st σ k (.fn f l) = .fn f (l.map (dfz st σ (k - 1))) := by obtain ⟨k, rfl⟩ : ∃ j, k = j + 1 := ⟨k - 1, by omega⟩; rw [dfz]; rfl
theorem dfz_val (h : 0 < k) : dfz st σ k (.val v) = .val v := by obtain ⟨k, rfl⟩ : ∃ j, k = j + 1 := ⟨k - 1, by omega⟩; rw [dfz]
theorem dfz_isl (h : 0 < k) : dfz st σ k (.isl z l n) = .isl z l n := by obtain ⟨k, rfl⟩ : ∃ j, k = j + 1 := ⟨k - 1, by omega⟩; rw [dfz]
theorem dfz_ipt (h : 0 < k) : dfz st σ k (.ipt l n) = .ipt l n := by obtain ⟨k, rfl⟩ : ∃ j, k = j + 1 := ⟨k - 1, by omega⟩; rw [dfz]
theorem dfz_mp : dfz st σ k (.mp id) = .any := by cases k <;> rw [dfz]
theorem dfz_yl : dfz st σ k (.yl id) = .any := by cases k <;> rw [dfz]
theorem dfz_any : dfz st σ k .any = .any := by cases k <;> rw [dfz]
variable {fz : Bool}
theorem toA_sl (h : 0 < k) : toA st σ fz k (.sl id off len es) = if hasN σ id = true then .sl (npos σ id) off len es else if fz = true then dfz st σ (k - 1) (.sl id off len es) else .any := by obtain ⟨k, rfl⟩ : ∃ j, k = j + 1 := ⟨k - 1, by omega⟩; rw [toA]; rfl
theorem toA_pt (h : 0 < k) : toA st σ fz k (.pt id off) = if hasN σ id = true then .pt (npos σ id) off else if fz = true then dfz st σ (k - 1) (.pt id off) else .any := by obtain ⟨k, rfl⟩ : ∃ j, k = j + 1 := ⟨k - 1, by omega⟩; rw [toA]; rfl
theorem toA_mp (h : 0 < k) : toA st σ fz k (.mp id) = if hasN σ id = true then .mp (npos σ id) else .any := by obtain ⟨k, rfl⟩ : ∃ j, k = j + 1 := ⟨k - 1, by omega⟩; rw [toA]
theorem toA_yl (h : 0 < k) : toA st σ fz k (.yl id) = if hasN σ id = true then .yl (npos σ id) else .any := by obtain ⟨k, rfl⟩ : ∃ j, k = j + 1 := ⟨k - 1, by omega⟩; rw [toA]
theorem toA_agg (h : 0 < k) : toA st σ fz k (.agg l) = .agg (l.map (toA st σ fz (k - 1))) := by obtain ⟨k, rfl⟩ : ∃ j, k = j + 1 := ⟨k - 1, by omega⟩; rw [toA]; rfl
theorem toA_tup (h : 0 < k) : toA st σ fz k (.tup l) = .tup (l.map (toA st σ fz (k - 1))) := by obtain ⟨k, rfl⟩ : ∃ j, k = j + 1 := ⟨k - 1, by omega⟩; rw [toA]; rfl
theorem toA_fn (h : 0 < k) : toA st σ fz k (.fn f l) = .fn f (l.map (toA st σ fz (k - 1))) := by obtain ⟨k, rfl⟩ : ∃ j, k = j + 1 := ⟨k - 1, by omega⟩; rw [toA]; rfl
theorem toA_val (h : 0 < k) : toA st σ fz k (.val v) = .val v := by obtain ⟨k, rfl⟩ : ∃ j, k = j + 1 := ⟨k - 1, by omega⟩; rw [toA]
theorem toA_isl (h : 0 < k) : toA st σ fz k (.isl z l n) = .isl z l n := by obtain ⟨k, rfl⟩ : ∃ j, k = j + 1 := ⟨k - 1, by omega⟩; rw [toA]
theorem toA_ipt (h : 0 < k) : toA st σ fz k (.ipt l n) = .ipt l n := by obtain ⟨k, rfl⟩ : ∃ j, k = j + 1 := ⟨k - 1, by omega⟩; rw [toA]
theorem toA_any : toA st σ fz k .any = .any := by cases k <;> rw [toA]
theorem toO_cells : toO st σ fz (.cells cs e) = .cells (cs.map (toA st σ fz 8)) e := rfl
theorem toO_map {ag : Bool} {lm : List (List Int × AV)} : toO st σ fz (.map ag n lm) = .map ag n (lm.map fun x => (x.1, toA st σ fz 8 x.2)) := rfl
theorem toO_full : toO st σ fz (.full cs e) = .full (cs.map (toA st σ fz 8)) e := rfl
theorem toO_tr {H : Proc} {j : Nat} : toO st σ fz (.tr H j) = .tr H j := rfl
theorem trs_nil : trs [] = [] := rfl
theorem trs_cells {cs : List AV} {e : TypeId} {l : List AObj} : trs (.cells cs e :: l) = trs l := rfl
theorem trs_map {ag : Bool} {n : Nat} {m : List (List Int × AV)} {l : List AObj} : trs (.map ag n m :: l) = trs l := rfl
theorem trs_full {cs : List AV} {e : TypeId} {l : List AObj} : trs (.full cs e :: l) = trs l := rfl
theorem trs_tr {H : Proc} {j : Nat} {l : List AObj} : trs (.tr H j :: l) = H :: trs l := rfl
theorem e_obOf {o : AObj} : obOf st σ fz (some o) = toO st σ fz o := rfl
theorem toObj_eq : toObj st σ fz id = obOf st σ fz (look st.objs id).join := rfl
end

section
variable {st : St} {σ : List Nat} {fz : Bool} {n : Nat} {kd : IntKind}
theorem cS_dfz {l : List ByteArray} (h : 0 < n) : (cS l).map (dfz st σ n) = cS l := by
  unfold cS; rw [List.map_map]; exact List.map_congr_left (fun x _ => dfz_val h)
theorem cB_dfz {l : List Bool} (h : 0 < n) : (cB l).map (dfz st σ n) = cB l := by
  unfold cB; rw [List.map_map]; exact List.map_congr_left (fun x _ => dfz_val h)
theorem cI_dfz {l : List Int} (h : 0 < n) : (cI kd l).map (dfz st σ n) = cI kd l := by
  unfold cI; rw [List.map_map]; exact List.map_congr_left (fun x _ => dfz_val h)
theorem cS_toA {l : List ByteArray} (h : 0 < n) : (cS l).map (toA st σ fz n) = cS l := by
  unfold cS; rw [List.map_map]; exact List.map_congr_left (fun x _ => toA_val h)
theorem cB_toA {l : List Bool} (h : 0 < n) : (cB l).map (toA st σ fz n) = cB l := by
  unfold cB; rw [List.map_map]; exact List.map_congr_left (fun x _ => toA_val h)
theorem cI_toA {l : List Int} (h : 0 < n) : (cI kd l).map (toA st σ fz n) = cI kd l := by
  unfold cI; rw [List.map_map]; exact List.map_congr_left (fun x _ => toA_val h)
end

theorem Sub.mk2 {σ : List Nat} {n m : Nat} {env env' : List (Nat × AV)} {objs objs' : List (Nat × Option AObj)} (h : σ.Nodup ∧ σ.take m = List.range m ∧ subObj σ ⟨n, m, env, objs⟩ objs' ∧ subEnv σ ⟨n, m, env, objs⟩ env') :
    Sub σ ⟨n, m, env', objs'⟩ ⟨n, m, env, objs⟩ := Sub.mk' h.2.2.2 h.2.2.1 h.1 h.2.1
end Go.Sy

namespace Go.Sy
def cAt : List Nat → Code → Code
  | 0 :: p, .seq a _ => cAt p a
  | 1 :: p, .seq _ b => cAt p b
  | 0 :: p, .block _ c => cAt p c
  | 0 :: p, .loop c => cAt p c
  | 0 :: p, .cond _ x _ => cAt p x
  | 1 :: p, .cond _ _ y => cAt p y
  | _, c => c
attribute [push_cast] ofV_int ofV_bool ofV_str ofV_ptr ofV_nil ofV_map fillAV fillOne
attribute [push_cast] entry idx bin_add bin_sub bin_mul bin_quo bin_rem bin_and
attribute [push_cast] bin_or bin_xor bin_andNot bin_shl bin_shr bin_eql bin_neq bin_lss
attribute [push_cast] bin_leq bin_gtr bin_geq bin_eqlS bin_neqS bin_addS bin_eqlB bin_neqB
attribute [push_cast] bin_eqlP bin_neqP eq_isl eq_sl eq_pt eq_ipt keepE dedupO
attribute [push_cast] dropKey subEnv subObj ren_val ren_isl ren_ipt ren_sl ren_pt
attribute [push_cast] ren_mp ren_agg ren_tup ren_fn ren_any renO_cells bnd_val bnd_isl
attribute [push_cast] bnd_ipt bnd_any bnd_sl bnd_pt bnd_mp bnd_agg bnd_tup bnd_fn
attribute [push_cast] bndO_cells bndO_map noImm_val noImm_isl noImm_ipt noImm_any noImm_sl noImm_pt
attribute [push_cast] noImm_mp noImm_agg noImm_tup noImm_fn noImmO_cells tmod_nonneg tdiv_nonneg w_i64
attribute [push_cast] w_i32 w_u8 w_u16 w_u32 w_u64 nilOr_z nilOr_s nilOb_z
attribute [push_cast] nilOb_s islN_z islN_s resAV_tmp resAV_cellA resAV_cellS e_cellRes e_cellRes1
attribute [push_cast] e_cellResO e_cellResS putAV_more spl_lit resultAV_0 resultAV_1 resultAV_2 resultAV_3
attribute [push_cast] resultAV_4 npos hasN toA_sl toA_pt toA_mp toA_agg toA_tup toA_fn toA_val toA_isl toA_ipt toA_any
attribute [push_cast] dfz_sl dfz_pt dfz_mp dfz_agg dfz_tup dfz_fn dfz_val dfz_isl dfz_ipt dfz_any e_dfzS e_dfzP
attribute [push_cast] cS_dfz cB_dfz cI_dfz cS_toA cB_toA cI_toA toO_cells toO_map toO_full e_obOf toObj_eq
attribute [push_cast] e_pick5 e_pick6 ren_no frz_no g_bool g_no
attribute [push_cast] obsOk callUpd outName keysOk notTrO dropOk filtU inN
attribute [push_cast] ren_yl renO_tr frz_yl frzO_tr dfz_yl toA_yl toO_tr trs_nil trs_cells trs_map trs_full trs_tr bnd_yl bndO_tr noImm_yl noImmO_tr
attribute [push_cast] frz_sl frz_pt frz_agg frz_tup frz_fn frz_val frz_isl frz_ipt
attribute [push_cast] frz_mp frz_any frzO_cells redEnv redObjs_nil redObjs_cons red1 keepLt
attribute [push_cast] bindK_some bindK_map bindK_get bindK_if putAV_one spl_full cS_spl cB_spl
attribute [push_cast] cI_spl take_self cS_len cS_set cS_get cS_app cS_snoc cS_take
attribute [push_cast] cS_one cB_one cI_one cS_drop cS_zrow cS_ren cS_frz cS_bnd cS_noImm cS_all cS_nil
attribute [push_cast] cB_len cB_set cB_get cB_app cB_snoc cB_take cB_drop cB_zrow
attribute [push_cast] cB_ren cB_frz cB_bnd cB_noImm cB_all cB_nil cI_len cI_set
attribute [push_cast] cI_get cI_app cI_snoc cI_take cI_drop cI_zrow cI_ren cI_frz
attribute [push_cast] cI_bnd cI_noImm cI_all cI_nil e_hit e_look e_look0 e_ev
attribute [push_cast] e_ob e_opt e_opc e_pt e_bool e_intk e_int e_str
attribute [push_cast] e_isl e_sl e_agg e_tup e_cl e_addPt e_addPt' e_idx
attribute [push_cast] e_idx' e_cellsAt e_cellsAt' e_cellsOb e_lenSl e_lenSl' e_srcOf e_srcOf'
attribute [push_cast] e_srcObF e_srcOb e_bound0 e_bound1 e_parts1 e_parts2 e_parts3 e_parts4 e_parts5
attribute [push_cast] e_partsY e_scY e_parts6 e_parts7 e_parts8 e_parts9 e_parts10 e_parts11 e_parts12 e_sc1
attribute [push_cast] e_sc2 e_sc3 e_sc4 e_sc5 e_sc6 e_sc7 e_nn1 e_nn2
attribute [push_cast] e_nn3 e_nn4 e_pick1 e_pick2 e_pick3 e_pick4 sel_true sel_false
attribute [push_cast] sel_dt sel_df sel_t sel_f Go.Value.oneCell' List.map_cons List.map_nil List.nil_append
attribute [push_cast] List.cons_append List.append_nil Nat.add_zero Nat.zero_add Nat.mul_one Nat.zero_mul Int.toNat_natCast Int.toNat_zero
attribute [push_cast] if_true if_false Option.getD_some Option.getD_none Option.join_some Option.join_none Option.bind_some Option.map_some
attribute [push_cast] Option.some.injEq Prod.mk.injEq AV.val.injEq Value.int.injEq Value.bool.injEq Value.string.injEq AV.pt.injEq AV.ipt.injEq
attribute [push_cast] AV.sl.injEq AV.isl.injEq AV.agg.injEq AV.tup.injEq AObj.cells.injEq exists_eq_left' exists_eq_left exists_and_left
attribute [push_cast] exists_and_right and_assoc true_and and_true and_self exists_const false_and and_false
attribute [push_cast] false_or or_false true_or or_true exists_false ne_eq not_true_eq_false not_false_eq_true
attribute [push_cast] List.getElem?_cons_zero List.getElem?_cons_succ List.length_cons List.length_nil List.length_map List.length_append List.length_set List.length_replicate
attribute [push_cast] List.all_cons List.all_nil Bool.and_true Bool.true_and Bool.and_self List.drop_zero List.take_succ_cons List.drop_succ_cons
attribute [push_cast] List.take_zero List.drop_nil List.take_nil List.set_cons_zero List.set_cons_succ Bool.not_true Bool.not_false Bool.false_eq_true
attribute [push_cast] Bool.true_eq_false decide_eq_true_eq decide_eq_false_iff_not Bool.not_eq_true' Bool.not_eq_false' false_implies true_implies Bool.not_eq_true
attribute [push_cast] Bool.not_eq_false Bool.not_not decide_true decide_false Int.natCast_zero Int.natCast_add Int.natCast_one eq_self
attribute [push_cast] List.mem_cons forall_eq_or_imp forall_eq List.not_mem_nil implies_true List.map_map Function.comp_def List.getD_cons_zero
attribute [push_cast] List.getD_cons_succ List.forall_mem_map List.forall_mem_append List.nodup_cons List.nodup_nil List.Nodup.eq_1 or_self not_or
attribute [push_cast] List.range_succ List.range_zero List.contains_cons List.contains_nil Bool.or_false Bool.false_or Bool.or_true Bool.true_or
attribute [push_cast] Option.isSome_some Option.isSome_none Nat.le_refl
end Go.Sy
/- Sym16. -/
set_option linter.unusedVariables false
set_option linter.unusedSectionVars false
set_option linter.unusedSimpArgs false
namespace Go.Sy
open Go.ChangeShapes Go.WideShapes Go.ChangeAt Go.RowKit

def More (W W' : World) : Prop := W'.os = W.os ∧ W'.output = W.output ∧ W.heap.size ≤ W'.heap.size ∧ ∀ b, b < W.heap.size → W'.heap[b]? = W.heap[b]?

theorem More.kept {W W' : World} (h : More W W') (may : MemPlace → Prop) : W.keptBut W' may := by
  refine ⟨h.1, h.2.1, fun i hi => ?_⟩
  rw [h.2.2.2 i hi]
  cases W.heap[i]? with
  | none => rfl
  | some o => cases o <;> simp

theorem ACall.law {P : Program} {f : FuncId} {args : List AV} {vs : Array Value} (h : ACall P f args [] 0 (.val (.bool true)) []) (w : World) (hs : vs.size = args.length)
    (hr : ∀ j (h : j < args.length), Rep w (fun b => b < w.heap.size) (fun _ => none) (vs.getD j undef) args[j]) (hl : Laid (fun b => b < w.heap.size) w) :
    Calls P f vs w fun e w' => e = .returned (.bool true) ∧ More w w' := by
  have := h w (fun b => b < w.heap.size) (fun _ => False) (fun _ => none) vs hs hr (fun b hb => ⟨hb, id⟩) (fun b hb => hb.elim) (fun j h => by simp at h) (fun j p h => by cases h) (fun i j b s s' h => by cases h) (Hid.none (fun _ _ _ => by simp)) hl
  refine this.mono fun e w' => ?_
  rintro ⟨v, ρ', J', rfl, hv, _, hk, _⟩
  refine ⟨?_, hk.os, hk.output, hk.size, fun b hb => hk.block b hb id⟩
  cases hv; rfl

theorem law_post {H : Type} {enc : TypeId × Value → H} {P : Program} {f : Func} {s : ChangeSpec} {apart fresh handsOn : Bool} {W W' : World} {args : Array Value} {v : Value} {ds gs : List (DataW H)} {before pa pv : List MemPlace}
    (hW : DataW.Whole enc P f.params.toList s.vars apart W args.toList ds gs before)
    (hres : ∀ (b : Nat) (sp : Nat → Bool) (hd : Bool), DataW.TrodAll enc P W' b sp hd f.resultTypes.toList (v.resultList f.resultTypes.size) (s.fn H (ds ++ gs)).results [])
    (hargs : ∀ sp : Nat → Bool, (∀ p ∈ before, sp p.block = true) → DataW.TrodAll enc P W' 0 sp true f.params.toList args.toList (s.fn H (ds ++ gs)).args pa)
    (hvars : ∀ sp : Nat → Bool, (∀ p ∈ before, sp p.block = true) → DataW.TrodVars enc P W' sp s.vars (s.fn H (ds ++ gs)).vars pv)
    (hm : More W W') : s.post enc P f apart fresh handsOn false W args v W' := by
  have hold : ∀ p ∈ before, (fun b => decide (b < W.heap.size)) p.block = true := fun p hp => by simpa using hW.lt p hp
  exact ⟨ds, gs, before, [], pa, pv, hW, hres _ _ _, hargs _ hold, hvars _ hold, hm.kept _, fun h => by cases h⟩
end Go.Sy
/- Sym17. -/
set_option linter.unusedVariables false
set_option linter.unusedSectionVars false
set_option linter.unusedSimpArgs false
namespace Go.Sy
open Go.ChangeShapes Go.WideShapes Go.ChangeAt Go.RowKit

def plainT (P : Program) : Nat → TypeId → Bool
  | 0, _ => false
  | n + 1, t => match P.underlying t with
    | some .bool => true
    | some (.int _) => true
    | some .string => true
    | some (.slice e) => plainT P n e
    | some (.struct fs) => fs.toList.all fun f => plainT P n f.type
    | _ => false

def fitsT (P : Program) : Nat → TypeId → List AV → Prop
  | 0, _, _ => False
  | n + 1, t, as => match P.underlying t with
    | some .bool => ∃ b, as = [.val (.bool b)]
    | some (.int k) => ∃ m, as = [.val (.int k m)] ∧ (Lit.int k m).wf = true
    | some .string => ∃ s : ByteArray, as = [.val (.string s)] ∧ s.size ≤ reachBytes
    | some (.slice e) => as = [.isl true [] 0] ∨ ∃ xs : List (List AV), as = [.isl false xs.flatten xs.length] ∧ (∀ x ∈ xs, x.length = P.cellsOf e ∧ fitsT P n e x) ∧ xs.length * P.bytesOf e ≤ reachBytes
    | some (.struct fs) => ∃ xs : List (List AV), as = xs.flatten ∧ xs.length = fs.size ∧ ∀ (i : Nat) (f : Field) (x : List AV), fs[i]? = some f → xs[i]? = some x → fitsT P n f.type x
    | _ => False

def Good (w : World) (cs : List Value) (as : List AV) : Prop := as.length = cs.length ∧ ∀ (j : Nat) (x : AV), as[j]? = some x → (cs.getD j undef).oneCell' = true ∧ Rep w (fun b => b < w.heap.size) (fun _ => none) (cs.getD j undef) x

theorem Good.one {w : World} {v : Value} {x : AV} (h1 : v.oneCell' = true) (h2 : Rep w (fun b => b < w.heap.size) (fun _ => none) v x) : Good w [v] [x] := by
  refine ⟨rfl, fun j y hj => ?_⟩
  cases j with
  | zero => simp at hj; subst hj; exact ⟨h1, h2⟩
  | succ j => simp at hj
theorem Good.nil {w : World} : Good w [] [] := ⟨rfl, fun j x h => by simp at h⟩
theorem Good.append {w : World} {cs ds : List Value} {as bs : List AV} (h : Good w cs as) (k : Good w ds bs) : Good w (cs ++ ds) (as ++ bs) := by
  refine ⟨by rw [List.length_append, List.length_append, h.1, k.1], fun j x hx => ?_⟩
  by_cases hj : j < as.length
  · rw [List.getElem?_append_left hj] at hx
    have := h.2 j x hx
    rw [List.getD_eq_getElem?_getD, List.getElem?_append_left (by rw [← h.1]; exact hj), ← List.getD_eq_getElem?_getD]
    exact this
  · rw [List.getElem?_append_right (by omega)] at hx
    have := k.2 _ x hx
    rw [List.getD_eq_getElem?_getD, List.getElem?_append_right (by rw [← h.1]; omega), ← List.getD_eq_getElem?_getD, ← h.1]
    exact this

theorem flat_len {α : Type} {ce : Nat} {xs : List (List α)} (h : ∀ x ∈ xs, x.length = ce) : xs.flatten.length = xs.length * ce := by
  induction xs with
  | nil => simp
  | cons x xs ih => rw [List.flatten_cons, List.length_append, ih (fun y hy => h y (List.mem_cons_of_mem _ hy)), h x (List.mem_cons_self ..), List.length_cons, Nat.add_mul]; omega
theorem flat_get {α : Type} {ce : Nat} {xs : List (List α)} (h : ∀ x ∈ xs, x.length = ce) {i r : Nat} {x : List α} (hi : xs[i]? = some x) (hr : r < ce) : xs.flatten[i * ce + r]? = x[r]? := by
  induction xs generalizing i with
  | nil => simp at hi
  | cons y xs ih =>
    have hy := h y (List.mem_cons_self ..)
    cases i with
    | zero => simp at hi; subst hi; rw [List.flatten_cons, List.getElem?_append_left (by omega)]; simp
    | succ i =>
      rw [List.flatten_cons, List.getElem?_append_right (by rw [hy, Nat.add_mul]; omega), hy, show (i + 1) * ce + r - ce = i * ce + r by rw [Nat.add_mul]; omega]
      exact ih (fun z hz => h z (List.mem_cons_of_mem _ hz)) (by simpa using hi)

theorem choose_list {α β : Type} {R : α → β → Prop} : ∀ (l : List α), (∀ (i : Nat) (x : α), l[i]? = some x → ∃ y, R x y) → ∃ ys : List β, ys.length = l.length ∧ ∀ (i : Nat) (x : α) (y : β), l[i]? = some x → ys[i]? = some y → R x y
  | [], _ => ⟨[], rfl, fun i x y h => by simp at h⟩
  | a :: l, h => by
    obtain ⟨ys, h1, h2⟩ := choose_list l (fun i x hx => h (i + 1) x (by simpa using hx))
    obtain ⟨y, hy⟩ := h 0 a rfl
    refine ⟨y :: ys, by simp [h1], fun i x z hx hz => ?_⟩
    cases i with
    | zero => simp at hx hz; subst hx; subst hz; exact hy
    | succ i => exact h2 i x z (by simpa using hx) (by simpa using hz)

theorem mem_weightsAll {H : Type} {P : Program} {e : TypeId} {d : DataW H} {k : Nat} : ∀ {l : List (DataW H)}, d ∈ l → k ∈ d.weights P e → k ∈ DataW.weightsAll P e l
  | x :: l, hd, hk => by
    rw [DataW.weightsAll]
    rcases List.mem_cons.1 hd with rfl | hd
    · exact List.mem_append_left _ hk
    · exact List.mem_append_right _ (mem_weightsAll hd hk)
theorem mem_weightsEach {H : Type} {P : Program} {k : Nat} : ∀ {ts : List TypeId} {l : List (DataW H)} {i : Nat} {t : TypeId} {d : DataW H}, ts[i]? = some t → l[i]? = some d → k ∈ d.weights P t → k ∈ DataW.weightsEach P ts l
  | t :: ts, d :: l, 0, t', d', ht, hd, hk => by simp at ht hd; subst ht; subst hd; rw [DataW.weightsEach]; exact List.mem_append_left _ hk
  | t :: ts, d :: l, i + 1, t', d', ht, hd, hk => by rw [DataW.weightsEach]; exact List.mem_append_right _ (mem_weightsEach (by simpa using ht) (by simpa using hd) hk)
  | [], _, _, _, _, ht, _, _ => by simp at ht
  | _ :: _, [], _, _, _, _, hd, _ => by simp at hd

section
variable {H : Type} {enc : TypeId × Value → H} {P : Program} {W : World} {held : Bool}

theorem good_struct (g : Nat → Nat) : ∀ (fs : List Field) (k0 : Nat) (cs : List Value) (R : Field → List AV → Prop),
    (∀ (i : Nat) f, fs[i]? = some f → f.offset = k0 + ((fs.take i).map fun f => P.cellsOf f.type).sum) →
    (∀ (i : Nat) f, fs[i]? = some f → ∃ as, R f as ∧ Good W ((cs.drop f.offset).take (P.cellsOf f.type)) as) →
    ∃ xs : List (List AV), xs.length = fs.length ∧ (∀ (i : Nat) f x, fs[i]? = some f → xs[i]? = some x → R f x) ∧ Good W ((cs.drop k0).take ((fs.map fun f => P.cellsOf f.type).sum)) xs.flatten
  | [], k0, cs, R, _, _ => ⟨[], rfl, fun i f x h => by simp at h, by simpa using Good.nil⟩
  | f :: fs, k0, cs, R, h1, h2 => by
    obtain ⟨as, hR, hG⟩ := h2 0 f rfl
    have e0 := h1 0 f rfl
    simp at e0
    obtain ⟨xs, k1, k2, k3⟩ := good_struct g fs (k0 + P.cellsOf f.type) cs R (fun i f' hf => by
      have := h1 (i + 1) f' (by simpa using hf)
      rw [List.take_succ_cons, List.map_cons, List.sum_cons] at this; omega) (fun i f' hf => h2 (i + 1) f' (by simpa using hf))
    refine ⟨as :: xs, by simp [k1], fun i f' x hf hx => ?_, ?_⟩
    · cases i with
      | zero => simp at hf hx; subst hf; subst hx; exact hR
      | succ i => exact k2 i f' x (by simpa using hf) (by simpa using hx)
    · rw [e0] at hG
      have := hG.append k3
      rw [List.flatten_cons, List.map_cons, List.sum_cons, List.take_add, List.drop_drop]
      exact this

theorem good_trod (K : Kids P (· < P.types.size)) (hz : ∀ t e, t < P.types.size → P.underlying t = some (.slice e) → 0 < P.cellsOf e) : ∀ (m : Nat) (t : TypeId) (cs : List Value) (x : DataW H × List MemPlace) (fuel : Nat), t < P.types.size → plainT P m t = true →
    DataW.trod enc P W 0 (fun _ => true) held fuel t cs = some x → (∀ k ∈ x.1.weights P t, k ≤ reachBytes) → ∃ as, fitsT P m t as ∧ Good W cs as := by
  intro m
  induction m with
  | zero => intro t cs x fuel _ h; simp [plainT] at h
  | succ m ih =>
    intro t cs x fuel ht hp h hw
    unfold plainT at hp
    split at hp
    · rename_i hu
      obtain ⟨b, rfl, _⟩ := DataW.trod_bool hu h
      exact ⟨[.val (.bool b)], by unfold fitsT; rw [hu]; exact ⟨b, rfl⟩, Good.one rfl (.val _)⟩
    · rename_i k hu
      obtain ⟨n, rfl, _, hwf⟩ := DataW.trod_int hu h
      exact ⟨[.val (.int k n)], by unfold fitsT; rw [hu]; exact ⟨n, rfl, hwf⟩, Good.one rfl (.val _)⟩
    · rename_i hu
      obtain ⟨s, rfl, rfl, _⟩ := DataW.trod_string hu h
      have := hw s.data.toList.length (by rw [DataW.weights]; exact List.mem_singleton.2 rfl)
      refine ⟨[.val (.string s)], ?_, Good.one rfl (.val _)⟩
      unfold fitsT; rw [hu]; exact ⟨s, rfl, by rw [Array.length_toList] at this; exact this⟩
    · rename_i e hu
      rcases DataW.trod_slice hu h with ⟨rfl, rfl⟩ | ⟨a, len, cap, elems, rest, n, rfl, rfl, rfl, _, hl, hc, hlen, hel, _, _⟩
      · exact ⟨[.isl true [] 0], by unfold fitsT; rw [hu]; exact .inl rfl, Good.one rfl .inil⟩
      · have he := K.slice ht hu
        have hpos := hz t e ht hu
        have hwe : ∀ y ∈ elems, ∀ k ∈ y.1.weights P e, k ≤ reachBytes := fun y hy k hk => hw k (by
          simp only [DataW.weights, hu]
          exact List.mem_cons_of_mem _ (List.mem_append_left _ (mem_weightsAll (List.mem_map.2 ⟨y, hy, rfl⟩) hk)))
        have hwl : (elems.length + rest.length) * P.bytesOf e ≤ reachBytes := hw _ (by simp only [DataW.weights, hu, List.length_map]; exact List.mem_cons_self ..)
        have each : ∀ (i : Nat) (y : Nat), (List.range len)[i]? = some y → ∃ z : List Value × List AV, W.cells? 0 (a.add (y * P.cellsOf e)) (P.cellsOf e) = some z.1 ∧ fitsT P m e z.2 ∧ Good W z.1 z.2 := by
          intro i y hy
          have hi : y < len := by have := List.mem_of_getElem? hy; simpa using this
          have h1 := hel y hi
          obtain ⟨q, hq⟩ : ∃ q, elems[y]? = some q := ⟨_, List.getElem?_eq_getElem (by omega)⟩
          rw [hq, Option.bind_eq_some_iff] at h1
          obtain ⟨cs', hcs, htr⟩ := h1
          obtain ⟨as, h2, h3⟩ := ih e cs' q n he hp htr (hwe q (List.mem_of_getElem? hq))
          exact ⟨⟨cs', as⟩, hcs, h2, h3⟩
        obtain ⟨zs, hz1, hz2⟩ := choose_list _ each
        rw [List.length_range] at hz1
        have hzi : ∀ (i : Nat) (z : List Value × List AV), zs[i]? = some z → W.cells? 0 (a.add (i * P.cellsOf e)) (P.cellsOf e) = some z.1 ∧ fitsT P m e z.2 ∧ Good W z.1 z.2 := fun i z hi => by
          have hil : i < len := by have := (List.getElem?_eq_some_iff.1 hi).1; omega
          exact hz2 i i z (by simp [hil]) hi
        have hxl : ∀ x ∈ zs.map (·.2), x.length = P.cellsOf e := by
          intro x hx
          obtain ⟨z, hz', rfl⟩ := List.mem_map.1 hx
          obtain ⟨i, hi⟩ := List.mem_iff_getElem?.1 hz'
          obtain ⟨h1, _, h3⟩ := hzi i z hi
          rw [h3.1, (World.cells?_some h1).2.1]
        refine ⟨[.isl false (zs.map (·.2)).flatten (zs.map (·.2)).length], ?_, Good.one rfl ?_⟩
        · unfold fitsT; rw [hu]
          refine .inr ⟨zs.map (·.2), rfl, fun x hx => ⟨hxl x hx, ?_⟩, ?_⟩
          · obtain ⟨z, hz', rfl⟩ := List.mem_map.1 hx
            obtain ⟨i, hi⟩ := List.mem_iff_getElem?.1 hz'
            exact (hzi i z hi).2.1
          · refine Nat.le_trans (Nat.mul_le_mul_right _ ?_) hwl
            rw [List.length_map]; omega
        · have hln : (zs.map (·.2)).length = len := by simp [hz1]
          rw [hln]
          by_cases h0 : len = 0
          · have : zs = [] := List.length_eq_zero_iff.1 (by omega)
            subst this; subst h0; exact .iemp a cap
          · have hcell : ∀ (i r : Nat), i < len → r < P.cellsOf e → ∃ z v x, zs[i]? = some z ∧ z.1[r]? = some v ∧ z.2[r]? = some x ∧ W.cell? ((a.add (i * P.cellsOf e)).add r) = some v ∧ v.oneCell' = true ∧ Rep W (fun b => b < W.heap.size) (fun _ => none) v x := by
              intro i r hi hr
              obtain ⟨z, hz'⟩ : ∃ z, zs[i]? = some z := ⟨_, List.getElem?_eq_getElem (by omega)⟩
              obtain ⟨h1, _, h3⟩ := hzi i z hz'
              obtain ⟨_, h4, h5⟩ := World.cells?_some h1
              obtain ⟨v, hv⟩ : ∃ v, z.1[r]? = some v := ⟨_, List.getElem?_eq_getElem (by omega)⟩
              obtain ⟨x, hx⟩ : ∃ x, z.2[r]? = some x := ⟨_, List.getElem?_eq_getElem (by rw [h3.1]; omega)⟩
              obtain ⟨g1, g2⟩ := h3.2 r x hx
              have e1 : z.1.getD r undef = v := by rw [List.getD_eq_getElem?_getD, hv]; rfl
              rw [e1] at g1 g2
              exact ⟨z, v, x, hz', hv, hx, by rw [h5 r hr, hv], g1, g2⟩
            obtain ⟨b, off, sp⟩ := a
            obtain ⟨z0, v0, x0, _, _, _, hc0, _⟩ := hcell 0 0 (by omega) hpos
            have hsp : sp = none := by
              cases sp with
              | none => rfl
              | some k =>
                have e0 : ((⟨b, off, some k⟩ : Addr).add (0 * P.cellsOf e)).add 0 = ⟨b, off, some k⟩ := by simp [Addr.add]
                rw [e0] at hc0
                unfold World.cell? at hc0
                simp only [Option.isSome_some, if_true] at hc0
                split at hc0 <;> simp at hc0
            subst hsp
            have hbl : b < W.heap.size := by
              rw [Addr.add_lit, Addr.add_lit] at hc0
              exact World.block_lt_of_cell? W _ hc0
            have hflen := flat_len hxl
            rw [hln] at hflen
            have hdm : ∀ j, j < (zs.map (·.2)).flatten.length → ∃ z v x, zs[j / P.cellsOf e]? = some z ∧ z.1[j % P.cellsOf e]? = some v ∧ (zs.map (·.2)).flatten[j]? = some x ∧ W.cell? ⟨b, off + j, none⟩ = some v ∧ v.oneCell' = true ∧ Rep W (fun b => b < W.heap.size) (fun _ => none) v x := by
              intro j hj
              have hi : j / P.cellsOf e < len := (Nat.div_lt_iff_lt_mul hpos).2 (by rw [← hflen]; exact hj)
              have hr : j % P.cellsOf e < P.cellsOf e := Nat.mod_lt _ hpos
              obtain ⟨z, v, x, g1, g2, g3, g4, g5, g6⟩ := hcell _ _ hi hr
              have hj' : j / P.cellsOf e * P.cellsOf e + j % P.cellsOf e = j := by rw [Nat.mul_comm]; exact Nat.div_add_mod _ _
              refine ⟨z, v, x, g1, g2, ?_, ?_, g5, g6⟩
              · rw [← g3, ← flat_get hxl (i := j / P.cellsOf e) (by simp [g1]) hr, hj']
              · rw [← g4, Addr.add_lit, Addr.add_lit]; rw [show off + j / P.cellsOf e * P.cellsOf e + j % P.cellsOf e = off + j by omega]
            have hu' : ∀ j, j < (zs.map (·.2)).flatten.length → ((W.cell? ⟨b, off + j, none⟩).getD undef).oneCell' = true ∧ W.cell? ⟨b, off + j, none⟩ = some ((W.cell? ⟨b, off + j, none⟩).getD undef) ∧
                ∀ h : j < (zs.map (·.2)).flatten.length, Rep W (fun b => b < W.heap.size) (fun _ => none) ((W.cell? ⟨b, off + j, none⟩).getD undef) (zs.map (·.2)).flatten[j] := by
              intro j hj
              obtain ⟨z, v, x, _, _, g3, g4, g5, g6⟩ := hdm j hj
              rw [g4]
              refine ⟨g5, rfl, fun h => ?_⟩
              rw [List.getElem?_eq_getElem h] at g3
              rw [Option.some.inj g3]; exact g6
            exact .isl b off len cap _ (fun j => (W.cell? ⟨b, off + j, none⟩).getD undef) (fun _ => ⟨hbl, hbl⟩) hl (fun j hj => (hu' j hj).1) (fun j hj => (hu' j hj).2.1) (fun j hj => (hu' j hj).2.2 hj)
    · rename_i fs hu
      obtain ⟨xs, n, rfl, rfl, hcl, hxl, hf⟩ := DataW.trod_struct hu h
      obtain ⟨k1, k2, k3⟩ := K.struct ht hu
      have hone : ∀ (i : Nat) f, fs.toList[i]? = some f → ∃ as, fitsT P m f.type as ∧ Good W ((cs.drop f.offset).take (P.cellsOf f.type)) as := by
        intro i f hfi
        have hfa : fs[i]? = some f := by simpa using hfi
        have h1 := hf i f hfa
        obtain ⟨q, hq⟩ : ∃ q, xs[i]? = some q := ⟨_, List.getElem?_eq_getElem (by rw [hxl]; exact (Array.getElem?_eq_some_iff.1 hfa).1)⟩
        rw [hq] at h1
        refine ih f.type _ q n (k1 f (List.mem_of_getElem? hfi)) (List.all_eq_true.1 hp f (List.mem_of_getElem? hfi)) h1 (fun k hk => hw k ?_)
        simp only [DataW.weights, hu]
        exact mem_weightsEach (i := i) (by rw [List.getElem?_map, hfi]; rfl) (by rw [List.getElem?_map, hq]; rfl) hk
      obtain ⟨ys, g1, g2, g3⟩ := good_struct (W := W) (P := P) id fs.toList 0 cs (fun f as => fitsT P m f.type as) (fun i f hfi => by rw [k3 i f hfi]; simp) hone
      refine ⟨ys.flatten, ?_, ?_⟩
      · unfold fitsT; rw [hu]
        exact ⟨ys, rfl, by simpa using g1, fun i f x hfi hx => g2 i f x (by simpa using hfi) hx⟩
      · rw [← k2, List.drop_zero, ← hcl, List.take_length] at g3
        exact g3
    · cases hp
end
end Go.Sy

namespace Go.Sy
open Go.ChangeShapes Go.WideShapes Go.ChangeAt Go.RowKit
section
variable {H : Type} {enc : TypeId × Value → H} {P : Program} {W W' : World}

theorem TrodAll.carry (hm : More W W') : ∀ {ts : List TypeId} {vs : List Value} {ds : List (DataW H)} {ps : List MemPlace}, (∀ p ∈ ps, p.block < W.heap.size) → DataW.TrodAll enc P W 0 (fun _ => true) true ts vs ds ps → DataW.TrodAll enc P W' 0 (fun _ => true) true ts vs ds ps
  | [], [], [], _, _, h => h
  | t :: ts, v :: vs, d :: ds, ps, hlt, ⟨p, q, ⟨n, h1⟩, h2, e⟩ => by
    refine ⟨p, q, ⟨n, DataW.trod_carry n t _ (d, p) h1 (fun x hx => ?_)⟩, TrodAll.carry hm (fun x hx => hlt x (by rw [e]; exact List.mem_append_right _ hx)) h2, e⟩
    have hb := hm.2.2.2 x.block (hlt x (by rw [e]; exact List.mem_append_left _ hx))
    cases x with
    | cell b off => exact World.cell?_of_block (w := W) (a := ⟨b, off, none⟩) hb
    | map b => exact hb
end

end Go.Sy
/- Sym18. -/
set_option linter.unusedVariables false
set_option linter.unusedSectionVars false
set_option linter.unusedSimpArgs false
namespace Go.Sy

section
variable {P : Program} {st : St} {nid : Nat} {dst : Option Nat} {ty : TypeId} {pos : String} {af : Array Edge} {g : Option (Nat × Bool)}
theorem opT_append_in (t : TypeId) (x y : Operand) (e : TypeId) (id off n es m : Nat) (cs cells : List AV) (he : elemOf P t = some e) (hs : siz P e = some es) (hp : 0 < es)
    (hx : st.op x = .sl id off n es) (ho : st.ob id = some (.cells cs e)) (hy : srcOf st (st.op y) = some (cells, m)) (hl : cells.length = m * es) (hfit : off + (n + m) * es ≤ cs.length) :
    OpT P ⟨dst, .call ⟨.builtin .append, #[x, y], #[t, t]⟩, ty, pos, af, g⟩ nid 0 st ⟨.sl id off (n + m) es, [(id, some (.cells (spl cs (off + n * es) cells) e))]⟩ := OpT.modify ho fun c ρ D J a w b s h hρ hob hJ => by
  have e1 := h.op x; rw [hx] at e1
  obtain ⟨i, hi, his⟩ : ∃ i, P.info? e = some i ∧ i.size = es := by
    unfold siz at hs
    cases hi : P.info? e with
    | none => simp [hi] at hs
    | some i => exact ⟨i, rfl, by simpa [hi] using hs⟩
  generalize hv : a.eval x = v at e1
  cases e1 with
  | sl b' s' _ _ _ _ cap hρ' hc hsz =>
    rw [hρ] at hρ'; cases hρ'
    have hcs : cs.length ≤ s := by obtain ⟨arr, _, has, hcr⟩ := hob; have := hcr.1; omega
    have hroom : n + m ≤ cap := by
      have h1 : (n + m) * es ≤ cap * es := by omega
      exact Nat.le_of_mul_le_mul_right h1 hp
    have hpos : off + n * es + cells.length ≤ cs.length := by rw [hl]; rw [Nat.add_mul] at hfit; omega
    rcases src_rep h (h.op y) hy hl with ⟨hy0, h0, hc0⟩ | ⟨ad, cp, news, hyv, hmc, hnl, hnews, hone, hrep⟩
    · subst h0; subst hc0
      refine ⟨.value (.slice (some ⟨b, off, none⟩) (n + 0) cap), w, _, ?_, .inl rfl, rfl, rfl, rfl, rfl, fun _ _ => rfl, fun hi' => ⟨.sl b s id off _ es cap hρ (by omega) hsz, ?_⟩⟩
      · simp [execOp, resolve, invoke, builtin, hv, hy0, Builtin.append_, run_underlying (run_elemOf he), sizeOf, typeInfo, hi, Builtin.lenOf, hc, Builtin.firstCells, storeCells]
      · have : spl cs (off + n * es) [] = cs := by unfold spl; simp
        rw [this]; exact hob
    · obtain ⟨w', hst, k1, k2, k3, k4, k5, k6⟩ := put_cells (P := P) (off := off + n * es) (avs := cells) hob (by rw [hnl, hl]) hone hrep hpos
      have hfc := run_firstCells_some (P := P) w i.size m ad m cp news (by rw [his]; exact hnl) hnews
      refine ⟨.value (.slice (some ⟨b, off, none⟩) (n + m) cap), w', _, ?_, .inl rfl, k1, k2, k3, k4, k5, fun hi' => ⟨.sl b s id off _ es cap hρ hroom hsz, k6 hi'⟩⟩
      subst his
      simp [execOp, resolve, invoke, builtin, hv, hyv, Builtin.append_, run_underlying (run_elemOf he), sizeOf, typeInfo, hi, Builtin.lenOf, hroom, hfc, Addr.add_lit, hst]

theorem opT_makeFunc (f : FuncId) (caps : Array Operand) : OpT P ⟨dst, .makeFunc (.func f) #[] caps, ty, pos, af, g⟩ nid 0 st ⟨.fn f (caps.toList.map fun x => st.op x), []⟩ := .pure fun c ρ D J a w h => by
  refine ⟨.func (.func f) #[] (caps.map a.eval), by simp [execOp, Instr.makeFunc], .fn f _ _ (by simp) (fun j hj => ?_)⟩
  have hj' : j < caps.size := by simpa using hj
  have := h.op caps[j]
  simpa [Array.getD, hj'] using this

theorem opT_callFn {f : FuncId} {x0 : Operand} {caps : List AV} {xs : Array Operand} {tys : Array TypeId}
    {cargs : List AV} {cobjs : List AObj} {m : Nat} {r : AV} {cobjs' : List AObj} (hx0 : st.op x0 = .fn f caps) (hc : ACall P f cargs cobjs m r cobjs') (σ : List Nat) (fz : Bool) (hp : plainFn P f = true) (hm : m ≤ cobjs.length) (hm' : m ≤ cobjs'.length)
    (hσ : σ.length = cobjs.length) (hnd : σ.Nodup) (hlt : ∀ i ∈ σ, i < nid)
    (hob : ∀ j (h : j < cobjs.length), ∃ o, st.ob (σ.getD j 0) = some o ∧ cobjs[j] = toO st σ fz o)
    (hargs : cargs = ((xs.toList.map fun x => st.op x) ++ caps).map (toA st σ fz 8))
    (hfz : fz = true → noImm r ∧ ∀ j (h : j < cobjs'.length), noImmO cobjs'[j]) (htr : trs cobjs' = trs cobjs) :
    OpT P ⟨dst, .call ⟨.value x0, xs, tys⟩, ty, pos, af, g⟩ nid (cobjs'.length - m) st ⟨ren (outName σ m nid) r, callUpd σ m nid cobjs'⟩ := by
  refine opT_callV (xvs := (xs.toList.map fun x => st.op x) ++ caps) hc σ fz hm hm' (fun c ρ D J a w hs => ?_) hσ hnd hlt hob hargs hfz htr
  have h0 := hs.op x0; rw [hx0] at h0
  generalize hv : a.eval x0 = v at h0
  cases h0 with
  | fn _ ws _ hsz hcap =>
    refine ⟨xs.map a.eval ++ ws, ?_, by simp [hsz], fun j hj => ?_⟩
    · simp [execOp, resolve, hv, Deferred.ofValue, invoke, run_call hp]
    · by_cases hj1 : j < xs.size
      · have := hs.op xs[j]
        have e1 : (xs.map a.eval ++ ws).getD j undef = a.eval xs[j] := by simp [Array.getD, Array.getElem_append, hj1]; intro h; omega
        rw [e1, List.getElem_append_left (by simpa using hj1)]
        simpa using this
      · have hj2 : j - xs.size < caps.length := by simp at hj; omega
        have := hcap (j - xs.size) hj2
        have e1 : (xs.map a.eval ++ ws).getD j undef = ws.getD (j - xs.size) undef := by
          have h3 : j < xs.size + ws.size := by omega
          have h4 : j - xs.size < ws.size := by omega
          simp [Array.getD, Array.getElem_append, hj1, h3, h4]
        rw [e1, List.getElem_append_right (by simpa using Nat.le_of_not_lt hj1)]
        simpa using this

variable {K : Nat → Eff → Prop}
def fnAV : AV → Option (FuncId × List AV)
  | .fn f cs => some (f, cs)
  | _ => none
theorem fnAV_eq {x : AV} {p : FuncId × List AV} (h : fnAV x = some p) : x = .fn p.1 p.2 := by
  cases x <;> simp [fnAV] at h
  subst h; rfl
theorem e_fn {f : FuncId} {cs : List AV} : fnAV (.fn f cs) = some (f, cs) := rfl

theorem Q_makeFunc (f : FuncId) (caps : Array Operand) (h : K 0 ⟨.fn f (caps.toList.map fun x => st.op x), []⟩) : AO P ⟨dst, .makeFunc (.func f) #[] caps, ty, pos, af, g⟩ nid st K := ⟨_, _, opT_makeFunc f caps, h⟩

theorem Q_appendIn {e : TypeId} {es : Nat} (t : TypeId) (x y : Operand) [he : TElem P t e] [hs : TSiz P e es]
    (h : bindK (slAV (st.op x)) fun p => bindK (clOb (st.ob p.1)) fun o => bindK (srcOf st (st.op y)) fun q => p.2.2.2 = es ∧ o.2 = e ∧ 0 < es ∧ q.1.length = q.2 * es ∧ p.2.1 + (p.2.2.1 + q.2) * es ≤ o.1.length ∧
      K 0 ⟨.sl p.1 p.2.1 (p.2.2.1 + q.2) es, [(p.1, some (.cells (spl o.1 (p.2.1 + p.2.2.1 * es) q.1) e))]⟩) :
    AO P ⟨dst, .call ⟨.builtin .append, #[x, y], #[t, t]⟩, ty, pos, af, g⟩ nid st K := by
  obtain ⟨⟨id, off, n, es'⟩, h1, ⟨cs, e'⟩, h2, ⟨cells, m⟩, h3, h4, h5, h6, h7, h8, h9⟩ := h
  dsimp only at h4 h5 h6 h7 h8 h9
  subst h4; subst h5
  exact ⟨_, _, opT_append_in t x y _ id off n _ m cs cells he.out hs.out h6 (slAV_eq h1) (clOb_eq h2) h3 h7 h8, h9⟩

theorem R_callFnG (f : FuncId) {x0 : Operand} {xs : Array Operand} {tys : Array TypeId} [hp : TPlain P f] (σ : List Nat) (m : Nat) (fz : Bool)
    (h : bindK (fnAV (st.op x0)) fun q => q.1 = f ∧ obsOk st σ ∧ m ≤ σ.length ∧ σ.Nodup ∧ (∀ i ∈ σ, i < nid) ∧
      ∀ G : List AV → List AObj → Prop, (∀ as' os, CallGo P f σ m fz nid K as' os → G as' os) → G (((xs.toList.map fun x => st.op x) ++ q.2).map (toA st σ fz 8)) (σ.map (toObj st σ fz))) :
    AO P ⟨dst, .call ⟨.value x0, xs, tys⟩, ty, pos, af, g⟩ nid st K := by
  obtain ⟨⟨f', caps⟩, h0, rfl, h2, h3, h4, h5, h6⟩ := h
  dsimp only at h0 h2 h3 h4 h5 h6
  obtain ⟨r, cobjs', hc, hm, hfz, htr, hK⟩ := h6 _ (fun _ _ h => h)
  exact ⟨_, _, opT_callFn (fnAV_eq h0) hc σ fz hp.out (by simpa using h3) hm (by simp) h4 h5 (obsOk_get h2) rfl (fun hf => ⟨(hfz hf).1, fun j hj => (hfz hf).2 _ (List.getElem_mem hj)⟩) htr, hK⟩

theorem Frz.cut {n m : Nat} {env : List (Nat × AV)} {objs : List (Nat × Option AObj)} (id k : Nat) {cs : List AV} {e : TypeId} (h1' : (⟨n, m, env, objs⟩ : St).ob id = some (.cells cs e)) : Frz ⟨n, m, env, objs⟩ ⟨n, m, env, (id, some (.cells (cs.take k) e)) :: objs⟩ := fun c ρ D J a w hs => by
  have hob : ∀ i o, (⟨n, m, env, (id, some (.cells (cs.take k) e)) :: objs⟩ : St).ob i = some o → (i = id ∧ o = .cells (cs.take k) e) ∨ (⟨n, m, env, objs⟩ : St).ob i = some o := by
    intro i o hi
    simp only [St.ob, look] at hi
    split at hi
    · rename_i hid; simp at hi; exact .inl ⟨hid, hi.symm⟩
    · exact .inr hi
  have hex : ∀ i o, (⟨n, m, env, (id, some (.cells (cs.take k) e)) :: objs⟩ : St).ob i = some o → ∃ o', (⟨n, m, env, objs⟩ : St).ob i = some o' := by
    intro i o hi
    rcases hob i o hi with ⟨rfl, _⟩ | hi
    · exact ⟨_, h1'⟩
    · exact ⟨_, hi⟩
  refine ⟨J, hs.defers, hs.tmps, hs.env, fun i o ho => ?_, fun i i' o o' b s s' g1 g2 => ?_, hs.dom, hs.jok, hs.jlt, hs.ilt, hs.pin, hs.kept, hs.hid_of (fun i => i) (fun i o ho => ?_) (fun _ _ _ _ _ _ _ _ e => e) (fun _ h => .inl h), hs.laid⟩
  · rcases hob i o ho with ⟨rfl, rfl⟩ | ho
    · obtain ⟨b, s, k1, ⟨arr, k2, k3, k4⟩, k5⟩ := hs.obj _ _ h1'
      refine ⟨b, s, k1, ⟨arr, k2, k3, ?_, fun j hj => ?_, k4.2.2⟩, k5⟩
      · have := k4.1; simp; omega
      · have hj' : j < cs.length := by simp at hj; omega
        have := k4.2.1 j hj'
        simpa using this
    · exact hs.obj i o ho
  · obtain ⟨o1, q1⟩ := hex i o g1
    obtain ⟨o2, q2⟩ := hex i' o' g2
    exact hs.inj i i' o1 o2 b s s' q1 q2
  · rcases hob i o ho with ⟨rfl, rfl⟩ | ho
    · exact ⟨_, h1', fun _ _ e => (by cases e), rfl⟩
    · exact ⟨o, ho, fun _ _ e => e, rfl⟩
theorem Ends.cut {fn : Func} {objs0 : List AObj} {m0 : Nat} {r : AV} {objs' : List AObj} {e : Exit} {n m : Nat} {env : List (Nat × AV)} {objs : List (Nat × Option AObj)} (id k : Nat)
    (h : bindK (clOb (look objs id).join) fun o => ∀ K : List (Nat × Option AObj) → Prop, (∀ objs'', Ends P fn objs0 m0 r objs' e ⟨n, m, env, objs''⟩ → K objs'') → K ((id, some (.cells (o.1.take k) o.2)) :: objs)) : Ends P fn objs0 m0 r objs' e ⟨n, m, env, objs⟩ := by
  obtain ⟨⟨cs, e'⟩, h1, h2⟩ := h
  obtain ⟨he, st', σ, hf, h⟩ := h2 (fun objs'' => Ends P fn objs0 m0 r objs' e ⟨n, m, env, objs''⟩) (fun _ h => h)
  exact ⟨he, st', σ, (Frz.cut id k (n := n) (m := m) (env := env) (clOb_eq h1)).trans hf, h⟩
end
end Go.Sy
/- Sym19. -/
set_option linter.unusedVariables false
set_option linter.unusedSectionVars false
set_option linter.unusedSimpArgs false
namespace Go.Sy

def flatFields (P : Program) : Nat → List Field → Option (List IntKind)
  | _, [] => some []
  | i, f :: fs => match kindOf P f.type, flatFields P (i + 1) fs with
    | some k, some ks => if f.offset = i ∧ f.name ≠ "_" then some (k :: ks) else none
    | _, _ => none
def flatKs (P : Program) (t : TypeId) : Option (List IntKind) := match P.underlying t with
  | some (.struct fs) => if P.stoodInHeld t then none else flatFields P 0 fs.toList
  | some (.array n e) => match kindOf P e, siz P e with
    | some k, some 1 => some (List.replicate n k)
    | _, _ => none
  | _ => none

def mkInts (ks : List IntKind) (a : List Int) : List Value := List.zipWith (fun k n => .int k n) ks a

theorem part_int {P : Program} {w : World} {t : TypeId} {k : IntKind} (h : kindOf P t = some k) {cs : Array Value} {i : Nat} {v : Value} (hv : cs[i]? = some v) : (part t cs i).run P w = .ok v w := by
  have ha : isAggB P t = some false := by unfold isAggB; rw [run_kindOf h]; rfl
  obtain ⟨hlt, rfl⟩ := Array.getElem?_eq_some_iff.1 hv
  simp [part, run_isAggB ha, hlt]

theorem eqFields_flat {P : Program} {d : Nat} {xs ys : Array Value} : ∀ (fs : List Field) (i : Nat) (ks : List IntKind) (a b : List Int) (w : World), flatFields P i fs = some ks → a.length = ks.length → b.length = ks.length →
    (∀ j k n, ks[j]? = some k → a[j]? = some n → xs[i + j]? = some (.int k n)) → (∀ j k n, ks[j]? = some k → b[j]? = some n → ys[i + j]? = some (.int k n)) →
    (Op.eqFields (d + 1) xs ys fs).run P w = .ok (decide (a = b)) w := by
  intro fs
  induction fs with
  | nil =>
    intro i ks a b w h ha hb _ _
    simp [flatFields] at h; subst h
    have : a = [] := List.length_eq_zero_iff.1 ha
    have : b = [] := List.length_eq_zero_iff.1 hb
    subst a; subst b
    simp [Op.eqFields]
  | cons f fs ih =>
    intro i ks a b w h ha hb hx hy
    unfold flatFields at h
    split at h
    · rename_i k ks' hk hks
      split at h
      · rename_i hc
        cases h
        obtain ⟨x, a, rfl⟩ : ∃ x l, a = x :: l := by cases a with | nil => simp at ha | cons x l => exact ⟨x, l, rfl⟩
        obtain ⟨y, b, rfl⟩ : ∃ x l, b = x :: l := by cases b with | nil => simp at hb | cons x l => exact ⟨x, l, rfl⟩
        have e1 := part_int (w := w) hk (hx 0 k x rfl rfl)
        have e2 := part_int (w := w) hk (hy 0 k y rfl rfl)
        simp only [Nat.add_zero] at e1 e2
        have e3 := ih (i + 1) ks' a b w hks (by simpa using ha) (by simpa using hb) (fun j k n h1 h2 => by have := hx (j + 1) k n (by simpa using h1) (by simpa using h2); rwa [show i + (j + 1) = i + 1 + j by omega] at this)
          (fun j k n h1 h2 => by have := hy (j + 1) k n (by simpa using h1) (by simpa using h2); rwa [show i + (j + 1) = i + 1 + j by omega] at this)
        have e4 : (Op.equalIn (d + 1) f.type (.int k x) (.int k y)).run P w = .ok (x == y) w := run_equalIn_int w d f.type k k x y (run_kindOf hk)
        simp only [Op.eqFields, if_pos hc.2, Sem.run_bind, hc.1, e1, e2, Result.andThen_ok, e4]
        by_cases hxy : x = y
        · subst hxy; simp [e3]
        · simp [hxy]
      · cases h
    · cases h

theorem loop_flat {P : Program} {d : Nat} {e : TypeId} {k : IntKind} (hk : kindOf P e = some k) {xs ys : Array Value} (w : World) : ∀ (n i : Nat) (a b : List Int), a.length = n → b.length = n →
    (∀ j n, a[j]? = some n → xs[i + j]? = some (.int k n)) → (∀ j n, b[j]? = some n → ys[i + j]? = some (.int k n)) →
    (forIn (m := Sem) (List.range' i n 1) ((none, ()) : Option Bool × Unit) (fun i _ => do
        let x ← part e xs (i * 1)
        let y ← part e ys (i * 1)
        let r ← Op.equalIn (d + 1) e x y
        if (!r) = true then pure (ForInStep.done (some false, ())) else pure (ForInStep.yield (none, ())))).run P w = .ok (if a = b then (none, ()) else (some false, ())) w := by
  intro n
  induction n with
  | zero =>
    intro i a b ha hb _ _
    have : a = [] := List.length_eq_zero_iff.1 ha
    have : b = [] := List.length_eq_zero_iff.1 hb
    subst a; subst b
    simp [List.range']
  | succ n ih =>
    intro i a b ha hb hx hy
    obtain ⟨x, a, rfl⟩ : ∃ x l, a = x :: l := by cases a with | nil => simp at ha | cons x l => exact ⟨x, l, rfl⟩
    obtain ⟨y, b, rfl⟩ : ∃ x l, b = x :: l := by cases b with | nil => simp at hb | cons x l => exact ⟨x, l, rfl⟩
    have e1 := part_int (w := w) hk (hx 0 x rfl)
    have e2 := part_int (w := w) hk (hy 0 y rfl)
    simp only [Nat.add_zero] at e1 e2
    have e4 : (Op.equalIn (d + 1) e (.int k x) (.int k y)).run P w = .ok (x == y) w := run_equalIn_int w d e k k x y (run_kindOf hk)
    have e3 := ih (i + 1) a b (by simpa using ha) (by simpa using hb) (fun j n h2 => by have := hx (j + 1) n (by simpa using h2); rwa [show i + (j + 1) = i + 1 + j by omega] at this)
          (fun j n h2 => by have := hy (j + 1) n (by simpa using h2); rwa [show i + (j + 1) = i + 1 + j by omega] at this)
    rw [List.range', List.forIn_cons]
    simp only [Nat.mul_one] at e3 ⊢
    simp only [Sem.run_bind, e1, e2, Result.andThen_ok, e4]
    by_cases hxy : x = y
    · subst hxy
      simp only [beq_self_eq_true, Bool.not_true, Bool.false_eq_true, if_false, Sem.run_pure, Result.andThen_ok, e3, List.cons.injEq, true_and]
    · simp [hxy]

theorem ints_get {ks : List IntKind} {a : List Int} (hl : a.length = ks.length) (j : Nat) (k : IntKind) (n : Int) (h1 : ks[j]? = some k) (h2 : a[j]? = some n) : (mkInts ks a).toArray[0 + j]? = some (.int k n) := by
  simp [mkInts, List.getElem?_zipWith, h1, h2]

theorem equal_flat {P : Program} {t : TypeId} {ks : List IntKind} (h : flatKs P t = some ks) {a b : List Int} (ha : a.length = ks.length) (hb : b.length = ks.length) (w : World) :
    (Op.equal t (.agg (mkInts ks a).toArray) (.agg (mkInts ks b).toArray)).run P w = .ok (decide (a = b)) w := by
  show (Op.equalIn (9998 + 1 + 1) t _ _).run P w = _
  unfold flatKs at h
  split at h
  · rename_i fs hu
    split at h
    · cases h
    · rename_i hst
      have hst' : P.stoodInHeld t = false := by simpa using hst
      have hf : P.fieldsOf t = fs := by unfold Program.fieldsOf; rw [hu]
      rw [run_equalIn_struct w (9998 + 1) t _ _ (by rw [hf]; exact hu) hst', hf]
      exact eqFields_flat fs.toList 0 ks a b w h ha hb (ints_get ha) (ints_get hb)
  · rename_i n e hu
    split at h
    · rename_i k hk hz
      cases h
      simp only [List.length_replicate] at ha hb
      have hr : ∀ {a : List Int}, a.length = n → ∀ j m, a[j]? = some m → (mkInts (List.replicate n k) a).toArray[0 + j]? = some (.int k m) := fun {a} ha j m hm =>
        ints_get (ks := List.replicate n k) (by simpa using ha) j k m (by have := (List.getElem?_eq_some_iff.1 hm).1; rw [List.getElem?_replicate, if_pos (by omega)]) hm
      have := loop_flat (d := 9998) hk w n 0 a b ha hb (hr ha) (hr hb)
      rw [Op.equalIn]
      simp only [Sem.run_bind, run_underlying hu, Result.andThen_ok, run_siz hz, Std.Legacy.Range.forIn_eq_forIn_range', Std.Legacy.Range.size, Nat.sub_zero, Nat.add_sub_cancel, Nat.div_one]
      rw [this]
      by_cases hab : a = b <;> simp [hab]
    · cases h
  · cases h

class TFlat (P : Program) (t : TypeId) (ks : outParam (List IntKind)) : Prop where
  out : flatKs P t = some ks
  gd : P.eqGuardType P.depth t = false

def intsL : List AV → Option (List (IntKind × Int))
  | [] => some []
  | x :: l => match intkAV x, intsL l with
    | some p, some ps => some (p :: ps)
    | _, _ => none
def intsAV : AV → Option (List (IntKind × Int))
  | .agg cs => intsL cs
  | _ => none
theorem e_intsAV {cs : List AV} : intsAV (.agg cs) = intsL cs := rfl
theorem e_intsL0 : intsL [] = some [] := rfl
theorem e_intsL1 {k : IntKind} {n : Int} {l : List AV} : intsL (.val (.int k n) :: l) = (intsL l).map (fun ps => (k, n) :: ps) := by
  show (match some (k, n), intsL l with | some p, some ps => some (p :: ps) | _, _ => none) = _
  cases intsL l <;> rfl

theorem intsL_eq : ∀ {cs : List AV} {ps : List (IntKind × Int)}, intsL cs = some ps → cs = ps.map (fun p => .val (.int p.1 p.2))
  | [], ps, h => by simp [intsL] at h; subst h; rfl
  | x :: l, ps, h => by
    unfold intsL at h
    split at h
    · rename_i p qs h1 h2
      cases h
      rw [intsL_eq h2, intkAV_eq h1]; rfl
    · cases h

theorem rep_ints {w : World} {J : Nat → Prop} {ρ : Rho} {v : Value} {ps : List (IntKind × Int)} {ks : List IntKind} (h : Rep w J ρ v (.agg (ps.map fun p => .val (.int p.1 p.2)))) (hk : ps.map (·.1) = ks) : v = .agg (mkInts ks (ps.map (·.2))).toArray := by
  subst hk
  cases h with
  | agg vs _ hs h =>
    congr 1
    apply Array.ext_getElem?
    intro j
    by_cases hj : j < ps.length
    · have := h j (by simpa using hj)
      have e := rep_val_inv (by simpa using this)
      have hj' : j < vs.size := by rw [hs]; simpa using hj
      have e2 : vs[j]? = some (Value.int ps[j].1 ps[j].2) := by
        rw [Array.getElem?_eq_getElem hj']
        simpa [Array.getD, hj'] using e
      rw [e2]
      simp [mkInts, hj]
    · rw [Array.getElem?_eq_none (by rw [hs]; simpa using hj)]
      simp [mkInts, List.getElem?_zipWith, List.getElem?_eq_none (Nat.le_of_not_lt hj)]

theorem intsAV_eq {x : AV} {ps : List (IntKind × Int)} (h : intsAV x = some ps) : x = .agg (ps.map fun p => .val (.int p.1 p.2)) := by
  unfold intsAV at h
  split at h
  · rw [intsL_eq h]
  · cases h

def eqI : List Int → List Int → Bool
  | [], [] => true
  | a :: l, b :: m => decide (a = b) && eqI l m
  | _, _ => false
theorem eqI_eq : ∀ (a b : List Int), eqI a b = decide (a = b)
  | [], [] => by simp [eqI]
  | a :: l, b :: m => by simp [eqI, eqI_eq l m]
  | [], _ :: _ => by simp [eqI]
  | _ :: _, [] => by simp [eqI]
theorem e_eqI0 : eqI [] [] = true := rfl
theorem e_eqI1 {a b : Int} {l m : List Int} : eqI (a :: l) (b :: m) = (decide (a = b) && eqI l m) := rfl

section
variable {P : Program} {Q : Exit → Nat → St → Prop} {nid : Nat} {st : St} {dst : Option Nat} {ty : TypeId} {pos : String} {af : Array Edge} {g : Option (Nat × Bool)} {K : Nat → Eff → Prop}

theorem Q_eqAgg {ks : List IntKind} (t : TypeId) (x y : Operand) (t' : TypeId) [ht : TFlat P t ks] (h : bindK (intsAV (st.op x)) fun xs => bindK (intsAV (st.op y)) fun ys => xs.map (·.1) = ks ∧ ys.map (·.1) = ks ∧ K 0 ⟨.val (.bool (eqI (xs.map (·.2)) (ys.map (·.2)))), []⟩) :
    AO P ⟨dst, .binOp .eql t x y t', ty, pos, af, g⟩ nid st K := by
  obtain ⟨xs, h1, ys, h2, h3, h4, h5⟩ := h
  refine ⟨0, _, .pure fun c ρ D J a w hs => ?_, h5⟩
  have e1 := hs.op x; have e2 := hs.op y
  have k1 := intsAV_eq h1
  have k2 := intsAV_eq h2
  rw [k1] at e1; rw [k2] at e2
  refine ⟨_, ?_, .val _⟩
  simp only [execOp, rep_ints e1 h3, rep_ints e2 h4, Sem.run_bind, run_eqGuard_agg w _ t x y _ _ ht.gd, Result.andThen_ok, binOp, Op.equal]
  have := equal_flat ht.out (a := xs.map (·.2)) (b := ys.map (·.2)) (by rw [← h3]; simp) (by rw [← h4]; simp) w
  unfold Op.equal at this
  simp [this, eqI_eq]

theorem Q_neqAgg {ks : List IntKind} (t : TypeId) (x y : Operand) (t' : TypeId) [ht : TFlat P t ks] (h : bindK (intsAV (st.op x)) fun xs => bindK (intsAV (st.op y)) fun ys => xs.map (·.1) = ks ∧ ys.map (·.1) = ks ∧ K 0 ⟨.val (.bool !(eqI (xs.map (·.2)) (ys.map (·.2)))), []⟩) :
    AO P ⟨dst, .binOp .neq t x y t', ty, pos, af, g⟩ nid st K := by
  obtain ⟨xs, h1, ys, h2, h3, h4, h5⟩ := h
  refine ⟨0, _, .pure fun c ρ D J a w hs => ?_, h5⟩
  have e1 := hs.op x; have e2 := hs.op y
  have k1 := intsAV_eq h1
  have k2 := intsAV_eq h2
  rw [k1] at e1; rw [k2] at e2
  refine ⟨_, ?_, .val _⟩
  simp only [execOp, rep_ints e1 h3, rep_ints e2 h4, Sem.run_bind, run_eqGuard_agg w _ t x y _ _ ht.gd, Result.andThen_ok, binOp, Op.equal]
  have := equal_flat ht.out (a := xs.map (·.2)) (b := ys.map (·.2)) (by rw [← h3]; simp) (by rw [← h4]; simp) w
  unfold Op.equal at this
  simp [this, eqI_eq]

theorem Q_max (x y : Operand) (t1 t2 : TypeId) (h : bindK (intkAV (st.op x)) fun p => bindK (intkAV (st.op y)) fun q => K 0 ⟨.val (.int p.1 (max p.2 q.2)), []⟩) :
    AO P ⟨dst, .call ⟨.builtin .max, #[x, y], #[t1, t2]⟩, ty, pos, af, g⟩ nid st K := by
  obtain ⟨p, h1, q, h2, h3⟩ := h
  refine ⟨0, _, .pure fun c ρ D J a w hs => ?_, h3⟩
  have e1 := hs.op x; have e2 := hs.op y
  rw [intkAV_eq h1] at e1; rw [intkAV_eq h2] at e2
  refine ⟨_, ?_, .val _⟩
  have hm : (if q.2 > p.2 then q.2 else p.2) = max p.2 q.2 := by split <;> omega
  simp [execOp, resolve, invoke, builtin, rep_val_inv e1, rep_val_inv e2, Builtin.max_, Builtin.max2, hm]
theorem Q_indexV {n : Nat} {e : TypeId} (t : TypeId) (x ix : Operand) [ht : TArr P t n e] [ha : TAgg P e false] [hz : TSiz P e 1] (h : bindK (aggAV (st.op x)) fun cs => bindK (intAV (st.op ix)) fun i => (0 ≤ i ∧ i < n) ∧ bindK cs[i.toNat]? fun y => K 0 ⟨y, []⟩) :
    AO P ⟨dst, .index t x ix, ty, pos, af, g⟩ nid st K := by
  obtain ⟨cs, h1, i, h2, h3, y, h4, h5⟩ := h
  refine ⟨0, _, .pure fun c ρ D J a w hs => ?_, h5⟩
  have e1 := hs.op x; have e2 := hs.op ix
  rw [aggAV_eq h1] at e1
  obtain ⟨k, hk⟩ := intAV_eq h2
  rw [hk] at e2
  have e2 := rep_val_inv e2
  obtain ⟨hlt, rfl⟩ := List.getElem?_eq_some_iff.1 h4
  generalize hv : a.eval x = v at e1
  cases e1 with
  | agg vs _ hs' hr =>
    have hj : i.toNat < vs.size := by omega
    exact ⟨vs.getD i.toNat undef, by simp [execOp, hv, e2, Instr.index, asIntOf, run_underlying (run_arrOf ht.out), h3, run_siz hz.out, part, run_isAggB ha.out, hj, Array.getD], hr _ hlt⟩
theorem Q_indexVA {n m : Nat} {e : TypeId} (t : TypeId) (x ix : Operand) [ht : TArr P t n e] [ha : TAgg P e true] [hz : TSiz P e m] (h : bindK (aggAV (st.op x)) fun cs => bindK (intAV (st.op ix)) fun i => (0 ≤ i ∧ i < n) ∧ i.toNat * m + m ≤ cs.length ∧ K 0 ⟨.agg ((cs.drop (i.toNat * m)).take m), []⟩) :
    AO P ⟨dst, .index t x ix, ty, pos, af, g⟩ nid st K := by
  obtain ⟨cs, h1, i, h2, h3, h4, h5⟩ := h
  refine ⟨0, _, .pure fun c ρ D J a w hs => ?_, h5⟩
  have e1 := hs.op x; have e2 := hs.op ix
  rw [aggAV_eq h1] at e1
  obtain ⟨k, hk⟩ := intAV_eq h2
  rw [hk] at e2
  have e2 := rep_val_inv e2
  generalize hv : a.eval x = v at e1
  cases e1 with
  | agg vs _ hs' hr =>
    refine ⟨.agg (vs.extract (i.toNat * m) (i.toNat * m + m)), by simp [execOp, hv, e2, Instr.index, asIntOf, run_underlying (run_arrOf ht.out), h3, run_siz hz.out, part, run_isAggB ha.out], .agg _ _ (by simp; omega) (fun j hj => ?_)⟩
    have hj' : i.toNat * m + j < cs.length := by simp at hj; omega
    have := hr (i.toNat * m + j) hj'
    have hj2 : i.toNat * m + j < vs.size := by omega
    have hj3 : j < m := by simp at hj; omega
    have e2 : (vs.extract (i.toNat * m) (i.toNat * m + m)).getD j undef = vs.getD (i.toNat * m + j) undef := by
      have h1 : j < min (i.toNat * m + m) vs.size - i.toNat * m := by omega
      simp [Array.getD_eq_getD_getElem?, Array.getElem?_extract, h1, hj2]
    rw [e2]
    simpa using this
theorem Q_indexS (t : TypeId) (x ix : Operand) [ht : TStr P t] (h : bindK (strAV (st.op x)) fun s => bindK (intAV (st.op ix)) fun i => (0 ≤ i ∧ i < s.size) ∧ K 0 ⟨.val (.int .u8 (s.get! i.toNat).toNat), []⟩) :
    AO P ⟨dst, .index t x ix, ty, pos, af, g⟩ nid st K := by
  obtain ⟨s, h1, i, h2, h3, h5⟩ := h
  refine ⟨0, _, .pure fun c ρ D J a w hs => ?_, h5⟩
  have e1 := hs.op x; have e2 := hs.op ix
  rw [strAV_eq h1] at e1
  have e1 := rep_val_inv e1
  obtain ⟨k, hk⟩ := intAV_eq h2
  rw [hk] at e2
  have e2 := rep_val_inv e2
  have hj : i.toNat < s.size := by omega
  refine ⟨_, ?_, .val _⟩
  have e3 : s[i.toNat]? = some (s.get! i.toNat) := by
    rw [getElem?_pos s i.toNat hj]
    congr 1
    simp [ByteArray.get!, ByteArray.getElem_eq_getElem_data]
    rw [getElem!_pos]
  simp [execOp, e1, e2, Instr.index, asIntOf, run_underlying (run_isStrB ht.out), h3.1, e3]

end
end Go.Sy
