/-
  The walk through code: lists of operations, branches, blocks, loops, and the call of a function. No condition.
-/
import Derived.Test.YtphpjgfhdoobjaaSym7
import Derived.Deep.LoopGhost
set_option linter.unusedVariables false
set_option linter.unusedSectionVars false
set_option linter.unusedSimpArgs false
namespace Go.Sy

def Lift (c : Ctx) (Q : Exit → Nat → St → Prop) : Exit → Act → World → Prop := fun e a w => ∃ nid st ρ J, Sim c ρ (· < nid) J st a w ∧ Q e nid st

def AC (P : Program) (code : Code) (Q : Exit → Nat → St → Prop) (nid : Nat) (st : St) : Prop :=
  ∀ (c : Ctx) (ρ : Rho) (J : Nat → Prop) (a : Act) (w : World), Sim c ρ (· < nid) J st a w → code.wp P (Lift c Q) a w

def AL (P : Program) (ops : Array Oper) (Q : Exit → Nat → St → Prop) (rest : List Oper) (nid : Nat) (st : St) : Prop :=
  ∀ (c : Ctx) (ρ : Rho) (J : Nat → Prop) (a : Act) (w : World), Sim c ρ (· < nid) J st a w → wpList P ops (Lift c Q) rest a w

section
variable {P : Program} {Q : Exit → Nat → St → Prop} {nid : Nat} {st : St}

theorem AC_skip (h : Q .normal nid st) : AC P .skip Q nid st := fun c ρ J a w hs => wp_skip ⟨nid, st, ρ, J, hs, h⟩
theorem AC_label {l : Nat} (h : Q .normal nid st) : AC P (.label l) Q nid st := fun c ρ J a w hs => wp_label ⟨nid, st, ρ, J, hs, h⟩
theorem AC_ret (h : Q .ret nid st) : AC P .ret Q nid st := fun c ρ J a w hs => wp_ret ⟨nid, st, ρ, J, hs, h⟩
theorem AC_exit {id : Nat} (h : Q (.exit id) nid st) : AC P (.exit id) Q nid st := fun c ρ J a w hs => wp_exit ⟨nid, st, ρ, J, hs, h⟩

theorem AC_mono {code : Code} {Q' : Exit → Nat → St → Prop} (h : AC P code Q nid st) (hq : ∀ e nid st, Q e nid st → Q' e nid st) : AC P code Q' nid st :=
  fun c ρ J a w hs => wp_mono (h c ρ J a w hs) fun _ _ _ ⟨n, s, r, j, h1, h2⟩ => ⟨n, s, r, j, h1, hq _ _ _ h2⟩

/-- What follows a part of the code, by its exit. -/
def Thn (K : Nat → St → Prop) (Q : Exit → Nat → St → Prop) : Exit → Nat → St → Prop
  | .normal, n, s => K n s
  | e, n, s => Q e n s
theorem Thn_normal {K : Nat → St → Prop} {n : Nat} {s : St} (h : K n s) : Thn K Q .normal n s := h
theorem Thn_exit {K : Nat → St → Prop} {n i : Nat} {s : St} (h : Q (.exit i) n s) : Thn K Q (.exit i) n s := h
theorem Thn_ret {K : Nat → St → Prop} {n : Nat} {s : St} (h : Q .ret n s) : Thn K Q .ret n s := h

theorem AC_seq {x y : Code} (h : AC P x (Thn (AC P y Q) Q) nid st) : AC P (.seq x y) Q nid st := fun c ρ J a w hs => wp_seq (wp_mono (h c ρ J a w hs) fun e a w ⟨n, s, r, j, h1, h2⟩ => by
  cases e with
  | normal => exact h2 c r j a w h1
  | _ => exact ⟨n, s, r, j, h1, h2⟩)

theorem AC_seq_k {x y : Code} (h : ∀ K : Nat → St → Prop, (∀ n s, AC P y Q n s → K n s) → AC P x (Thn K Q) nid st) : AC P (.seq x y) Q nid st := AC_seq (h _ fun _ _ h => h)

theorem AC_cond {o : Operand} {x y : Code} (h : ∃ b, st.op o = .val (.bool b) ∧ (b = true → AC P x Q nid st) ∧ (b = false → AC P y Q nid st)) : AC P (.cond o x y) Q nid st := fun c ρ J a w hs => by
  obtain ⟨b, hb, ht, hf⟩ := h
  have e := hs.op o; rw [hb] at e
  exact wp_cond_split (rep_val_inv e) (fun e => ht e c ρ J a w hs) (fun e => hf e c ρ J a w hs)

/-- What follows a block. -/
def Blk (i : Nat) (Q : Exit → Nat → St → Prop) : Exit → Nat → St → Prop
  | .exit j, n, s => if j = i then Q .normal n s else Q (.exit j) n s
  | e, n, s => Q e n s
theorem Blk_normal {i n : Nat} {s : St} (h : Q .normal n s) : Blk i Q .normal n s := h
theorem Blk_ret {i n : Nat} {s : St} (h : Q .ret n s) : Blk i Q .ret n s := h
theorem Blk_here {i n : Nat} {s : St} (h : Q .normal n s) : Blk i Q (.exit i) n s := by show if i = i then _ else _; rw [if_pos rfl]; exact h
theorem Blk_other {i j n : Nat} {s : St} (hne : Nat.beq j i = false) (h : Q (.exit j) n s) : Blk i Q (.exit j) n s := by
  show if j = i then _ else _
  rw [if_neg (fun e => by subst e; rw [Nat.beq_refl] at hne; cases hne)]; exact h

theorem AC_block {i : Nat} {x : Code} (h : AC P x (Blk i Q) nid st) : AC P (.block i x) Q nid st := fun c ρ J a w hs => wp_block (wp_mono (h c ρ J a w hs) fun e a w ⟨n, s, r, j, h1, h2⟩ => by
  cases e with
  | exit k =>
    simp only [Exit.inBlock, Blk] at h2 ⊢
    split
    · rename_i hk; rw [if_pos hk] at h2; exact ⟨n, s, r, j, h1, h2⟩
    · rename_i hk; rw [if_neg hk] at h2; exact ⟨n, s, r, j, h1, h2⟩
  | _ => exact ⟨n, s, r, j, h1, h2⟩)

/-! ### forgetting and renaming -/

def ren (τ : Nat → Nat) : AV → AV
  | .val v => .val v
  | .isl z cs n => .isl z cs n
  | .ipt cs k => .ipt cs k
  | .sl id off len es => .sl (τ id) off len es
  | .pt id off => .pt (τ id) off
  | .mp id => .mp (τ id)
  | .agg cs => .agg (cs.map (ren τ))
  | .tup cs => .tup (cs.map (ren τ))
  | .fn f cs => .fn f (cs.map (ren τ))
  | .any => .any

def renO (τ : Nat → Nat) : AObj → AObj
  | .cells cs e => .cells (cs.map (ren τ)) e
  | .map ag n l => .map ag n (l.map fun x => (x.1, ren τ x.2))
  | .full cs e => .full (cs.map (ren τ)) e

def bnd (n : Nat) : AV → Prop
  | .sl id _ _ _ => id < n
  | .pt id _ => id < n
  | .mp id => id < n
  | .agg cs => ∀ x ∈ cs, bnd n x
  | .tup cs => ∀ x ∈ cs, bnd n x
  | .fn _ cs => ∀ x ∈ cs, bnd n x
  | _ => True

def bndO (n : Nat) : AObj → Prop
  | .cells cs _ => ∀ x ∈ cs, bnd n x
  | .map _ _ l => ∀ x ∈ l, bnd n x.2
  | .full cs _ => ∀ x ∈ cs, bnd n x

theorem Rep.unren {w : World} {J : Nat → Prop} {ρ ρ0 : Rho} {τ : Nat → Nat} {n : Nat} {v : Value} {y : AV} (h : Rep w J ρ v y) (hρ : ∀ id, id < n → ρ0 id = ρ (τ id)) :
    ∀ {x : AV}, y = ren τ x → bnd n x → Rep w J ρ0 v x := by
  have lists : ∀ {vs : Array Value} {cs ds : List AV}, vs.size = cs.length → cs = ds.map (ren τ) → vs.size = ds.length := by
    intro vs cs ds h1 h2; rw [h1, h2]; simp
  induction h generalizing ρ0 with
  | val v => intro x hx _; cases x <;> simp [ren] at hx; subst hx; exact .val _
  | any v => intro x hx _; cases x <;> simp [ren] at hx; exact .any _
  | inil => intro x hx _; cases x <;> simp [ren] at hx; obtain ⟨rfl, rfl, rfl⟩ := hx; exact .inil
  | iemp a cap => intro x hx _; cases x <;> simp [ren] at hx; obtain ⟨rfl, rfl, rfl⟩ := hx; exact .iemp a cap
  | isl b off len cap cells u hb hc h0 h1 h2 ih => intro x hx _; cases x <;> simp [ren] at hx; obtain ⟨rfl, rfl, rfl⟩ := hx; exact .isl b off _ cap _ u hb hc h0 h1 h2
  | ipt b off k cells u hb h0 h1 h2 ih => intro x hx _; cases x <;> simp [ren] at hx; obtain ⟨rfl, rfl⟩ := hx; exact .ipt b off _ _ u hb h0 h1 h2
  | sl b s id off len es cap h hc hs => intro x hx hb; cases x <;> simp [ren] at hx; obtain ⟨rfl, rfl, rfl, rfl⟩ := hx; exact .sl b s _ _ _ _ cap (by rw [hρ _ (show _ < n by simpa [bnd] using hb)]; exact h) hc hs
  | pt b s id off h => intro x hx hb; cases x <;> simp [ren] at hx; obtain ⟨rfl, rfl⟩ := hx; exact .pt b s _ _ (by rw [hρ _ (show _ < n by simpa [bnd] using hb)]; exact h)
  | mp b s id h => intro x hx hb; cases x <;> simp [ren] at hx; subst hx; exact .mp b s _ (by rw [hρ _ (show _ < n by simpa [bnd] using hb)]; exact h)
  | agg vs cs hs h ih =>
    intro x hx hb; cases x <;> simp [ren] at hx
    rename_i ds
    simp only [bnd] at hb
    refine .agg vs ds (lists hs hx) (fun j hj => ?_)
    exact ih j (by rw [hx]; simpa using hj) hρ (by simp [hx]) (hb _ (List.getElem_mem hj))
  | tup vs cs hs h ih =>
    intro x hx hb; cases x <;> simp [ren] at hx
    rename_i ds
    simp only [bnd] at hb
    refine .tup vs ds (lists hs hx) (fun j hj => ?_)
    exact ih j (by rw [hx]; simpa using hj) hρ (by simp [hx]) (hb _ (List.getElem_mem hj))
  | fn f vs cs hs h ih =>
    intro x hx hb; cases x <;> simp [ren] at hx
    obtain ⟨rfl, hx⟩ := hx
    rename_i ds
    simp only [bnd] at hb
    refine .fn _ vs ds (lists hs hx) (fun j hj => ?_)
    exact ih j (by rw [hx]; simpa using hj) hρ (by simp [hx]) (hb _ (List.getElem_mem hj))

theorem ObjRep.unren {w : World} {J : Nat → Prop} {ρ ρ0 : Rho} {τ : Nat → Nat} {n b s : Nat} {o : AObj} (h : ObjRep w J ρ b s (renO τ o)) (hρ : ∀ id, id < n → ρ0 id = ρ (τ id)) (hb : bndO n o) : ObjRep w J ρ0 b s o := by
  cases o with
  | cells cs e =>
    obtain ⟨c, hc, h1, h2, h3, h4⟩ := h
    refine ⟨c, hc, h1, by simpa using h2, fun j hj => ⟨(h3 j (by simpa using hj)).1, ?_⟩, h4⟩
    exact (h3 j (by simpa using hj)).2.unren hρ (by simp) (hb _ (List.getElem_mem hj))
  | map ag kn l =>
    obtain ⟨ms, k, hc, h1, h2⟩ := h
    refine ⟨ms, k, hc, by simpa using h1, fun j hj => ?_⟩
    have h3 := h2 j (by simpa using hj)
    have h4 := hb _ (List.getElem_mem hj)
    exact ⟨by simpa using h3.1, h3.2.unren hρ (by simp) h4⟩
  | full cs e =>
    obtain ⟨c, hc, h1, h2, h3, h4⟩ := h
    refine ⟨c, hc, h1, by simpa using h2, fun j hj => ⟨(h3 j (by simpa using hj)).1, ?_⟩, h4⟩
    exact (h3 j (by simpa using hj)).2.unren hρ (by simp) (hb _ (List.getElem_mem hj))

/-- Each id that stands in a list of objects, with its object (the first that stands there). -/
def liveIds (l : List (Nat × Option AObj)) : List Nat := l.map (·.1)

/-- st0 says no more than st, under other names: object 'i' of st0 is object 'σ i' of st. -/
structure Sub (σ : List Nat) (st0 st : St) : Prop where
  n : st0.n = st.n
  env : ∀ p ∈ st0.env, p.2 = .any ∨ st.ev p.1 = ren (σ.getD · 0) p.2
  ebnd : ∀ p ∈ st0.env, bnd σ.length p.2
  obj : ∀ p ∈ st0.objs, ∀ o, p.2 = some o → p.1 < σ.length ∧ st.ob (σ.getD p.1 0) = some (renO (σ.getD · 0) o) ∧ bndO σ.length o
  inj : σ.Nodup
  m : st0.m = st.m
  pin : σ.take st.m = List.range st.m

theorem look_mem {α : Type} {l : List (Nat × α)} {t : Nat} {v : α} (h : look l t = some v) : (t, v) ∈ l := by
  induction l with
  | nil => simp [look] at h
  | cons x l ih =>
    obtain ⟨k, u⟩ := x
    simp only [look] at h
    split at h
    · rename_i e; subst e; cases h; exact List.mem_cons_self
    · exact List.mem_cons_of_mem _ (ih h)

theorem Sub.sim {σ : List Nat} {st0 st : St} {c : Ctx} {ρ : Rho} {D J : Nat → Prop} {a : Act} {w : World} (h : Sub σ st0 st) (hs : Sim c ρ D J st a w) :
    Sim c (fun i => if i < σ.length then ρ (σ.getD i 0) else none) (· < σ.length) J st0 a w := by
  have hρ : ∀ id, id < σ.length → (fun i => if i < σ.length then ρ (σ.getD i 0) else none) id = ρ (σ.getD id 0) := fun id hid => by simp [hid]
  have hob : ∀ id o, st0.ob id = some o → id < σ.length ∧ st.ob (σ.getD id 0) = some (renO (σ.getD · 0) o) ∧ bndO σ.length o := by
    intro id o ho
    unfold St.ob at ho
    cases hl : look st0.objs id with
    | none => simp [hl] at ho
    | some x => rw [hl] at ho; exact h.obj _ (look_mem hl) o (by simpa using ho)
  refine ⟨hs.defers, by rw [hs.tmps, h.n], ?_, ?_, ?_, ?_, hs.jok, hs.jlt, hs.ilt, ?_, hs.kept⟩
  · intro t
    unfold St.ev
    cases hl : look st0.env t with
    | none => exact .any _
    | some x =>
      have hm := look_mem hl
      rcases h.env _ hm with he | he
      · simp only [Option.getD_some]; simp only at he; rw [he]; exact .any _
      · have := hs.env t
        simp only at he
        exact this.unren hρ he (h.ebnd _ hm)
  · intro id o ho
    obtain ⟨h1, h2, h3⟩ := hob id o ho
    obtain ⟨b, s, k1, k2, k3, k4⟩ := hs.obj _ _ h2
    exact ⟨b, s, (hρ id h1).trans k1, k2.unren hρ h3, k3, k4⟩
  · intro id id' o o' b s s' ho ho' hr hr'
    obtain ⟨h1, h2, _⟩ := hob id o ho
    obtain ⟨h1', h2', _⟩ := hob id' o' ho'
    replace hr := (hρ id h1).symm.trans hr; replace hr' := (hρ id' h1').symm.trans hr'
    have := hs.inj _ _ _ _ b s s' h2 h2' hr hr'
    simp only [List.getD_eq_getElem?_getD, List.getElem?_eq_getElem h1, List.getElem?_eq_getElem h1', Option.getD_some] at this
    exact (List.getElem_inj h.inj).1 this
  · intro id p hp
    refine Classical.byContradiction fun hn => ?_
    have : (fun i => if i < σ.length then ρ (σ.getD i 0) else none) id = none := if_neg hn
    have hx := this.symm.trans hp
    cases hx
  · intro j hj
    rw [h.m] at hj
    obtain ⟨p, h1, h2⟩ := hs.pin j hj
    have hlen : st.m ≤ σ.length := by have := congrArg List.length h.pin; simp at this; omega
    have hj2 : σ.getD j 0 = j := by
      have := congrArg (·[j]?) h.pin
      simp only [List.getElem?_take_of_lt hj] at this
      rw [List.getElem?_range hj] at this
      simp [List.getD_eq_getElem?_getD, this]
    exact ⟨p, h1, (hρ j (by omega)).trans (by rw [hj2]; exact h2)⟩

theorem AC_sub {code : Code} (σ : List Nat) (st0 : St) (hsub : Sub σ st0 st) (h : AC P code Q σ.length st0) : AC P code Q nid st :=
  fun c ρ J a w hs => h c _ J a w (hsub.sim hs)

/-- A loop: 'I i' the state at a round's head, by a ghost i that a measure takes down. -/
theorem AC_loop {code : Code} {ι : Type} (σ : List Nat) (m : Nat) (I : ι → St) (μ : ι → Nat) (i0 : ι) (hm : σ.length = m) (h0 : Sub σ (I i0) st)
    (round : ∀ i, AC P code (Thn (fun _ s => ∃ (σ' : List Nat) (j : ι), σ'.length = m ∧ Sub σ' (I j) s ∧ μ j < μ i) Q) m (I i)) : AC P (.loop code) Q nid st := fun c ρ J a w hs => by
  refine wp_loop_ghost (fun n a w => ∃ i ρ J, Sim c ρ (· < m) J (I i) a w ∧ μ i = n) (μ i0) ⟨i0, _, J, hm ▸ h0.sim hs, rfl⟩ ?_
  rintro n a w ⟨i, ρ, J, hs, rfl⟩
  refine wp_mono (round i c ρ J a w hs) ?_
  rintro e a' w' ⟨nid', st', ρ', J', hs', hq⟩
  cases e with
  | normal =>
    obtain ⟨σ', j, hl, hsub, hlt⟩ := hq
    exact ⟨μ j, hlt, j, _, J', hl ▸ hsub.sim hs', rfl⟩
  | _ => exact ⟨nid', st', ρ', J', hs', hq⟩

/-! ### lists of operations -/

theorem AL_nil {ops : Array Oper} (h : Q .normal nid st) : AL P ops Q [] nid st := fun c ρ J a w hs => wpList_nil ⟨nid, st, ρ, J, hs, h⟩

theorem AC_region {id : Nat} {ops : Array Oper} (h : AL P ops Q ops.toList nid st) : AC P (.region id ops false) Q nid st := fun c ρ J a w hs => wp_region_list (h c ρ J a w hs)

theorem AC_region_lit {id : Nat} {l : List Oper} (h : AL P l.toArray Q l nid st) : AC P (.region id l.toArray false) Q nid st := AC_region (by simpa using h)

def dstOk (n : Nat) : Option Nat → Bool
  | some d => d < n
  | none => true

theorem dstOk_spec {n : Nat} {dst : Option Nat} (h : dstOk n dst = true) : ∀ d, dst = some d → d < n := by
  intro d hd; subst hd; simpa [dstOk] using h

/-- One operation, with no guard. -/
theorem AL_op {ops : Array Oper} {rest : List Oper} {dst : Option Nat} {op : Op} {ty : TypeId} {pos : String} {af : Array Edge} {k : Nat} {e : Eff}
    (ho : OpT P ⟨dst, op, ty, pos, af, none⟩ nid k st e) (hd : dstOk st.n dst = true) (h : AL P ops Q rest (nid + k) (st.app dst e)) : AL P ops Q (⟨dst, op, ty, pos, af, none⟩ :: rest) nid st := fun c ρ J a w hs => by
  refine wpList_plain rfl fun K hK => ho c ρ (· < nid) J a w hs (fun i h1 h2 h3 => by omega) K _ fun v w' ρ' J' p => hK _ _ ?_
  exact h c ρ' J' _ w' (hs.app p (dstOk_spec hd) (fun i hi => by rcases hi with hi | hi <;> omega))

def dstAt (ops : Array Oper) (j : Nat) : Option Nat := (ops[j]?).bind (·.dst)

theorem yielded_of {c : Ctx} {ρ : Rho} {D J : Nat → Prop} {a : Act} {w : World} (hs : Sim c ρ D J st a w) {ops : Array Oper} {j t : Nat} {b : Bool} (ht : dstAt ops j = some t) (hb : st.ev t = .val (.bool b)) (hn : t < st.n) : yielded ops a.tmps j = some b := by
  have := hs.env t
  rw [hb] at this
  have e := rep_val_inv this
  have htn : t < a.tmps.size := by rw [hs.tmps]; exact hn
  have e' : a.tmps[t]? = some (.bool b) := by
    rw [Array.getElem?_eq_getElem htn]
    simpa [Array.getD, htn] using e
  unfold yielded dstAt at *
  rw [ht, Option.bind_some, e']

/-- One operation whose guard lets it run. -/
theorem AL_run {ops : Array Oper} {rest : List Oper} {dst : Option Nat} {op : Op} {ty : TypeId} {pos : String} {af : Array Edge} {k j t : Nat} {b : Bool} {e : Eff}
    (ht : dstAt ops j = some t) (hb : st.ev t = .val (.bool b)) (hn : t < st.n)
    (ho : OpT P ⟨dst, op, ty, pos, af, some (j, b)⟩ nid k st e) (hd : dstOk st.n dst = true) (h : AL P ops Q rest (nid + k) (st.app dst e)) : AL P ops Q (⟨dst, op, ty, pos, af, some (j, b)⟩ :: rest) nid st := fun c ρ J a w hs => by
  refine wpList_step fun K hK => ?_
  have hy := yielded_of hs ht hb hn
  rw [if_pos (by simp [Region.wanted, hy])]
  refine ho c ρ (· < nid) J a w hs (fun i h1 h2 h3 => by omega) K _ fun v w' ρ' J' p => hK _ _ ?_
  exact h c ρ' J' _ w' (hs.app p (dstOk_spec hd) (fun i hi => by rcases hi with hi | hi <;> omega))

/-- What a passed operation leaves. -/
def noV : AV := .val undef
theorem no_yield {c : Ctx} {ρ : Rho} {D J : Nat → Prop} {a : Act} {w : World} (hs : Sim c ρ D J st a w) {ops : Array Oper} {j t : Nat} (ht : dstAt ops j = some t) (hb : st.ev t = noV) (hn : t < st.n) : yielded ops a.tmps j = none := by
  have := hs.env t
  rw [hb] at this
  have e := rep_val_inv this
  have htn : t < a.tmps.size := by rw [hs.tmps]; exact hn
  have e' : a.tmps[t]? = some undef := by
    rw [Array.getElem?_eq_getElem htn]
    simpa [Array.getD, htn] using e
  unfold yielded dstAt at *
  rw [ht, Option.bind_some, e']
  rfl
theorem Sim.skip {c : Ctx} {ρ : Rho} {D J : Nat → Prop} {a : Act} {w : World} (hs : Sim c ρ D J st a w) (dst : Option Nat) (hd : dstOk st.n dst = true) : Sim c ρ D J (st.put dst noV) (a.put dst undef) w := by
  have p : Post c 0 0 st ⟨noV, []⟩ ρ ρ J J w w undef := ⟨Nat.le_refl _, rfl, rfl, rfl, fun _ _ _ => rfl, fun _ _ h => h, fun _ _ h => .inl h, fun _ h => h, fun _ h => .inl h, .val _, fun id o h => by simp [look] at h, fun id id' o o' b s s' h => by simp [look] at h⟩
  have := hs.app (dst := dst) (D' := D) p (dstOk_spec hd) (fun i hi => by rcases hi with hi | hi; exact hi; omega)
  have e : st.app dst ⟨noV, []⟩ = st.put dst noV := by cases dst <;> rfl
  rw [e] at this; exact this

/-- One operation whose guard passes it over. -/
theorem AL_pass {ops : Array Oper} {rest : List Oper} {dst : Option Nat} {op : Op} {ty : TypeId} {pos : String} {af : Array Edge} {j t : Nat} {b : Bool}
    (ht : dstAt ops j = some t) (hb : st.ev t = .val (.bool !b)) (hn : t < st.n) (hd : dstOk st.n dst = true) (h : AL P ops Q rest nid (st.put dst noV)) : AL P ops Q (⟨dst, op, ty, pos, af, some (j, b)⟩ :: rest) nid st := fun c ρ J a w hs => by
  refine wpList_step fun K hK => ?_
  have hy := yielded_of hs ht hb hn
  rw [if_neg (by simp [Region.wanted, hy])]
  exact hK _ _ (h c ρ J _ w (hs.skip dst hd))

/-- The same where the guard's own operation was passed over. -/
theorem AL_pass' {ops : Array Oper} {rest : List Oper} {dst : Option Nat} {op : Op} {ty : TypeId} {pos : String} {af : Array Edge} {j t : Nat} {b : Bool}
    (ht : dstAt ops j = some t) (hb : st.ev t = noV) (hn : t < st.n) (hd : dstOk st.n dst = true) (h : AL P ops Q rest nid (st.put dst noV)) : AL P ops Q (⟨dst, op, ty, pos, af, some (j, b)⟩ :: rest) nid st := fun c ρ J a w hs => by
  refine wpList_step fun K hK => ?_
  have hy := no_yield hs ht hb hn
  rw [if_neg (by simp [Region.wanted, hy])]
  exact hK _ _ (h c ρ J _ w (hs.skip dst hd))

/-- What a guard's value leaves to be shown. -/
def gAV (b : Bool) (x : AV) (K1 K2 : Prop) : Prop := (∃ b', x = .val (.bool b') ∧ (b' = b → K1) ∧ (b' = (!b) → K2)) ∨ (x = noV ∧ K2)
theorem g_bool {b b' : Bool} {K1 K2 : Prop} : gAV b (.val (.bool b')) K1 K2 = ((b' = b → K1) ∧ (b' = (!b) → K2)) := by
  unfold gAV
  refine propext ⟨fun h => ?_, fun h => .inl ⟨b', rfl, h⟩⟩
  rcases h with ⟨b'', h1, h2⟩ | ⟨h1, h2⟩
  · cases h1; exact h2
  · cases h1
theorem g_no {b : Bool} {K1 K2 : Prop} : gAV b noV K1 K2 = K2 := by
  unfold gAV
  refine propext ⟨fun h => ?_, fun h => .inr ⟨rfl, h⟩⟩
  rcases h with ⟨b'', h1, h2⟩ | ⟨h1, h2⟩
  · cases h1
  · exact h2

/-- A guard that is not decided: both ways. -/
theorem AL_ways {ops : Array Oper} {l : List Oper} {st0 : Bool → St} (b : Bool) (he : st = st0 b) (h : ∀ x, x = b → AL P ops Q l nid (st0 x)) : AL P ops Q l nid st := he ▸ h b rfl

/-! ### calls -/

/-- What a function does, told of abstract values: 'objs': the objects that are handed in, the first m of them by a pointer that stays; 'r': its value; 'objs'': the objects behind the call. -/
def ACall (P : Program) (f : FuncId) (args : List AV) (objs : List AObj) (m : Nat) (r : AV) (objs' : List AObj) : Prop :=
  ∀ (w : World) (A I : Nat → Prop) (ρ : Rho) (vs : Array Value), vs.size = args.length → (∀ j (h : j < args.length), Rep w A ρ (vs.getD j undef) args[j]) →
    (∀ b, A b → b < w.heap.size ∧ ¬ I b) → (∀ b, I b → b < w.heap.size) →
    (∀ j (h : j < objs.length), ∃ b s, ρ j = some (b, s) ∧ I b ∧ ObjRep w A ρ b s objs[j]) → (∀ j p, ρ j = some p → j < objs.length) →
    (∀ i j b s s', ρ i = some (b, s) → ρ j = some (b, s') → i = j) →
    Calls P f vs w fun e w' => ∃ v ρ' J', e = .returned v ∧ Rep w' J' ρ' v r ∧ (∀ b, J' b → b < w'.heap.size ∧ (A b ∨ I b ∨ w.heap.size ≤ b)) ∧ Kept ⟨w, A, I, ρ⟩ w' ∧
      (∀ j, j < m → ρ' j = ρ j) ∧ (∀ j p, ρ' j = some p → j < objs'.length) ∧
      (∀ j (h : j < objs'.length), ∃ b s, ρ' j = some (b, s) ∧ ObjRep w' J' ρ' b s objs'[j] ∧ (I b ∨ w.heap.size ≤ b) ∧ ¬ J' b) ∧
      (∀ i j b s s', ρ' i = some (b, s) → ρ' j = some (b, s') → i = j)

/-- The value that a function's results make, in a state. -/
def resAV (P : Program) (st : St) : ResultVar → Option AV
  | .tmp t => some (st.ev t)
  | .cell x t => match st.ev x with
    | .pt id off => match st.ob id, isAggB P t, siz P t with
      | some (.cells cs _), some true, some n => if off + n ≤ cs.length then some (.agg ((cs.drop off).take n)) else none
      | some (.cells cs _), some false, _ => cs[off]?
      | _, _, _ => none
    | _ => none

def resultAV (P : Program) (st : St) (rs : List ResultVar) : Option AV := match rs.mapM (resAV P st) with
  | some [x] => some x
  | some l => some (.tup l)
  | none => none

def resSem (tmps : Array Value) : ResultVar → Sem Value
  | .tmp t => pure (tmps.getD t undef)
  | .cell y t => do loadVar t (← asAddr (tmps.getD y undef))

theorem run_resAV {c : Ctx} {ρ : Rho} {D J : Nat → Prop} {a : Act} {w : World} (hs : Sim c ρ D J st a w) {rv : ResultVar} {x : AV} (h : resAV P st rv = some x) :
    ∃ v, (resSem a.tmps rv).run P w = .ok v w ∧ Rep w J ρ v x := by
  cases rv with
  | tmp t => simp only [resAV, Option.some.injEq] at h; subst h; exact ⟨_, rfl, hs.env t⟩
  | cell y t =>
    simp only [resAV] at h
    have hy := hs.env y
    split at h
    · rename_i id off he
      rw [he] at hy
      generalize hv : a.tmps.getD y undef = v at hy
      cases hy with
      | pt b s _ _ hρ =>
        split at h
        · rename_i cs e n h1 h2 h3
          split at h
          · rename_i hle
            simp only [Option.some.injEq] at h; subst h
            obtain ⟨b', s', hρ', hob, _⟩ := hs.obj _ _ h1
            rw [hρ] at hρ'; cases hρ'
            obtain ⟨u, hu⟩ := cell_obj hob
            obtain ⟨vs, hr, hrep⟩ := run_loadCells_rep (P := P) (w := w) (J := J) (ρ := ρ) (b := b) (off := off) (n := n) (cs := (cs.drop off).take n) (fun j => u (off + j)) (fun j hj => by
              simp at hj
              have := hu (off + j) (by omega)
              exact ⟨this.1, by simpa using this.2.2⟩) (by simp; omega)
            exact ⟨.agg vs, by simp only [resSem, hv]; simp [asAddr, loadVar, run_isAggB h2, run_siz h3, hr], hrep⟩
          · cases h
        · rename_i cs e z h1 h2
          obtain ⟨b', s', hρ', hob, _⟩ := hs.obj _ _ h1
          rw [hρ] at hρ'; cases hρ'
          obtain ⟨u, hu⟩ := cell_obj hob
          obtain ⟨hlt, rfl⟩ := List.getElem?_eq_some_iff.1 h
          exact ⟨u off, by simp only [resSem, hv]; simp [asAddr, loadVar, run_isAggB h2, (hu off hlt).1], (hu off hlt).2.2⟩
        · cases h
    · cases h

theorem run_results {c : Ctx} {ρ : Rho} {D J : Nat → Prop} {a : Act} {w : World} (hs : Sim c ρ D J st a w) {fn : Func} {x : AV} (h : resultAV P st fn.results.toList = some x) :
    ∃ v, (results fn a.tmps).run P w = .ok v w ∧ Rep w J ρ v x := by
  have key : ∀ (l : List ResultVar) (xs : List AV), l.mapM (resAV P st) = some xs → ∃ vs : List Value, (l.mapM (resSem a.tmps)).run P w = .ok vs w ∧
      vs.length = xs.length ∧ ∀ j (hj : j < xs.length), Rep w J ρ (vs.getD j undef) xs[j] := by
    intro l
    induction l with
    | nil => intro xs h; simp at h; subst h; exact ⟨[], rfl, rfl, fun j hj => by simp at hj⟩
    | cons rv l ih =>
      intro xs h
      simp only [List.mapM_cons, Option.bind_eq_bind, Option.bind_eq_some_iff] at h
      obtain ⟨y, hy, ys, hys, he⟩ := h
      simp at he; subst he
      obtain ⟨v, h1, h2⟩ := run_resAV (P := P) hs hy
      obtain ⟨vs, h3, h4, h5⟩ := ih ys hys
      refine ⟨v :: vs, ?_, by simp [h4], fun j hj => ?_⟩
      · rw [List.mapM_cons, Sem.run_bind, h1, Result.andThen_ok, Sem.run_bind, h3, Result.andThen_ok]; rfl
      · cases j with
        | zero => simpa using h2
        | succ j => simpa using h5 j (by simpa using hj)
  unfold resultAV at h
  cases hm : fn.results.toList.mapM (resAV P st) with
  | none => simp [hm] at h
  | some xs =>
    obtain ⟨vs, h1, h2, h3⟩ := key _ _ hm
    have hrun : (results fn a.tmps).run P w = .ok (if h : vs.toArray.size = 1 then vs.toArray[0] else .tuple vs.toArray) w := by
      show (do let vs ← fn.results.mapM (resSem a.tmps); pure (if h : vs.size = 1 then vs[0] else .tuple vs) : Sem Value).run P w = _
      rw [Array.mapM_eq_mapM_toList, Sem.run_bind, Sem.run_map]
      rw [h1]
      simp only [Result.andThen_ok, Sem.run_pure]
    refine ⟨_, hrun, ?_⟩
    rw [hm] at h
    match xs, vs, h2, h3, h with
    | [x'], [v'], _, h3, h =>
      simp only [Option.some.injEq] at h; subst h
      simpa using h3 0 (by simp)
    | [], [], _, h3, h =>
      simp only [Option.some.injEq] at h; subst h
      exact .tup _ _ rfl (fun j hj => by simp at hj)
    | x1 :: x2 :: l, vs, h2, h3, h =>
      simp only [Option.some.injEq] at h; subst h
      have hne : ¬ vs.toArray.size = 1 := by simp at h2 ⊢; omega
      rw [dif_neg hne]
      exact .tup _ _ (by simpa using h2) (fun j hj => by simpa [Array.getD_eq_getD_getElem?, List.getD_eq_getElem?_getD] using h3 j hj)

end
end Go.Sy
