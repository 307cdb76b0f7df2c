/-
  The rules by which the symbolic walk goes through operations; what the types say comes by instances. No condition.
-/
import Derived.Test.YtphpjgfhdoobjaaSym9
set_option linter.unusedVariables false
set_option linter.unusedSectionVars false
set_option linter.unusedSimpArgs false
namespace Go.Sy

class TAgg (P : Program) (t : TypeId) (b : outParam Bool) : Prop where out : isAggB P t = some b
class TSiz (P : Program) (t : TypeId) (n : outParam Nat) : Prop where out : siz P t = some n
class TByt (P : Program) (t : TypeId) (n : outParam Nat) : Prop where out : byt P t = some n
class TZero (P : Program) (t : TypeId) (zs : outParam (List Value)) : Prop where out : zcells P t = some zs
class TElem (P : Program) (t : TypeId) (e : outParam TypeId) : Prop where out : elemOf P t = some e
class TArr (P : Program) (t : TypeId) (n : outParam Nat) (e : outParam TypeId) : Prop where out : arrOf P t = some (n, e)
class TField (P : Program) (t f : Nat) (off : outParam Nat) (ft : outParam TypeId) : Prop where out : fieldOf P t f = some (off, ft)
class TKind (P : Program) (t : TypeId) (k : outParam IntKind) : Prop where out : kindOf P t = some k
class TPlaces (P : Program) (t : TypeId) (l : outParam (List (Nat × Nat))) : Prop where out : placesOf P t = some l
class TStr (P : Program) (t : TypeId) : Prop where out : isStrB P t = true
class TPlain (P : Program) (f : FuncId) : Prop where out : plainFn P f = true

/-- One operation, and what follows it. -/
def AO (P : Program) (o : Oper) (nid : Nat) (st : St) (K : Nat → Eff → Prop) : Prop := ∃ k e, OpT P o nid k st e ∧ K k e

section
variable {P : Program} {Q : Exit → Nat → St → Prop} {nid : Nat} {st : St} {ops : Array Oper} {rest : List Oper} {dst : Option Nat} {op : Op} {ty : TypeId} {pos : String} {af : Array Edge} {g : Option (Nat × Bool)} {K : Nat → Eff → Prop}

theorem AL_go {n m d : Nat} {env : List (Nat × AV)} {objs : List (Nat × Option AObj)} (hd : dstOk n (some d) = true)
    (h : ∀ K : Nat → AV → List (Nat × Option AObj) → Prop, (∀ nid' v objs', AL P ops Q rest nid' ⟨n, m, (d, v) :: env, objs'⟩ → K nid' v objs') →
      AO P ⟨some d, op, ty, pos, af, none⟩ nid ⟨n, m, env, objs⟩ (fun k e => K (nid + k) e.v (e.upd ++ objs))) :
    AL P ops Q (⟨some d, op, ty, pos, af, none⟩ :: rest) nid ⟨n, m, env, objs⟩ := by
  obtain ⟨k, e, h1, h2⟩ := h (fun nid' v objs' => AL P ops Q rest nid' ⟨n, m, (d, v) :: env, objs'⟩) (fun _ _ _ h => h)
  exact AL_op h1 hd h2

theorem AL_go0 {n m : Nat} {env : List (Nat × AV)} {objs : List (Nat × Option AObj)}
    (h : ∀ K : Nat → AV → List (Nat × Option AObj) → Prop, (∀ nid' v objs', AL P ops Q rest nid' ⟨n, m, env, objs'⟩ → K nid' v objs') →
      AO P ⟨none, op, ty, pos, af, none⟩ nid ⟨n, m, env, objs⟩ (fun k e => K (nid + k) e.v (e.upd ++ objs))) :
    AL P ops Q (⟨none, op, ty, pos, af, none⟩ :: rest) nid ⟨n, m, env, objs⟩ := by
  obtain ⟨k, e, h1, h2⟩ := h (fun nid' v objs' => AL P ops Q rest nid' ⟨n, m, env, objs'⟩) (fun _ _ _ h => h)
  exact AL_op h1 rfl h2

/-- A guarded operation that is known to run; that is known to be passed over; that is not known. -/
theorem AL_guard {n m d j t : Nat} {env : List (Nat × AV)} {objs : List (Nat × Option AObj)} {b : Bool} (ht : dstAt ops j = some t) (hn : dstOk n (some t) = true)
    (h : ∀ K1 K2 : Prop, (AL P ops Q (⟨some d, op, ty, pos, af, none⟩ :: rest) nid ⟨n, m, env, objs⟩ → K1) → (AL P ops Q rest nid ⟨n, m, (d, noV) :: env, objs⟩ → K2) →
      gAV b (St.ev ⟨n, m, env, objs⟩ t) K1 K2) (hd : dstOk n (some d) = true) :
    AL P ops Q (⟨some d, op, ty, pos, af, some (j, b)⟩ :: rest) nid ⟨n, m, env, objs⟩ := by
  have hn' : t < n := by simpa [dstOk] using hn
  rcases h _ _ (fun h => h) (fun h => h) with ⟨b', hb, h1, h2⟩ | ⟨hb, h2⟩
  · by_cases e : b' = b
    · subst e
      intro c ρ J a w hs
      have := h1 rfl c ρ J a w hs
      unfold wpList at this ⊢
      rw [if_pos (by simp [Region.wanted])] at this
      rw [if_pos (by simp [Region.wanted, yielded_of hs ht hb hn'])]
      exact this
    · have e' : b' = !b := by cases b <;> cases b' <;> simp_all
      subst e'
      exact AL_pass ht hb hn' hd (h2 rfl)
  · exact AL_pass' ht hb hn' hd h2

/-! ### code -/

theorem AC_cond_k {o : Operand} {x y : Code} (h : ∀ K1 K2 : Prop, (AC P x Q nid st → K1) → (AC P y Q nid st → K2) → ∃ b, st.op o = .val (.bool b) ∧ (b = true → K1) ∧ (b = false → K2)) : AC P (.cond o x y) Q nid st :=
  AC_cond (h _ _ (fun h => h) (fun h => h))

/-- What is kept of a state: some slots; of each object what it holds now. -/
def keepE (env : List (Nat × AV)) : List Nat → List (Nat × AV)
  | [] => []
  | t :: ks => match look env t with
    | some v => (t, v) :: keepE env ks
    | none => keepE env ks

theorem look_keepE (env : List (Nat × AV)) (ks : List Nat) (t : Nat) : look (keepE env ks) t = none ∨ look (keepE env ks) t = look env t := by
  induction ks with
  | nil => exact .inl rfl
  | cons k ks ih =>
    simp only [keepE]
    split
    · rename_i v hv
      simp only [look]
      split
      · rename_i e; subst e; exact .inr hv.symm
      · exact ih
    · exact ih

def dropKey (k : Nat) : List (Nat × Option AObj) → List (Nat × Option AObj)
  | [] => []
  | (i, o) :: l => if i = k then dropKey k l else (i, o) :: dropKey k l

def dedupO : Nat → List (Nat × Option AObj) → List (Nat × Option AObj)
  | 0, l => l
  | _, [] => []
  | f + 1, (i, some o) :: l => (i, some o) :: dedupO f (dropKey i l)
  | f + 1, (i, none) :: l => dedupO f (dropKey i l)

theorem look_dropKey (k : Nat) (l : List (Nat × Option AObj)) (t : Nat) : look (dropKey k l) t = if t = k then none else look l t := by
  induction l with
  | nil => simp [dropKey, look]
  | cons x l ih =>
    obtain ⟨i, o⟩ := x
    simp only [dropKey]
    split
    · rename_i e; subst e; rw [ih]; simp only [look]; split <;> simp_all
    · rename_i e; simp only [look, ih]; split
      · rename_i e2; subst e2; rw [if_neg e]
      · rfl

theorem look_dedupO (f : Nat) : ∀ (l : List (Nat × Option AObj)) (t : Nat), (look (dedupO f l) t).join = (look l t).join := by
  induction f with
  | zero => intro l t; cases l <;> rfl
  | succ f ih =>
    intro l t
    match l with
    | [] => rfl
    | (i, some o) :: l => simp only [dedupO, look]; split
                          · rfl
                          · rename_i h; rw [ih, look_dropKey, if_neg h]
    | (i, none) :: l =>
      simp only [dedupO, look, ih, look_dropKey]; split
      · rfl
      · rfl

theorem AC_keep {code : Code} {n m : Nat} {env : List (Nat × AV)} {objs : List (Nat × Option AObj)} (ks : List Nat) (f : Nat)
    (h : ∀ K : List (Nat × AV) → List (Nat × Option AObj) → Prop, (∀ env' objs', AC P code Q nid ⟨n, m, env', objs'⟩ → K env' objs') → K (keepE env ks) (dedupO f objs)) : AC P code Q nid ⟨n, m, env, objs⟩ := fun c ρ J a w hs => by
  refine h (fun env' objs' => AC P code Q nid ⟨n, m, env', objs'⟩) (fun _ _ h => h) c ρ J a w ?_
  have hob : ∀ id, (⟨n, m, keepE env ks, dedupO f objs⟩ : St).ob id = (⟨n, m, env, objs⟩ : St).ob id := fun id => look_dedupO f objs id
  refine ⟨hs.defers, hs.tmps, fun t => ?_, fun id o ho => hs.obj id o (by rw [← hob]; exact ho), fun id id' o o' b s s' h1 h2 => hs.inj id id' o o' b s s' (by rw [← hob]; exact h1) (by rw [← hob]; exact h2), hs.dom, hs.jok, hs.jlt, hs.ilt, hs.pin, hs.kept⟩
  have := hs.env t
  unfold St.ev at this ⊢
  rcases look_keepE env ks t with h | h
  · simp only [h, Option.getD_none]; exact .any _
  · simp only [h]; exact this

/-- Sub, told so that simp reckons it. -/
def subEnv (σ : List Nat) (st : St) : List (Nat × AV) → Prop
  | [] => True
  | (t, v) :: l => (v = .any ∨ st.ev t = ren (σ.getD · 0) v) ∧ bnd σ.length v ∧ subEnv σ st l
def subObj (σ : List Nat) (st : St) : List (Nat × Option AObj) → Prop
  | [] => True
  | (_, none) :: l => subObj σ st l
  | (i, some o) :: l => i < σ.length ∧ st.ob (σ.getD i 0) = some (renO (σ.getD · 0) o) ∧ bndO σ.length o ∧ subObj σ st l

theorem subEnv_mem {σ : List Nat} {l : List (Nat × AV)} (h : subEnv σ st l) : ∀ p ∈ l, (p.2 = .any ∨ st.ev p.1 = ren (σ.getD · 0) p.2) ∧ bnd σ.length p.2 := by
  induction l with
  | nil => intro p hp; cases hp
  | cons x l ih =>
    obtain ⟨t, v⟩ := x
    obtain ⟨h1, h2, h3⟩ := h
    intro p hp
    rcases List.mem_cons.1 hp with rfl | hp
    · exact ⟨h1, h2⟩
    · exact ih h3 p hp
theorem subObj_mem {σ : List Nat} {l : List (Nat × Option AObj)} (h : subObj σ st l) : ∀ p ∈ l, ∀ o, p.2 = some o → p.1 < σ.length ∧ st.ob (σ.getD p.1 0) = some (renO (σ.getD · 0) o) ∧ bndO σ.length o := by
  induction l with
  | nil => intro p hp; cases hp
  | cons x l ih =>
    obtain ⟨t, v⟩ := x
    intro p hp o ho
    cases v with
    | none =>
      rcases List.mem_cons.1 hp with rfl | hp
      · cases ho
      · exact ih h p hp o ho
    | some v =>
      obtain ⟨h1, h2, h3, h4⟩ := h
      rcases List.mem_cons.1 hp with rfl | hp
      · cases ho; exact ⟨h1, h2, h3⟩
      · exact ih h4 p hp o ho

theorem Sub.mk' {σ : List Nat} {n m : Nat} {env env' : List (Nat × AV)} {objs objs' : List (Nat × Option AObj)} (h1 : subEnv σ ⟨n, m, env, objs⟩ env') (h2 : subObj σ ⟨n, m, env, objs⟩ objs') (h3 : σ.Nodup) (h4 : σ.take m = List.range m) :
    Sub σ ⟨n, m, env', objs'⟩ ⟨n, m, env, objs⟩ :=
  ⟨rfl, fun p hp => (subEnv_mem h1 p hp).1, fun p hp => (subEnv_mem h1 p hp).2, fun p hp o ho => subObj_mem h2 p hp o ho, h3, rfl, h4⟩

theorem Ends.mk' {fn : Func} {objs0 : List AObj} {m : Nat} {r : AV} {objs' : List AObj} {e : Exit} {n : Nat} {env : List (Nat × AV)} {objs : List (Nat × Option AObj)} (he : e = .normal ∨ e = .ret) (σ : List Nat)
    (h1 : σ.length = objs'.length) (h2 : subObj σ ⟨n, m, env, objs⟩ ((idx 0 objs').map fun p => (p.1, some p.2))) (h3 : σ.Nodup) (h4 : σ.take m = List.range m)
    (h5 : resultAV P ⟨n, m, env, objs⟩ fn.results.toList = some (ren (σ.getD · 0) r)) (h6 : bnd σ.length r) : Ends P fn objs0 m r objs' e ⟨n, m, env, objs⟩ :=
  ⟨he, _, σ, Frz.refl _, Sub.mk' trivial h2 h3 h4, h1, rfl, h5, h6⟩

/-! ### values -/

theorem R_move (x : Operand) (h : K 0 ⟨st.op x, []⟩) : AO P ⟨dst, .move x, ty, pos, af, g⟩ nid st K := ⟨_, _, opT_move x, h⟩
theorem R_assign (x : Operand) (h : K 0 ⟨st.op x, []⟩) : AO P ⟨dst, .assign x, ty, pos, af, g⟩ nid st K := ⟨_, _, opT_assign x, h⟩

theorem R_pick (x y z : Operand) (h : ∃ b, st.op x = .val (.bool b) ∧ K 0 ⟨pickAV b (st.op y) (st.op z), []⟩) : AO P ⟨dst, .pick x y z, ty, pos, af, g⟩ nid st K := by
  obtain ⟨b, h1, h2⟩ := h; exact ⟨_, _, opT_pick x y z b h1, h2⟩

/-- Two plain values: what eqGuard asks of them is nothing. -/
def plainEq : Value → Value → Bool
  | .nilIface, .nilIface => false
  | .agg _, .agg _ => false
  | _, _ => true

theorem eqGuard_plain (bo : BinOp) (t : TypeId) (x y : Operand) (u v : Value) (h : plainEq u v = true) (w : World) : (eqGuard bo t x y u v).run P w = .ok () w := by
  unfold eqGuard
  cases bo <;> first | rfl | (simp only [Bool.not_true, Bool.false_eq_true, if_false]; split <;> first | (simp [plainEq] at h; done) | rfl)

def binAV (P : Program) (bo : BinOp) (t : TypeId) (x y : AV) : Option AV := match x, y with
  | .val u, .val v => if plainEq u v then (pbin P bo t u v).map ofV else none
  | _, _ => none

section
variable {t : TypeId} {k : IntKind} {a b : Int}
theorem bin_add : binAV P .add t (.val (.int k a)) (.val (.int k b)) = some (.val (.int k (k.wrap (a + b)))) := by simp [binAV, plainEq, pbin, ofV]
theorem bin_sub : binAV P .sub t (.val (.int k a)) (.val (.int k b)) = some (.val (.int k (k.wrap (a - b)))) := by simp [binAV, plainEq, pbin, ofV]
theorem bin_mul : binAV P .mul t (.val (.int k a)) (.val (.int k b)) = some (.val (.int k (k.wrap (a * b)))) := by simp [binAV, plainEq, pbin, ofV]
theorem bin_quo : binAV P .quo t (.val (.int k a)) (.val (.int k b)) = if b = 0 then none else some (.val (.int k (k.wrap (a.tdiv b)))) := by by_cases h : b = 0 <;> simp [binAV, plainEq, pbin, ofV, h]
theorem bin_rem : binAV P .rem t (.val (.int k a)) (.val (.int k b)) = if b = 0 then none else some (.val (.int k (a.tmod b))) := by by_cases h : b = 0 <;> simp [binAV, plainEq, pbin, ofV, h]
theorem bin_and : binAV P .and t (.val (.int k a)) (.val (.int k b)) = some (.val (.int k (k.wrap (BitVec.ofInt k.bits a &&& BitVec.ofInt k.bits b).toNat))) := by simp [binAV, plainEq, pbin, ofV]
theorem bin_or : binAV P .or t (.val (.int k a)) (.val (.int k b)) = some (.val (.int k (k.wrap (BitVec.ofInt k.bits a ||| BitVec.ofInt k.bits b).toNat))) := by simp [binAV, plainEq, pbin, ofV]
theorem bin_xor : binAV P .xor t (.val (.int k a)) (.val (.int k b)) = some (.val (.int k (k.wrap (BitVec.ofInt k.bits a ^^^ BitVec.ofInt k.bits b).toNat))) := by simp [binAV, plainEq, pbin, ofV]
theorem bin_andNot : binAV P .andNot t (.val (.int k a)) (.val (.int k b)) = some (.val (.int k (k.wrap (BitVec.ofInt k.bits a &&& ~~~ BitVec.ofInt k.bits b).toNat))) := by simp [binAV, plainEq, pbin, ofV]
theorem bin_shl {j : IntKind} : binAV P .shl t (.val (.int k a)) (.val (.int j b)) = if b < 0 then none else some (.val (.int k (k.wrap (a * 2 ^ (min b.toNat k.bits))))) := by by_cases h : b < 0 <;> simp [binAV, plainEq, pbin, ofV, h]
theorem bin_shr {j : IntKind} : binAV P .shr t (.val (.int k a)) (.val (.int j b)) = if b < 0 then none else some (.val (.int k (a.fdiv (2 ^ (min b.toNat k.bits))))) := by by_cases h : b < 0 <;> simp [binAV, plainEq, pbin, ofV, h]
theorem bin_eql : binAV P .eql t (.val (.int k a)) (.val (.int k b)) = some (.val (.bool (decide (a = b)))) := by simp [binAV, plainEq, pbin, ofV]
theorem bin_neq : binAV P .neq t (.val (.int k a)) (.val (.int k b)) = some (.val (.bool (decide (a ≠ b)))) := by simp [binAV, plainEq, pbin, ofV]
theorem bin_lss : binAV P .lss t (.val (.int k a)) (.val (.int k b)) = some (.val (.bool (decide (a < b)))) := by simp [binAV, plainEq, pbin, ofV]
theorem bin_leq : binAV P .leq t (.val (.int k a)) (.val (.int k b)) = some (.val (.bool (decide (a ≤ b)))) := by simp [binAV, plainEq, pbin, ofV]
theorem bin_gtr : binAV P .gtr t (.val (.int k a)) (.val (.int k b)) = some (.val (.bool (decide (b < a)))) := by simp [binAV, plainEq, pbin, ofV]
theorem bin_geq : binAV P .geq t (.val (.int k a)) (.val (.int k b)) = some (.val (.bool (decide (b ≤ a)))) := by simp [binAV, plainEq, pbin, ofV]
theorem bin_eqlS {x y : ByteArray} : binAV P .eql t (.val (.string x)) (.val (.string y)) = some (.val (.bool (decide (x = y)))) := by simp [binAV, plainEq, pbin, ofV]
theorem bin_neqS {x y : ByteArray} : binAV P .neq t (.val (.string x)) (.val (.string y)) = some (.val (.bool (decide (x ≠ y)))) := by simp [binAV, plainEq, pbin, ofV]
theorem bin_addS {x y : ByteArray} : binAV P .add t (.val (.string x)) (.val (.string y)) = if ((x.size + y.size : Nat) : Int) ≤ 9223372036854775807 then some (.val (.string (x ++ y))) else none := by
  simp only [binAV, plainEq, pbin, if_true]; split <;> simp [ofV]
end

class TBool (P : Program) (t : TypeId) : Prop where out : isBoolB P t = true
theorem bin_eqlB {t : TypeId} [h : TBool P t] {x y : Bool} : binAV P .eql t (.val (.bool x)) (.val (.bool y)) = some (.val (.bool (x == y))) := by simp [binAV, plainEq, pbin, ofV, h.out]
theorem bin_neqB {t : TypeId} [h : TBool P t] {x y : Bool} : binAV P .neq t (.val (.bool x)) (.val (.bool y)) = some (.val (.bool (x != y))) := by simp [binAV, plainEq, pbin, ofV, h.out]
class TPtr (P : Program) (t : TypeId) : Prop where out : isPtrB P t = true
theorem bin_eqlP {t : TypeId} [h : TPtr P t] {y : Option Addr} : binAV P .eql t (.val (.pointer none)) (.val (.pointer y)) = some (.val (.bool y.isNone)) := by simp [binAV, plainEq, pbin, ofV, h.out]
theorem bin_neqP {t : TypeId} [h : TPtr P t] {y : Option Addr} : binAV P .neq t (.val (.pointer none)) (.val (.pointer y)) = some (.val (.bool !y.isNone)) := by simp [binAV, plainEq, pbin, ofV, h.out]

theorem R_bin (bo : BinOp) (t : TypeId) (x y : Operand) (t' : TypeId) (h : ∃ r, binAV P bo t (st.op x) (st.op y) = some r ∧ K 0 ⟨r, []⟩) : AO P ⟨dst, .binOp bo t x y t', ty, pos, af, g⟩ nid st K := by
  obtain ⟨r, h1, h2⟩ := h
  unfold binAV at h1
  split at h1
  · rename_i u v hu hv
    split at h1
    · rename_i hp
      cases hb : pbin P bo t u v with
      | none => simp [hb] at h1
      | some q => simp [hb] at h1; subst h1; exact ⟨_, _, opT_binOp bo t x y t' u v q hu hv hb (eqGuard_plain bo t x y u v hp), h2⟩
    · cases h1
  · cases h1

/-- '==' between a slice or a pointer and nil. -/
theorem eq_isl {t e : TypeId} [h : TElem P t e] {z : Bool} {cs : List AV} {n : Nat} : eqAV P t (.isl z cs n) (.isl true [] 0) = some z := by unfold eqAV; rw [run_elemOf h.out]; rfl
theorem eq_sl {t e : TypeId} [h : TElem P t e] {id off n es : Nat} : eqAV P t (.sl id off n es) (.isl true [] 0) = some false := by unfold eqAV; rw [run_elemOf h.out]; rfl
theorem eq_pt {t : TypeId} [h : TPtr P t] {id off : Nat} : eqAV P t (.pt id off) (.val (.pointer none)) = some false := by obtain ⟨e, hu⟩ := run_isPtrB h.out; unfold eqAV; rw [hu]
theorem eq_ipt {t : TypeId} [h : TPtr P t] {cs : List AV} {off : Nat} : eqAV P t (.ipt cs off) (.val (.pointer none)) = some false := by obtain ⟨e, hu⟩ := run_isPtrB h.out; unfold eqAV; rw [hu]

theorem R_eqnil (t : TypeId) (x y : Operand) (t' : TypeId) (h : ∃ b, eqAV P t (st.op x) (st.op y) = some b ∧ K 0 ⟨.val (.bool b), []⟩) : AO P ⟨dst, .binOp .eql t x y t', ty, pos, af, g⟩ nid st K := by
  obtain ⟨b, h1, h2⟩ := h; exact ⟨_, _, opT_eqnil t x y t' b h1, h2⟩
theorem R_neqnil (t : TypeId) (x y : Operand) (t' : TypeId) (h : ∃ b, eqAV P t (st.op x) (st.op y) = some b ∧ K 0 ⟨.val (.bool !b), []⟩) : AO P ⟨dst, .binOp .neq t x y t', ty, pos, af, g⟩ nid st K := by
  obtain ⟨b, h1, h2⟩ := h; exact ⟨_, _, opT_neqnil t x y t' b h1, h2⟩

theorem R_not (t : TypeId) (x : Operand) (h : ∃ b, st.op x = .val (.bool b) ∧ K 0 ⟨.val (.bool !b), []⟩) : AO P ⟨dst, .unOp .not t x, ty, pos, af, g⟩ nid st K := by
  obtain ⟨b, h1, h2⟩ := h; exact ⟨_, _, opT_unOp_not t x b h1, h2⟩
theorem R_neg (t : TypeId) (x : Operand) (h : ∃ k n, st.op x = .val (.int k n) ∧ K 0 ⟨.val (.int k (k.wrap (0 - n))), []⟩) : AO P ⟨dst, .unOp .neg t x, ty, pos, af, g⟩ nid st K := by
  obtain ⟨k, n, h1, h2⟩ := h; exact ⟨_, _, opT_unOp_neg t x k n h1, h2⟩

theorem R_convert {ks k : IntKind} (s t : TypeId) (x : Operand) [hs : TKind P s ks] [ht : TKind P t k] (h : ∃ k' n, st.op x = .val (.int k' n) ∧ K 0 ⟨.val (.int k (k.wrap n)), []⟩) : AO P ⟨dst, .convert s t x, ty, pos, af, g⟩ nid st K := by
  obtain ⟨k', n, h1, h2⟩ := h; exact ⟨_, _, opT_convert_int s t x k k' n ks hs.out ht.out h1, h2⟩

theorem R_nilCheck (x : Operand) (h : (st.op x).notNil = true ∧ K 0 ⟨st.op x, []⟩) : AO P ⟨dst, .nilCheck x, ty, pos, af, g⟩ nid st K := ⟨_, _, opT_nilCheck x h.1, h.2⟩

/-- The place of a part behind a pointer. -/
def addPt (n : Nat) : AV → Option AV
  | .pt id off => some (.pt id (off + n))
  | .ipt cs off => some (.ipt cs (off + n))
  | _ => none

theorem R_fieldAddr {fo n : Nat} {ft : TypeId} (s : TypeId) (x : Operand) (f : Nat) [hf : TField P s f fo ft] [hz : TSiz P ft (n + 1)] (h : ∃ y, addPt fo (st.op x) = some y ∧ K 0 ⟨y, []⟩) : AO P ⟨dst, .fieldAddr s x f, ty, pos, af, g⟩ nid st K := by
  obtain ⟨y, h1, h2⟩ := h
  unfold addPt at h1
  split at h1
  · rename_i id off hx; cases h1; exact ⟨_, _, opT_fieldAddr_pt s x f id off fo n ft hx hf.out hz.out, h2⟩
  · rename_i cs off hx; cases h1; exact ⟨_, _, opT_fieldAddr_ipt s x f cs off fo n ft hx hf.out hz.out, h2⟩
  · cases h1

/-- The place of an element. -/
def idxAV (i es : Nat) : AV → Option (AV × Nat)
  | .sl id off len _ => some (.pt id (off + i * es), len)
  | .isl _ cs len => some (.ipt cs (i * es), len)
  | _ => none

theorem R_indexAddr {e : TypeId} {es : Nat} (t : TypeId) (x ix : Operand) [he : TElem P t e] [hz : TSiz P e es] (h : ∃ k i y len, st.op ix = .val (.int k i) ∧ idxAV i.toNat es (st.op x) = some (y, len) ∧ (0 ≤ i ∧ i < len) ∧ K 0 ⟨y, []⟩) : AO P ⟨dst, .indexAddr t x ix, ty, pos, af, g⟩ nid st K := by
  obtain ⟨k, i, y, len, h1, h2, h3, h4⟩ := h
  unfold idxAV at h2
  split at h2
  · rename_i id off l es' hx
    cases h2
    by_cases hes : es' = es
    · subst hes; exact ⟨_, _, opT_indexAddr_sl t x ix id off _ es' k i e hx h1 he.out hz.out h3, h4⟩
    · exact ⟨_, _, opT_indexAddr_sl' t x ix id off _ es es' k i e hx h1 he.out hz.out h3, h4⟩
  · rename_i z cs l hx
    cases h2
    exact ⟨_, _, opT_indexAddr_isl t x ix z cs _ es k i e hx h1 he.out hz.out h3, h4⟩
  · cases h2

theorem R_indexArr {e : TypeId} {n es : Nat} (t : TypeId) (x ix : Operand) [he : TArr P t n e] [hz : TSiz P e es] (h : ∃ k i y, st.op ix = .val (.int k i) ∧ addPt (i.toNat * es) (st.op x) = some y ∧ (0 ≤ i ∧ i < n) ∧ K 0 ⟨y, []⟩) : AO P ⟨dst, .indexAddr t x ix, ty, pos, af, g⟩ nid st K := by
  obtain ⟨k, i, y, h1, h2, h3, h4⟩ := h
  unfold addPt at h2
  split at h2
  · rename_i id off hx; cases h2; exact ⟨_, _, opT_indexAddr_arr t x ix id off n es k i e hx h1 he.out hz.out h3, h4⟩
  · rename_i cs off hx; cases h2; exact ⟨_, _, opT_indexAddr_iarr t x ix cs off n es k i e hx h1 he.out hz.out h3, h4⟩
  · cases h2

/-- The cells that a pointer points into, and where. -/
def cellsOb (off : Nat) : Option AObj → Option (List AV × Nat)
  | some (.cells cs _) => some (cs, off)
  | _ => none
def cellsAt (st : St) : AV → Option (List AV × Nat)
  | .pt id off => cellsOb off (st.ob id)
  | .ipt cs off => some (cs, off)
  | _ => none

theorem R_load (t : TypeId) (x : Operand) [ha : TAgg P t false] (h : ∃ cs off y, cellsAt st (st.op x) = some (cs, off) ∧ cs[off]? = some y ∧ K 0 ⟨y, []⟩) : AO P ⟨dst, .load t x, ty, pos, af, g⟩ nid st K := by
  obtain ⟨cs, off, y, h1, h2, h3⟩ := h
  unfold cellsAt at h1
  split at h1
  · rename_i id o hx
    unfold cellsOb at h1
    split at h1
    · rename_i cs' e ho; cases h1; exact ⟨_, _, opT_load_pt t x id _ _ e y hx ho ha.out h2, h3⟩
    · cases h1
  · rename_i cs' o hx; cases h1; exact ⟨_, _, opT_load_ipt t x _ _ y hx ha.out h2, h3⟩
  · cases h1

theorem R_loadAgg {n : Nat} (t : TypeId) (x : Operand) [ha : TAgg P t true] [hz : TSiz P t n] (h : ∃ cs off, cellsAt st (st.op x) = some (cs, off) ∧ off + n ≤ cs.length ∧ K 0 ⟨.agg ((cs.drop off).take n), []⟩) : AO P ⟨dst, .load t x, ty, pos, af, g⟩ nid st K := by
  obtain ⟨cs, off, h1, h2, h3⟩ := h
  unfold cellsAt at h1
  split at h1
  · rename_i id o hx
    unfold cellsOb at h1
    split at h1
    · rename_i cs' e ho; cases h1; exact ⟨_, _, opT_load_pt_agg t x id _ n _ e hx ho ha.out hz.out h2, h3⟩
    · cases h1
  · rename_i cs' o hx; cases h1; exact ⟨_, _, opT_load_ipt_agg t x _ n _ hx ha.out hz.out h2, h3⟩
  · cases h1

theorem R_field {fo : Nat} {ft : TypeId} (s : TypeId) (x : Operand) (f : Nat) [hf : TField P s f fo ft] [ha : TAgg P ft false] (h : ∃ cs y, st.op x = .agg cs ∧ cs[fo]? = some y ∧ K 0 ⟨y, []⟩) : AO P ⟨dst, .field s x f, ty, pos, af, g⟩ nid st K := by
  obtain ⟨cs, y, h1, h2, h3⟩ := h; exact ⟨_, _, opT_field s x f cs fo ft y h1 hf.out ha.out h2, h3⟩

theorem R_extract (x : Operand) (i : Nat) (h : ∃ cs y, st.op x = .tup cs ∧ cs[i]? = some y ∧ K 0 ⟨y, []⟩) : AO P ⟨dst, .extract x i, ty, pos, af, g⟩ nid st K := by
  obtain ⟨cs, y, h1, h2, h3⟩ := h; exact ⟨_, _, opT_extract x i cs y h1 h2, h3⟩

theorem R_lenStr (t : TypeId) (x : Operand) [ht : TStr P t] (h : ∃ s, st.op x = .val (.string s) ∧ K 0 ⟨.val (.int .i64 s.size), []⟩) : AO P ⟨dst, .call ⟨.builtin .len, #[x], #[t]⟩, ty, pos, af, g⟩ nid st K := by
  obtain ⟨s, h1, h2⟩ := h; exact ⟨_, _, opT_len t x s.size (by rw [h1]; rfl) (by rw [h1]; unfold lenType; rw [run_isStrB ht.out]), h2⟩

def lenSl : AV → Option Nat
  | .isl _ _ n => some n
  | .sl _ _ n _ => some n
  | _ => none

theorem R_len {e : TypeId} (t : TypeId) (x : Operand) [ht : TElem P t e] (h : ∃ n, lenSl (st.op x) = some n ∧ K 0 ⟨.val (.int .i64 n), []⟩) : AO P ⟨dst, .call ⟨.builtin .len, #[x], #[t]⟩, ty, pos, af, g⟩ nid st K := by
  obtain ⟨n, h1, h2⟩ := h
  have hu := run_elemOf ht.out
  refine ⟨_, _, opT_len t x n ?_ ?_, h2⟩
  · revert h1; unfold lenSl lenAV; split <;> simp_all
  · revert h1; unfold lenSl lenType; rw [hu]; split <;> simp_all

end
end Go.Sy
