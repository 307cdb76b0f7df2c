/-
  The symbolic walk: calls by contract in the form in which a walk uses them; own objects that are frozen; small equations for simp. No condition.
-/
import Derived.Test.YtdghbmidfebkaaaSym13
set_option linter.unusedVariables false
set_option linter.unusedSimpArgs false
namespace Go.Sy

theorem bnd_val {n : Nat} {v : Value} : bnd n (.val v) = True := by simp [bnd]
theorem bnd_isl {n : Nat} {z : Bool} {cs : List AV} {k : Nat} : bnd n (.isl z cs k) = True := by simp [bnd]
theorem bnd_ipt {n : Nat} {cs : List AV} {k : Nat} : bnd n (.ipt cs k) = True := by simp [bnd]
theorem bnd_any {n : Nat} : bnd n .any = True := by simp [bnd]
theorem bnd_sl {n id off len es : Nat} : bnd n (.sl id off len es) = (id < n) := by simp [bnd]
theorem bnd_pt {n id off : Nat} : bnd n (.pt id off) = (id < n) := by simp [bnd]
theorem bnd_mp {n id : Nat} : bnd n (.mp id) = (id < n) := by simp [bnd]
theorem bnd_agg {n : Nat} {cs : List AV} : bnd n (.agg cs) = ∀ x ∈ cs, bnd n x := by simp [bnd]
theorem bnd_tup {n : Nat} {cs : List AV} : bnd n (.tup cs) = ∀ x ∈ cs, bnd n x := by simp [bnd]
theorem bnd_fn {n f : Nat} {cs : List AV} : bnd n (.fn f cs) = ∀ x ∈ cs, bnd n x := by simp [bnd]
theorem bndO_cells {n : Nat} {cs : List AV} {e : TypeId} : bndO n (.cells cs e) = ∀ x ∈ cs, bnd n x := rfl
theorem bndO_map {n : Nat} {es : List (AV × AV)} : bndO n (.map es) = ∀ x ∈ es, bnd n x.1 ∧ bnd n x.2 := rfl
theorem noImm_val {v : Value} : noImm (.val v) = True := by simp [noImm]
theorem noImm_isl {z : Bool} {cs : List AV} {k : Nat} : noImm (.isl z cs k) = (cs = []) := by simp [noImm]
theorem noImm_ipt {cs : List AV} {k : Nat} : noImm (.ipt cs k) = (cs = []) := by simp [noImm]
theorem noImm_any : noImm .any = True := by simp [noImm]
theorem noImm_sl {id off len es : Nat} : noImm (.sl id off len es) = True := by simp [noImm]
theorem noImm_pt {id off : Nat} : noImm (.pt id off) = True := by simp [noImm]
theorem noImm_mp {id : Nat} : noImm (.mp id) = True := by simp [noImm]
theorem noImm_agg {cs : List AV} : noImm (.agg cs) = ∀ x ∈ cs, noImm x := by simp [noImm]
theorem noImm_tup {cs : List AV} : noImm (.tup cs) = ∀ x ∈ cs, noImm x := by simp [noImm]
theorem noImm_fn {f : Nat} {cs : List AV} : noImm (.fn f cs) = ∀ x ∈ cs, noImm x := by simp [noImm]
theorem noImmO_cells {cs : List AV} {e : TypeId} : noImmO (.cells cs e) = ∀ x ∈ cs, noImm x := rfl

section
variable {P : Program} {st : St} {a b c d e : ResultVar}
theorem resultAV_1 : resultAV P st [a] = resAV P st a := by
  simp only [resultAV, List.mapM_cons, List.mapM_nil]
  cases resAV P st a <;> rfl
theorem resultAV_2 : resultAV P st [a, b] = (resAV P st a).bind fun x => (resAV P st b).bind fun y => some (.tup [x, y]) := by
  simp only [resultAV, List.mapM_cons, List.mapM_nil]
  cases resAV P st a <;> cases resAV P st b <;> rfl
theorem resultAV_3 : resultAV P st [a, b, c] = (resAV P st a).bind fun x => (resAV P st b).bind fun y => (resAV P st c).bind fun z => some (.tup [x, y, z]) := by
  simp only [resultAV, List.mapM_cons, List.mapM_nil]
  cases resAV P st a <;> cases resAV P st b <;> cases resAV P st c <;> rfl
theorem resultAV_4 : resultAV P st [a, b, c, d] = (resAV P st a).bind fun x => (resAV P st b).bind fun y => (resAV P st c).bind fun z => (resAV P st d).bind fun u => some (.tup [x, y, z, u]) := by
  simp only [resultAV, List.mapM_cons, List.mapM_nil]
  cases resAV P st a <;> cases resAV P st b <;> cases resAV P st c <;> cases resAV P st d <;> rfl
theorem resultAV_0 : resultAV P st [] = some (.tup []) := rfl
end

/-- The place of a name in a list. -/
def npos : List Nat → Nat → Nat
  | [], _ => 0
  | a :: l, i => if i = a then 0 else npos l i + 1

def hasN : List Nat → Nat → Bool
  | [], _ => false
  | a :: l, i => if i = a then true else hasN l i

/-- The callee's view of an argument: a proposal, no claim. -/
def toArg (σ : List Nat) (st : St) : AV → AV
  | .sl id off len es => if hasN σ id = true then .sl (npos σ id) off len es else match (look st.objs id).join with
    | some (.cells cs _) => .isl false ((cs.drop off).take (len * es)) len
    | _ => .any
  | .pt id off => .pt (npos σ id) off
  | .mp id => .mp (npos σ id)
  | .agg l => .agg (l.map (toArg σ st))
  | .tup l => .tup (l.map (toArg σ st))
  | .fn f l => .fn f (l.map (toArg σ st))
  | .val v => .val v
  | .isl z l n => .isl z l n
  | .ipt l k => .ipt l k
  | .any => .any

def toObj (σ : List Nat) (st : St) (id : Nat) : AObj := match (look st.objs id).join with
  | some o => renO (npos σ) o
  | none => .cells [] 0

def argsOk (st : St) (σ : List Nat) (fz : Bool) : List AV → List AV → Prop
  | [], [] => True
  | x :: xs, y :: ys => argOk st σ fz x y ∧ argsOk st σ fz xs ys
  | _, _ => False

def obsOk (st : St) (σ : List Nat) : List Nat → List AObj → Prop
  | [], [] => True
  | s :: ss, o :: os => (look st.objs s).join = some (renO (σ.getD · 0) o) ∧ bndO σ.length o ∧ obsOk st σ ss os
  | _, _ => False

theorem argsOk_get {st : St} {σ : List Nat} {fz : Bool} : ∀ {xs ys : List AV}, argsOk st σ fz xs ys → xs.length = ys.length ∧ ∀ j (h : j < ys.length) (h' : j < xs.length), argOk st σ fz xs[j] ys[j]
  | [], [], _ => ⟨rfl, fun j h => by simp at h⟩
  | x :: xs, y :: ys, h => by
    obtain ⟨h1, h2⟩ := argsOk_get h.2
    refine ⟨by simp [h1], fun j hj hj' => ?_⟩
    cases j with
    | zero => exact h.1
    | succ j => simpa using h2 j (by simpa using hj) (by simpa using hj')
  | [], _ :: _, h => h.elim
  | _ :: _, [], h => h.elim

theorem obsOk_get {st : St} {σ : List Nat} : ∀ {ss : List Nat} {os : List AObj}, obsOk st σ ss os → ss.length = os.length ∧ ∀ j (h : j < os.length), st.ob (ss.getD j 0) = some (renO (σ.getD · 0) os[j]) ∧ bndO σ.length os[j]
  | [], [], _ => ⟨rfl, fun j h => by simp at h⟩
  | s :: ss, o :: os, h => by
    obtain ⟨h1, h2⟩ := obsOk_get h.2.2
    refine ⟨by simp [h1], fun j hj => ?_⟩
    cases j with
    | zero => exact ⟨h.1, h.2.1⟩
    | succ j => simpa using h2 j (by simpa using hj)
  | [], _ :: _, h => h.elim
  | _ :: _, [], h => h.elim

section
variable {P : Program} {dst : Option Nat} {ty : TypeId} {pos : String} {af : Array Edge} {g : Option (Nat × Bool)} {nid : Nat} {K : Nat → Eff → Prop}

/-- What is left of a call: a contract, and the way on. -/
def CallGo (P : Program) (f : FuncId) (σ : List Nat) (m : Nat) (fz : Bool) (nid : Nat) (K : Nat → Eff → Prop) (as : List AV) (os : List AObj) : Prop :=
  ∃ r cobjs', ACall P f as os m r cobjs' ∧ m ≤ cobjs'.length ∧ (fz = true → noImm r ∧ ∀ o ∈ cobjs', noImmO o) ∧ K (cobjs'.length - m) ⟨ren (outName σ m nid) r, callUpd σ m nid cobjs'⟩

theorem R_callG {f : FuncId} {xs : Array Operand} {tys : Array TypeId} {st : St} [hp : TPlain P f] (σ : List Nat) (m : Nat) (fz : Bool)
    (h : argsOk st σ fz (xs.toList.map fun x => st.op x) (xs.toList.map fun x => toArg σ st (st.op x)) ∧ obsOk st σ σ (σ.map (toObj σ st)) ∧ m ≤ σ.length ∧ σ.Nodup ∧ (∀ i ∈ σ, i < nid) ∧
      ∀ G : List AV → List AObj → Prop, (∀ as os, CallGo P f σ m fz nid K as os → G as os) → G (xs.toList.map fun x => toArg σ st (st.op x)) (σ.map (toObj σ st))) :
    AO P ⟨dst, .call ⟨.value (.func f), xs, tys⟩, ty, pos, af, g⟩ nid st K := by
  obtain ⟨h1, h2, h3, h4, h5, h6⟩ := h
  obtain ⟨r, cobjs', hc, hm, hfz, hK⟩ := h6 _ (fun _ _ h => h)
  obtain ⟨_, g2⟩ := argsOk_get h1
  obtain ⟨_, k2⟩ := obsOk_get h2
  refine R_call hc σ fz ⟨by simpa using h3, hm, by simp, h4, h5, by simp⟩ k2 (fun j hj => ?_) (fun hf => ⟨(hfz hf).1, fun j hj => (hfz hf).2 _ (List.getElem_mem hj)⟩) hK
  have hj' : j < xs.size := by simpa using hj
  have := g2 j hj (by simpa using hj')
  simpa [Array.getD, hj'] using this
end

section
variable {P : Program} {Q : Exit → Nat → St → Prop} {nid : Nat}

/-- An own object that is not written from here on. -/
theorem AC_frz {code : Code} {n m : Nat} {env : List (Nat × AV)} {objs : List (Nat × Option AObj)} (id : Nat)
    (h : ∃ cs e, (look objs id).join = some (.cells cs e) ∧ (∀ x ∈ cs, bnd 0 x) ∧ ∀ K : List (Nat × AV) → List (Nat × Option AObj) → Prop, (∀ env' objs', AC P code Q nid ⟨n, m, env', objs'⟩ → K env' objs') →
      K (env.map fun p => (p.1, frzV id cs p.2)) ((id, none) :: objs.map fun p => (p.1, p.2.map (frzO id cs)))) : AC P code Q nid ⟨n, m, env, objs⟩ := fun c ρ J a w hs => by
  obtain ⟨cs, e, h1, h2, h3⟩ := h
  obtain ⟨J', hs'⟩ := Frz.one (st := ⟨n, m, env, objs⟩) h1 h2 c ρ _ J a w hs
  exact h3 (fun env' objs' => AC P code Q nid ⟨n, m, env', objs'⟩) (fun _ _ h => h) c ρ J' a w hs'

theorem Ends.frz {fn : Func} {objs0 : List AObj} {m0 : Nat} {r : AV} {objs' : List AObj} {e : Exit} {n m : Nat} {env : List (Nat × AV)} {objs : List (Nat × Option AObj)} (id : Nat)
    (h : ∃ cs e', (look objs id).join = some (.cells cs e') ∧ (∀ x ∈ cs, bnd 0 x) ∧ ∀ K : List (Nat × AV) → List (Nat × Option AObj) → Prop, (∀ env' objs'', Ends P fn objs0 m0 r objs' e ⟨n, m, env', objs''⟩ → K env' objs'') →
      K (env.map fun p => (p.1, frzV id cs p.2)) ((id, none) :: objs.map fun p => (p.1, p.2.map (frzO id cs)))) : Ends P fn objs0 m0 r objs' e ⟨n, m, env, objs⟩ := by
  obtain ⟨cs, e', h1, h2, h3⟩ := h
  obtain ⟨he, st', σ, hf, h⟩ := h3 (fun env' objs'' => Ends P fn objs0 m0 r objs' e ⟨n, m, env', objs''⟩) (fun _ _ h => h)
  exact ⟨he, st', σ, (Frz.one (st := ⟨n, m, env, objs⟩) h1 h2).trans hf, h⟩

/-- The end of a function, by its results only: 'vals': what they are. -/
theorem Ends.mk2 {fn : Func} {objs0 : List AObj} {m : Nat} {r : AV} {objs' : List AObj} {e : Exit} {n : Nat} {env : List (Nat × AV)} {objs : List (Nat × Option AObj)} (he : e = .normal ∨ e = .ret) (σ : List Nat)
    (h : σ.length = objs'.length ∧ σ.Nodup ∧ σ.take m = List.range m ∧ bnd σ.length r ∧ subObj σ ⟨n, m, env, objs⟩ ((idx 0 objs').map fun p => (p.1, some p.2)) ∧ resultAV P ⟨n, m, env, objs⟩ fn.results.toList = some (ren (σ.getD · 0) r)) : Ends P fn objs0 m r objs' e ⟨n, m, env, objs⟩ :=
  Ends.mk' he σ h.1 h.2.2.2.2.1 h.2.1 h.2.2.1 h.2.2.2.2.2 h.2.2.2.1
end
end Go.Sy
