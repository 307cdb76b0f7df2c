/-
  The symbolic walk: calls by contract in the form in which a walk uses them; own objects that are frozen; small equations for simp. No condition.
-/
import Derived.Test.YtphpjgfhdoobjaaSym13
set_option linter.unusedVariables false
set_option linter.unusedSectionVars false
set_option linter.unusedSimpArgs false
namespace Go.Sy

theorem bnd_val {n : Nat} {v : Value} : bnd n (.val v) = True := by simp [bnd]
theorem bnd_isl {n : Nat} {z : Bool} {cs : List AV} {k : Nat} : bnd n (.isl z cs k) = True := by simp [bnd]
theorem bnd_ipt {n : Nat} {cs : List AV} {k : Nat} : bnd n (.ipt cs k) = True := by simp [bnd]
theorem bnd_any {n : Nat} : bnd n .any = True := by simp [bnd]
theorem bnd_sl {n id off len es : Nat} : bnd n (.sl id off len es) = (id < n) := by simp [bnd]
theorem bnd_pt {n id off : Nat} : bnd n (.pt id off) = (id < n) := by simp [bnd]
theorem bnd_mp {n id : Nat} : bnd n (.mp id) = (id < n) := by simp [bnd]
theorem bnd_agg {n : Nat} {cs : List AV} : bnd n (.agg cs) = ∀ x ∈ cs, bnd n x := by simp [bnd]
theorem bnd_tup {n : Nat} {cs : List AV} : bnd n (.tup cs) = ∀ x ∈ cs, bnd n x := by simp [bnd]
theorem bnd_fn {n f : Nat} {cs : List AV} : bnd n (.fn f cs) = ∀ x ∈ cs, bnd n x := by simp [bnd]
theorem bndO_cells {n : Nat} {cs : List AV} {e : TypeId} : bndO n (.cells cs e) = ∀ x ∈ cs, bnd n x := rfl
theorem bndO_map {n k : Nat} {ag : Bool} {l : List (List Int × AV)} : bndO n (.map ag k l) = ∀ x ∈ l, bnd n x.2 := rfl
theorem noImmO_map {k : Nat} {ag : Bool} {l : List (List Int × AV)} : noImmO (.map ag k l) = ∀ x ∈ l, noImm x.2 := rfl
theorem noImm_val {v : Value} : noImm (.val v) = True := by simp [noImm]
theorem noImm_isl {z : Bool} {cs : List AV} {k : Nat} : noImm (.isl z cs k) = (cs = []) := by simp [noImm]
theorem noImm_ipt {cs : List AV} {k : Nat} : noImm (.ipt cs k) = (cs = []) := by simp [noImm]
theorem noImm_any : noImm .any = True := by simp [noImm]
theorem noImm_sl {id off len es : Nat} : noImm (.sl id off len es) = True := by simp [noImm]
theorem noImm_pt {id off : Nat} : noImm (.pt id off) = True := by simp [noImm]
theorem noImm_mp {id : Nat} : noImm (.mp id) = True := by simp [noImm]
theorem noImm_agg {cs : List AV} : noImm (.agg cs) = ∀ x ∈ cs, noImm x := by simp [noImm]
theorem noImm_tup {cs : List AV} : noImm (.tup cs) = ∀ x ∈ cs, noImm x := by simp [noImm]
theorem noImm_fn {f : Nat} {cs : List AV} : noImm (.fn f cs) = ∀ x ∈ cs, noImm x := by simp [noImm]
theorem noImmO_cells {cs : List AV} {e : TypeId} : noImmO (.cells cs e) = ∀ x ∈ cs, noImm x := rfl

section
variable {P : Program} {st : St} {a b c d e : ResultVar}
theorem resultAV_1 : resultAV P st [a] = resAV P st a := by
  simp only [resultAV, List.mapM_cons, List.mapM_nil]
  cases resAV P st a <;> rfl
theorem resultAV_2 : resultAV P st [a, b] = (resAV P st a).bind fun x => (resAV P st b).bind fun y => some (.tup [x, y]) := by
  simp only [resultAV, List.mapM_cons, List.mapM_nil]
  cases resAV P st a <;> cases resAV P st b <;> rfl
theorem resultAV_3 : resultAV P st [a, b, c] = (resAV P st a).bind fun x => (resAV P st b).bind fun y => (resAV P st c).bind fun z => some (.tup [x, y, z]) := by
  simp only [resultAV, List.mapM_cons, List.mapM_nil]
  cases resAV P st a <;> cases resAV P st b <;> cases resAV P st c <;> rfl
theorem resultAV_4 : resultAV P st [a, b, c, d] = (resAV P st a).bind fun x => (resAV P st b).bind fun y => (resAV P st c).bind fun z => (resAV P st d).bind fun u => some (.tup [x, y, z, u]) := by
  simp only [resultAV, List.mapM_cons, List.mapM_nil]
  cases resAV P st a <;> cases resAV P st b <;> cases resAV P st c <;> cases resAV P st d <;> rfl
theorem resultAV_0 : resultAV P st [] = some (.tup []) := rfl
end

/-- The objects that are handed over are there. -/
def obOf (st : St) (σ : List Nat) (fz : Bool) : Option AObj → AObj
  | some o => toO st σ fz o
  | none => .cells [] 0
def toObj (st : St) (σ : List Nat) (fz : Bool) (id : Nat) : AObj := obOf st σ fz (look st.objs id).join
def obsOk (st : St) : List Nat → Prop
  | [] => True
  | s :: ss => (look st.objs s).join.isSome = true ∧ obsOk st ss
theorem obsOk_get {st : St} {σ0 : List Nat} {fz : Bool} : ∀ {ss : List Nat}, obsOk st ss → ∀ j (h : j < (ss.map (toObj st σ0 fz)).length), ∃ o, st.ob (ss.getD j 0) = some o ∧ (ss.map (toObj st σ0 fz))[j] = toO st σ0 fz o
  | [], _, j, h => by simp at h
  | s :: ss, h, j, hj => by
    cases j with
    | zero =>
      obtain ⟨o, ho⟩ := Option.isSome_iff_exists.1 h.1
      refine ⟨o, ho, ?_⟩
      simp [toObj, ho, obOf]
    | succ j => exact obsOk_get (σ0 := σ0) (fz := fz) h.2 j (by simpa using hj)

section
variable {P : Program} {dst : Option Nat} {ty : TypeId} {pos : String} {af : Array Edge} {g : Option (Nat × Bool)} {nid : Nat} {K : Nat → Eff → Prop}

/-- What is left of a call: a contract, and the way on. -/
def CallGo (P : Program) (f : FuncId) (σ : List Nat) (m : Nat) (fz : Bool) (nid : Nat) (K : Nat → Eff → Prop) (as : List AV) (os : List AObj) : Prop :=
  ∃ r cobjs', ACall P f as os m r cobjs' ∧ m ≤ cobjs'.length ∧ (fz = true → noImm r ∧ ∀ o ∈ cobjs', noImmO o) ∧ K (cobjs'.length - m) ⟨ren (outName σ m nid) r, callUpd σ m nid cobjs'⟩

theorem R_callG {f : FuncId} {xs : Array Operand} {tys : Array TypeId} {st : St} [hp : TPlain P f] (σ : List Nat) (m : Nat) (fz : Bool)
    (h : obsOk st σ ∧ m ≤ σ.length ∧ σ.Nodup ∧ (∀ i ∈ σ, i < nid) ∧
      ∀ G : List AV → List AObj → Prop, (∀ as os, CallGo P f σ m fz nid K as os → G as os) → G (xs.toList.map fun x => toA st σ fz 8 (st.op x)) (σ.map (toObj st σ fz))) :
    AO P ⟨dst, .call ⟨.value (.func f), xs, tys⟩, ty, pos, af, g⟩ nid st K := by
  obtain ⟨h2, h3, h4, h5, h6⟩ := h
  obtain ⟨r, cobjs', hc, hm, hfz, hK⟩ := h6 _ (fun _ _ h => h)
  exact R_call hc σ fz ⟨by simpa using h3, hm, by simp, h4, h5⟩ (obsOk_get h2) rfl (fun hf => ⟨(hfz hf).1, fun j hj => (hfz hf).2 _ (List.getElem_mem hj)⟩) hK
end

section
variable {P : Program} {Q : Exit → Nat → St → Prop} {nid : Nat}

/-- An own object that is not written from here on. -/
theorem AC_frz {code : Code} {n m : Nat} {env : List (Nat × AV)} {objs : List (Nat × Option AObj)} (id : Nat)
    (h : ∃ cs e, (look objs id).join = some (.cells cs e) ∧ (∀ x ∈ cs, bnd 0 x) ∧ ∀ K : List (Nat × AV) → List (Nat × Option AObj) → Prop, (∀ env' objs', AC P code Q nid ⟨n, m, env', objs'⟩ → K env' objs') →
      K (env.map fun p => (p.1, frzV id cs p.2)) ((id, none) :: objs.map fun p => (p.1, p.2.map (frzO id cs)))) : AC P code Q nid ⟨n, m, env, objs⟩ := fun c ρ J a w hs => by
  obtain ⟨cs, e, h1, h2, h3⟩ := h
  obtain ⟨J', hs'⟩ := Frz.one (st := ⟨n, m, env, objs⟩) h1 h2 c ρ _ J a w hs
  exact h3 (fun env' objs' => AC P code Q nid ⟨n, m, env', objs'⟩) (fun _ _ h => h) c ρ J' a w hs'

theorem Ends.frz {fn : Func} {objs0 : List AObj} {m0 : Nat} {r : AV} {objs' : List AObj} {e : Exit} {n m : Nat} {env : List (Nat × AV)} {objs : List (Nat × Option AObj)} (id : Nat)
    (h : ∃ cs e', (look objs id).join = some (.cells cs e') ∧ (∀ x ∈ cs, bnd 0 x) ∧ ∀ K : List (Nat × AV) → List (Nat × Option AObj) → Prop, (∀ env' objs'', Ends P fn objs0 m0 r objs' e ⟨n, m, env', objs''⟩ → K env' objs'') →
      K (env.map fun p => (p.1, frzV id cs p.2)) ((id, none) :: objs.map fun p => (p.1, p.2.map (frzO id cs)))) : Ends P fn objs0 m0 r objs' e ⟨n, m, env, objs⟩ := by
  obtain ⟨cs, e', h1, h2, h3⟩ := h
  obtain ⟨he, st', σ, hf, h⟩ := h3 (fun env' objs'' => Ends P fn objs0 m0 r objs' e ⟨n, m, env', objs''⟩) (fun _ _ h => h)
  exact ⟨he, st', σ, (Frz.one (st := ⟨n, m, env, objs⟩) h1 h2).trans hf, h⟩

/-- The end of a function, by its results only: 'vals': what they are. -/
theorem Ends.mk2 {fn : Func} {objs0 : List AObj} {m : Nat} {r : AV} {objs' : List AObj} {e : Exit} {n : Nat} {env : List (Nat × AV)} {objs : List (Nat × Option AObj)} (he : e = .normal ∨ e = .ret) (σ : List Nat)
    (h : σ.length = objs'.length ∧ σ.Nodup ∧ σ.take m = List.range m ∧ bnd σ.length r ∧ subObj σ ⟨n, m, env, objs⟩ ((idx 0 objs').map fun p => (p.1, some p.2)) ∧ resultAV P ⟨n, m, env, objs⟩ fn.results.toList = some (ren (σ.getD · 0) r)) : Ends P fn objs0 m r objs' e ⟨n, m, env, objs⟩ :=
  Ends.mk' he σ h.1 h.2.2.2.2.1 h.2.1 h.2.2.1 h.2.2.2.2.2 h.2.2.2.1
end
end Go.Sy
