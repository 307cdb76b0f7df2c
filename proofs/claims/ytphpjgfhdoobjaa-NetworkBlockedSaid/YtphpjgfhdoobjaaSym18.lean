/-
  The symbolic walk: append within an object's own cells; an object's end forgotten. No condition.
-/
import Derived.Test.YtphpjgfhdoobjaaSym17
set_option linter.unusedVariables false
set_option linter.unusedSectionVars false
set_option linter.unusedSimpArgs false
namespace Go.Sy

section
variable {P : Program} {st : St} {nid : Nat} {dst : Option Nat} {ty : TypeId} {pos : String} {af : Array Edge} {g : Option (Nat × Bool)}
theorem opT_append_in (t : TypeId) (x y : Operand) (e : TypeId) (id off n es m : Nat) (cs cells : List AV) (he : elemOf P t = some e) (hs : siz P e = some es) (hp : 0 < es)
    (hx : st.op x = .sl id off n es) (ho : st.ob id = some (.cells cs e)) (hy : srcOf st (st.op y) = some (cells, m)) (hl : cells.length = m * es) (hfit : off + (n + m) * es ≤ cs.length) :
    OpT P ⟨dst, .call ⟨.builtin .append, #[x, y], #[t, t]⟩, ty, pos, af, g⟩ nid 0 st ⟨.sl id off (n + m) es, [(id, some (.cells (spl cs (off + n * es) cells) e))]⟩ := OpT.modify ho fun c ρ D J a w b s h hρ hob hJ => by
  have e1 := h.op x; rw [hx] at e1
  obtain ⟨i, hi, his⟩ : ∃ i, P.info? e = some i ∧ i.size = es := by
    unfold siz at hs
    cases hi : P.info? e with
    | none => simp [hi] at hs
    | some i => exact ⟨i, rfl, by simpa [hi] using hs⟩
  generalize hv : a.eval x = v at e1
  cases e1 with
  | sl b' s' _ _ _ _ cap hρ' hc hsz =>
    rw [hρ] at hρ'; cases hρ'
    have hcs : cs.length ≤ s := by obtain ⟨arr, _, has, hcr⟩ := hob; have := hcr.1; omega
    have hroom : n + m ≤ cap := by
      have h1 : (n + m) * es ≤ cap * es := by omega
      exact Nat.le_of_mul_le_mul_right h1 hp
    have hpos : off + n * es + cells.length ≤ cs.length := by rw [hl]; rw [Nat.add_mul] at hfit; omega
    rcases src_rep h (h.op y) hy hl with ⟨hy0, h0, hc0⟩ | ⟨ad, cp, news, hyv, hmc, hnl, hnews, hone, hrep⟩
    · subst h0; subst hc0
      refine ⟨.value (.slice (some ⟨b, off, none⟩) (n + 0) cap), w, _, ?_, .inl rfl, rfl, rfl, rfl, rfl, fun _ _ => rfl, fun hi' => ⟨.sl b s id off _ es cap hρ (by omega) hsz, ?_⟩⟩
      · simp [execOp, resolve, invoke, builtin, hv, hy0, Builtin.append_, run_underlying (run_elemOf he), sizeOf, typeInfo, hi, Builtin.lenOf, hc, Builtin.firstCells, storeCells]
      · have : spl cs (off + n * es) [] = cs := by unfold spl; simp
        rw [this]; exact hob
    · obtain ⟨w', hst, k1, k2, k3, k4, k5, k6⟩ := put_cells (P := P) (off := off + n * es) (avs := cells) hob (by rw [hnl, hl]) hone hrep hpos
      have hfc := run_firstCells_some (P := P) w i.size m ad m cp news (by rw [his]; exact hnl) hnews
      refine ⟨.value (.slice (some ⟨b, off, none⟩) (n + m) cap), w', _, ?_, .inl rfl, k1, k2, k3, k4, k5, fun hi' => ⟨.sl b s id off _ es cap hρ hroom hsz, k6 hi'⟩⟩
      subst his
      simp [execOp, resolve, invoke, builtin, hv, hyv, Builtin.append_, run_underlying (run_elemOf he), sizeOf, typeInfo, hi, Builtin.lenOf, hroom, hfc, Addr.add_lit, hst]

/-- A function value is made. -/
theorem opT_makeFunc (f : FuncId) (caps : Array Operand) : OpT P ⟨dst, .makeFunc (.func f) #[] caps, ty, pos, af, g⟩ nid 0 st ⟨.fn f (caps.toList.map fun x => st.op x), []⟩ := .pure fun c ρ D J a w h => by
  refine ⟨.func (.func f) #[] (caps.map a.eval), by simp [execOp, Instr.makeFunc], .fn f _ _ (by simp) (fun j hj => ?_)⟩
  have hj' : j < caps.size := by simpa using hj
  have := h.op caps[j]
  simpa [Array.getD, hj'] using this

/-- A call of a function value. -/
theorem opT_callFn {f : FuncId} {x0 : Operand} {caps : List AV} {xs : Array Operand} {tys : Array TypeId}
    {cargs : List AV} {cobjs : List AObj} {m : Nat} {r : AV} {cobjs' : List AObj} (hx0 : st.op x0 = .fn f caps) (hc : ACall P f cargs cobjs m r cobjs') (σ : List Nat) (fz : Bool) (hp : plainFn P f = true) (hm : m ≤ cobjs.length) (hm' : m ≤ cobjs'.length)
    (hσ : σ.length = cobjs.length) (hnd : σ.Nodup) (hlt : ∀ i ∈ σ, i < nid)
    (hob : ∀ j (h : j < cobjs.length), ∃ o, st.ob (σ.getD j 0) = some o ∧ cobjs[j] = toO st σ fz o)
    (hargs : cargs = ((xs.toList.map fun x => st.op x) ++ caps).map (toA st σ fz 8))
    (hfz : fz = true → noImm r ∧ ∀ j (h : j < cobjs'.length), noImmO cobjs'[j]) :
    OpT P ⟨dst, .call ⟨.value x0, xs, tys⟩, ty, pos, af, g⟩ nid (cobjs'.length - m) st ⟨ren (outName σ m nid) r, callUpd σ m nid cobjs'⟩ := by
  refine opT_callV (xvs := (xs.toList.map fun x => st.op x) ++ caps) hc σ fz hm hm' (fun c ρ D J a w hs => ?_) hσ hnd hlt hob hargs hfz
  have h0 := hs.op x0; rw [hx0] at h0
  generalize hv : a.eval x0 = v at h0
  cases h0 with
  | fn _ ws _ hsz hcap =>
    refine ⟨xs.map a.eval ++ ws, ?_, by simp [hsz], fun j hj => ?_⟩
    · simp [execOp, resolve, hv, Deferred.ofValue, invoke, run_call hp]
    · by_cases hj1 : j < xs.size
      · have := hs.op xs[j]
        have e1 : (xs.map a.eval ++ ws).getD j undef = a.eval xs[j] := by simp [Array.getD, Array.getElem_append, hj1]; intro h; omega
        rw [e1, List.getElem_append_left (by simpa using hj1)]
        simpa using this
      · have hj2 : j - xs.size < caps.length := by simp at hj; omega
        have := hcap (j - xs.size) hj2
        have e1 : (xs.map a.eval ++ ws).getD j undef = ws.getD (j - xs.size) undef := by
          have h3 : j < xs.size + ws.size := by omega
          have h4 : j - xs.size < ws.size := by omega
          simp [Array.getD, Array.getElem_append, hj1, h3, h4]
        rw [e1, List.getElem_append_right (by simpa using Nat.le_of_not_lt hj1)]
        simpa using this

variable {K : Nat → Eff → Prop}
def fnAV : AV → Option (FuncId × List AV)
  | .fn f cs => some (f, cs)
  | _ => none
theorem fnAV_eq {x : AV} {p : FuncId × List AV} (h : fnAV x = some p) : x = .fn p.1 p.2 := by
  cases x <;> simp [fnAV] at h
  subst h; rfl
theorem e_fn {f : FuncId} {cs : List AV} : fnAV (.fn f cs) = some (f, cs) := rfl

theorem Q_makeFunc (f : FuncId) (caps : Array Operand) (h : K 0 ⟨.fn f (caps.toList.map fun x => st.op x), []⟩) : AO P ⟨dst, .makeFunc (.func f) #[] caps, ty, pos, af, g⟩ nid st K := ⟨_, _, opT_makeFunc f caps, h⟩

theorem Q_appendIn {e : TypeId} {es : Nat} (t : TypeId) (x y : Operand) [he : TElem P t e] [hs : TSiz P e es]
    (h : bindK (slAV (st.op x)) fun p => bindK (clOb (st.ob p.1)) fun o => bindK (srcOf st (st.op y)) fun q => p.2.2.2 = es ∧ o.2 = e ∧ 0 < es ∧ q.1.length = q.2 * es ∧ p.2.1 + (p.2.2.1 + q.2) * es ≤ o.1.length ∧
      K 0 ⟨.sl p.1 p.2.1 (p.2.2.1 + q.2) es, [(p.1, some (.cells (spl o.1 (p.2.1 + p.2.2.1 * es) q.1) e))]⟩) :
    AO P ⟨dst, .call ⟨.builtin .append, #[x, y], #[t, t]⟩, ty, pos, af, g⟩ nid st K := by
  obtain ⟨⟨id, off, n, es'⟩, h1, ⟨cs, e'⟩, h2, ⟨cells, m⟩, h3, h4, h5, h6, h7, h8, h9⟩ := h
  dsimp only at h4 h5 h6 h7 h8 h9
  subst h4; subst h5
  exact ⟨_, _, opT_append_in t x y _ id off n _ m cs cells he.out hs.out h6 (slAV_eq h1) (clOb_eq h2) h3 h7 h8, h9⟩

/-- A call of a function value: what is left of it. -/
theorem R_callFnG (f : FuncId) {x0 : Operand} {xs : Array Operand} {tys : Array TypeId} [hp : TPlain P f] (σ : List Nat) (m : Nat) (fz : Bool)
    (h : bindK (fnAV (st.op x0)) fun q => q.1 = f ∧ obsOk st σ ∧ m ≤ σ.length ∧ σ.Nodup ∧ (∀ i ∈ σ, i < nid) ∧
      ∀ G : List AV → List AObj → Prop, (∀ as' os, CallGo P f σ m fz nid K as' os → G as' os) → G (((xs.toList.map fun x => st.op x) ++ q.2).map (toA st σ fz 8)) (σ.map (toObj st σ fz))) :
    AO P ⟨dst, .call ⟨.value x0, xs, tys⟩, ty, pos, af, g⟩ nid st K := by
  obtain ⟨⟨f', caps⟩, h0, rfl, h2, h3, h4, h5, h6⟩ := h
  dsimp only at h0 h2 h3 h4 h5 h6
  obtain ⟨r, cobjs', hc, hm, hfz, hK⟩ := h6 _ (fun _ _ h => h)
  exact ⟨_, _, opT_callFn (fnAV_eq h0) hc σ fz hp.out (by simpa using h3) hm (by simp) h4 h5 (obsOk_get h2) rfl (fun hf => ⟨(hfz hf).1, fun j hj => (hfz hf).2 _ (List.getElem_mem hj)⟩), hK⟩

/-- The end of an object's cells is forgotten. -/
theorem Frz.cut {n m : Nat} {env : List (Nat × AV)} {objs : List (Nat × Option AObj)} (id k : Nat) {cs : List AV} {e : TypeId} (h1' : (⟨n, m, env, objs⟩ : St).ob id = some (.cells cs e)) : Frz ⟨n, m, env, objs⟩ ⟨n, m, env, (id, some (.cells (cs.take k) e)) :: objs⟩ := fun c ρ D J a w hs => by
  have hob : ∀ i o, (⟨n, m, env, (id, some (.cells (cs.take k) e)) :: objs⟩ : St).ob i = some o → (i = id ∧ o = .cells (cs.take k) e) ∨ (⟨n, m, env, objs⟩ : St).ob i = some o := by
    intro i o hi
    simp only [St.ob, look] at hi
    split at hi
    · rename_i hid; simp at hi; exact .inl ⟨hid, hi.symm⟩
    · exact .inr hi
  have hex : ∀ i o, (⟨n, m, env, (id, some (.cells (cs.take k) e)) :: objs⟩ : St).ob i = some o → ∃ o', (⟨n, m, env, objs⟩ : St).ob i = some o' := by
    intro i o hi
    rcases hob i o hi with ⟨rfl, _⟩ | hi
    · exact ⟨_, h1'⟩
    · exact ⟨_, hi⟩
  refine ⟨J, hs.defers, hs.tmps, hs.env, fun i o ho => ?_, fun i i' o o' b s s' g1 g2 => ?_, hs.dom, hs.jok, hs.jlt, hs.ilt, hs.pin, hs.kept⟩
  · rcases hob i o ho with ⟨rfl, rfl⟩ | ho
    · obtain ⟨b, s, k1, ⟨arr, k2, k3, k4⟩, k5⟩ := hs.obj _ _ h1'
      refine ⟨b, s, k1, ⟨arr, k2, k3, ?_, fun j hj => ?_, k4.2.2⟩, k5⟩
      · have := k4.1; simp; omega
      · have hj' : j < cs.length := by simp at hj; omega
        have := k4.2.1 j hj'
        simpa using this
    · exact hs.obj i o ho
  · obtain ⟨o1, q1⟩ := hex i o g1
    obtain ⟨o2, q2⟩ := hex i' o' g2
    exact hs.inj i i' o1 o2 b s s' q1 q2
theorem AC_cut {Q : Exit → Nat → St → Prop} {code : Code} {n m : Nat} {env : List (Nat × AV)} {objs : List (Nat × Option AObj)} (id k : Nat)
    (h : bindK (clOb (look objs id).join) fun o => ∀ K : List (Nat × Option AObj) → Prop, (∀ objs', AC P code Q nid ⟨n, m, env, objs'⟩ → K objs') → K ((id, some (.cells (o.1.take k) o.2)) :: objs)) : AC P code Q nid ⟨n, m, env, objs⟩ := fun c ρ J a w hs => by
  obtain ⟨⟨cs, e⟩, h1, h2⟩ := h
  obtain ⟨J', hs'⟩ := Frz.cut id k (n := n) (m := m) (env := env) (clOb_eq h1) c ρ _ J a w hs
  exact h2 (fun objs' => AC P code Q nid ⟨n, m, env, objs'⟩) (fun _ h => h) c ρ J' a w hs'
theorem Ends.cut {fn : Func} {objs0 : List AObj} {m0 : Nat} {r : AV} {objs' : List AObj} {e : Exit} {n m : Nat} {env : List (Nat × AV)} {objs : List (Nat × Option AObj)} (id k : Nat)
    (h : bindK (clOb (look objs id).join) fun o => ∀ K : List (Nat × Option AObj) → Prop, (∀ objs'', Ends P fn objs0 m0 r objs' e ⟨n, m, env, objs''⟩ → K objs'') → K ((id, some (.cells (o.1.take k) o.2)) :: objs)) : Ends P fn objs0 m0 r objs' e ⟨n, m, env, objs⟩ := by
  obtain ⟨⟨cs, e'⟩, h1, h2⟩ := h
  obtain ⟨he, st', σ, hf, h⟩ := h2 (fun objs'' => Ends P fn objs0 m0 r objs' e ⟨n, m, env, objs''⟩) (fun _ h => h)
  exact ⟨he, st', σ, (Frz.cut id k (n := n) (m := m) (env := env) (clOb_eq h1)).trans hf, h⟩
end
end Go.Sy
