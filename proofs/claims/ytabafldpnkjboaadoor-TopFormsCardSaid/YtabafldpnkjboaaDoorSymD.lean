/- SymD: Sym31 Sym32 Sym33 Sym34 Sym35, merged. No condition. -/
import Derived.Test.YtabafldpnkjboaaDoorSymC
import Derived.LaidMore
/- Sym31. -/
set_option linter.unusedVariables false
set_option linter.unusedSectionVars false
set_option linter.unusedSimpArgs false
namespace Go.Sy
open Go Go.RowKit
variable {P : Program}

theorem opT_yield {st : St} {nid : Nat} {dst : Option Nat} {ty : TypeId} {pos : String} {af : Array Edge} {g : Option (Nat × Bool)} {x0 x : Operand} {tys : Array TypeId} {id j : Nat} {H : Proc} {v : Value} (h0 : st.op x0 = .yl id) (h1 : st.ob id = some (.tr H j)) (h2 : st.op x = .val v) (h3 : H.P = P) (h4 : H.go j = true) (h5 : H.xs j = some v) :
    OpT P ⟨dst, .call ⟨.value x0, #[x], tys⟩, ty, pos, af, g⟩ nid 0 st ⟨.val (.bool (H.go (j + 1))), [(id, some (.tr H (j + 1)))]⟩ := by
  intro c ρ D J a w hs _ r K Q hK
  subst h3
  have e0 := hs.op x0; rw [h0] at e0
  have e1 := hs.op x; rw [h2] at e1
  have e1 := rep_val_inv e1
  generalize hv0 : a.eval x0 = v0 at e0
  obtain ⟨s, rec, q1, q2, q3, q4⟩ := hs.nl h1
  cases e0 with
  | yl b s' _ hρ =>
    rw [q1] at hρ; cases hρ
    obtain ⟨k1, k2, k3⟩ := hs.hid.on _ _ _ h1
    have hX : ∀ b, Xm c J st.ob ρ w b → b < w.heap.size ∧ ¬ H.B b ∧ b ≠ H.l := fun b hb => ⟨hb.1, fun hB => by
      have := k2 b hB
      rcases hb.2.1 with h | h
      · exact this.2 h
      · omega, fun e => by subst e; exact hb.2.2.2 _ _ _ h1 q1⟩
    obtain ⟨fn, tmps, as, body, hy, hround⟩ := H.yield k1 h4 h5 hX r
    have hrun : (execOp a.eval ⟨dst, .call ⟨.value x0, #[x], tys⟩, ty, pos, af, g⟩).run H.P w = .ok (.round H.l fn tmps as body) w := by
      simp [execOp, resolve, hv0, Deferred.ofValue, invoke, e1, hy]
    refine wpIn_round hrun (hround.mono ?_)
    rintro e w' ⟨rfl, g1, g2, g3, g4, ⟨r', g5⟩, g6, g7⟩
    have lt : ∀ {id' o b s}, st.ob id' = some o → ρ id' = some (b, s) → b < w.heap.size := fun ho hr => by
      obtain ⟨b1, s1, p1, p2, _⟩ := hs.obj _ _ ho
      rw [hr] at p1; cases p1; exact p2.lt
    have old : ∀ {id' o}, (st.app none ⟨.val (.bool (H.go (j + 1))), [(id, some (.tr H (j + 1)))]⟩).ob id' = some o → (id' = id ∧ o = .tr H (j + 1)) ∨ (id' ≠ id ∧ st.ob id' = some o) := fun {id' o} ho => by
      rw [St.ob_app] at ho
      by_cases e : id' = id
      · subst e; simp [Eff.keys, look] at ho; exact .inl ⟨rfl, ho.symm⟩
      · rw [if_neg (by simp [Eff.keys, e])] at ho; exact .inr ⟨e, ho⟩
    refine ⟨_, rfl, hK _ w' ρ J ⟨g1, g2, g3, g4, fun b hb hne hnx => ?_, fun _ _ h => h, fun _ _ h => .inl h, fun _ h => h, fun _ h => .inl h, .val _, fun id' o ho => ?_, fun i i' o1 o2 b s1 s2 h1 h2 _ _ => ?_, fun _ => ⟨fun i i' H1 H2 j1 j2 p1 p2 => ?_, fun i H1 j1 p1 => ?_⟩⟩⟩
    · refine g6 b hb (hnx ⟨_, List.mem_cons_self, _, _, rfl⟩) (fun e => ?_)
      subst e; exact hne id _ s (by simp [Eff.keys]) h1 q1
    · simp only [look] at ho
      split at ho
      · rename_i e; subst e
        simp only [Option.some.injEq] at ho; subst ho
        exact ⟨H.l, s, q1, ⟨rfl, r', g5⟩, q3, .inr ⟨_, _, s, by simp [Eff.keys], h1, q1⟩⟩
      · cases ho
    · simp only [look] at h1 h2
      split at h1
      · split at h2
        · omega
        · cases h2
      · cases h1
    · have key : ∀ {i H1 j1}, (st.app none ⟨.val (.bool (H.go (j + 1))), [(id, some (.tr H (j + 1)))]⟩).ob i = some (.tr H1 j1) → i = id := fun {i H1 j1} p => by
        rcases old p with ⟨e, _⟩ | ⟨_, e⟩
        · exact e
        · exact hs.hid.one _ _ _ _ _ _ e h1
      rw [key p1, key p2]
    · have e : i = id ∧ H1 = H ∧ j1 = j + 1 := by
        rcases old p1 with ⟨e, e'⟩ | ⟨ne, e⟩
        · cases e'; exact ⟨e, rfl, rfl⟩
        · exact absurd (hs.hid.one _ _ _ _ _ _ e h1) ne
      obtain ⟨rfl, rfl, rfl⟩ := e
      refine ⟨H1.keep g7 (Nat.le_refl _) rfl rfl rfl (fun _ _ => rfl) (fun b hb => ?_) (fun b hb => ⟨hb.1, fun hB => ?_, fun e => ?_⟩), k2, k3⟩
      · have hob : ∀ {id' o s'}, (st.app none ⟨.val (.bool (H1.go (j + 1))), [(i, some (.tr H1 (j + 1)))]⟩).ob id' = some o → ρ id' = some (b, s') → (∃ o', st.ob id' = some o') := fun {id' o s'} ho _ => by
          rcases old ho with ⟨e, _⟩ | ⟨_, e⟩
          · exact ⟨_, e ▸ h1⟩
          · exact ⟨_, e⟩
        rcases hb with hb | hb
        · exact ⟨Nat.lt_of_lt_of_le hb.1 g1, hb.2.1, hb.2.2.1, fun id' o s' ho hr => by obtain ⟨o', ho'⟩ := hob ho hr; exact hb.2.2.2 _ _ _ ho' hr⟩
        · refine ⟨hb.2, .inr (Nat.le_trans hs.kept.size hb.1), fun hj => ?_, fun id' o s' ho hr => ?_⟩
          · have := hs.jlt b hj; omega
          · obtain ⟨o', ho'⟩ := hob ho hr; have := lt ho' hr; omega
      · have := k2 b hB
        rcases hb.2.1 with h | h
        · exact this.2 h
        · omega
      · subst e; exact hb.2.2.2 _ _ _ p1 q1

def ylAV : AV → Option Nat
  | .yl id => some id
  | _ => none
theorem ylAV_eq {x : AV} {id : Nat} (h : ylAV x = some id) : x = .yl id := by cases x <;> simp [ylAV] at h; subst h; rfl
def trOb : Option AObj → Option (Proc × Nat)
  | some (.tr H j) => some (H, j)
  | _ => none
theorem trOb_eq {o : Option AObj} {p : Proc × Nat} (h : trOb o = some p) : o = some (.tr p.1 p.2) := by
  unfold trOb at h
  split at h
  · cases h; rfl
  · cases h
theorem e_yl {id : Nat} : ylAV (.yl id) = some id := rfl
theorem e_trOb {H : Proc} {j : Nat} : trOb (some (.tr H j)) = some (H, j) := rfl
theorem Q_yield {st : St} {nid : Nat} {dst : Option Nat} {ty : TypeId} {pos : String} {af : Array Edge} {g : Option (Nat × Bool)} {K : Nat → Eff → Prop} {x0 x : Operand} {tys : Array TypeId}
    (h : bindK (ylAV (st.op x0)) fun id => bindK (trOb (st.ob id)) fun p => ∃ v, st.op x = .val v ∧ p.1.P = P ∧ p.1.go p.2 = true ∧ p.1.xs p.2 = some v ∧ K 0 ⟨.val (.bool (p.1.go (p.2 + 1))), [(id, some (.tr p.1 (p.2 + 1)))]⟩) :
    AO P ⟨dst, .call ⟨.value x0, #[x], tys⟩, ty, pos, af, g⟩ nid st K := by
  obtain ⟨id, h1, ⟨H, j⟩, h2, v, h3, h4, h5, h6, h7⟩ := h
  exact ⟨_, _, opT_yield (ylAV_eq h1) (trOb_eq h2) h3 h4 h5 h6, h7⟩
attribute [push_cast] e_yl e_trOb AObj.tr.injEq

def Base (w : World) (J X : Nat → Prop) (T : Proc → Prop) (pn : Rho) (l : Nat) : Ctx := ⟨w, J, fun b => X b ∧ ¬ J b, pn, some l, T⟩

theorem Sim.rebase {c : Ctx} {ρ pn : Rho} {D J J' X' : Nat → Prop} {st : St} {a : Act} {w w' : World} {l mR : Nat} (hs : Sim c ρ D J st a w) (hd : a.defers = []) (hsz : w.heap.size ≤ w'.heap.size) (ho : w'.os = w.os) (ht : w'.tape = w.tape) (hu : w'.output = w.output)
    (hJ : ∀ b, J b → J' b ∧ w'.heap[b]? = w.heap[b]?) (hJlt : ∀ b, J' b → b < w'.heap.size) (hO : ∀ id o b s, st.ob id = some o → ρ id = some (b, s) → w'.heap[b]? = w.heap[b]? ∧ X' b ∧ ¬ J' b)
    (hX : ∀ b, Xm c J st.ob ρ w b → w'.heap[b]? = w.heap[b]? ∧ X' b ∧ ¬ J' b) (hX' : ∀ b, X' b → b < w'.heap.size ∧ b ≠ l) (hB : ∀ H, c.tr H → ∀ b, H.B b → w'.heap[b]? = w.heap[b]? ∧ ¬ X' b)
    (hl : ∃ r, w'.heap[l]? = some (.loop r)) (hp : ∀ j, j < mR → ∃ p, pn j = some p ∧ ρ j = some p) : Sim (Base w' J' X' c.tr pn l) ρ D J' ⟨st.n, mR, st.env, st.objs⟩ a w' := by
  have hm : ∀ b, J b → b < w.heap.size → J' b ∧ w'.heap[b]? = w.heap[b]? := fun b hb _ => hJ b hb
  refine ⟨?_, hs.tmps, fun t => (hs.env t).mono hm hsz (fun _ _ h => h), fun id o hid => ?_, hs.inj, hs.dom, fun b hb => .inl hb, hJlt, fun b hb => (hX' b hb.1).1, hp, ⟨Nat.le_refl _, rfl, rfl, rfl, fun _ _ _ => rfl⟩, ?_, hs.laid.mono hm hsz⟩
  · rw [hd]; refine Marks.nil fun l' e => ?_
    simp only [Base, Option.some.injEq] at e; subst e
    exact ⟨fun h => (hX' _ h.1).2 rfl, hl⟩
  · obtain ⟨b, s, h1, h2, h3, h4⟩ := hs.obj id o hid
    obtain ⟨k1, k2, k3⟩ := hO id o b s hid h1
    exact ⟨b, s, h1, h2.mono hm hsz (fun _ _ h => h) k1, .inl ⟨k2, k3⟩, k3⟩
  · refine ⟨hs.hid.one, fun id H j hid => ?_⟩
    obtain ⟨h1, h2, h3⟩ := hs.hid.on id H j hid
    obtain ⟨s, r, q1, q2, q3, q4⟩ := hs.nl hid
    refine ⟨H.keep h1 hsz ho ht hu (fun b hb => ?_) (fun b hb => ?_) (fun b hb => ⟨hb.1, fun hb' => ?_, fun e => ?_⟩), fun b hb => ⟨?_, fun h => (hB H h3 b hb).2 h.1⟩, h3⟩
    · rcases hb with hb | hb | hb
      · exact (hX b hb).1
      · exact (hB H h3 b hb).1
      · subst hb; exact (hO _ _ _ _ hid q1).1
    · obtain ⟨_, k2, k3⟩ := hX b hb
      exact ⟨Nat.lt_of_lt_of_le hb.1 hsz, .inl ⟨k2, k3⟩, k3, hb.2.2.2⟩
    · rcases hb.2.1 with h | h
      · exact (hB H h3 b hb').2 h.1
      · have := hb.1; have h : w'.heap.size ≤ b := h; omega
    · subst e; exact hb.2.2.2 _ _ _ hid q1
    · have := (h2 b hb).1; have := hs.kept.size; exact Nat.lt_of_lt_of_le (by omega) hsz

theorem Sim.reenv {c : Ctx} {ρ : Rho} {D J : Nat → Prop} {n m : Nat} {env env' : List (Nat × AV)} {objs : List (Nat × Option AObj)} {a a' : Act} {w : World} (hs : Sim c ρ D J ⟨n, m, env, objs⟩ a w) (hd : a'.defers = a.defers) (hz : a'.tmps.size = n)
    (he : ∀ t, Rep w J ρ (a'.tmps.getD t undef) ((look env' t).getD .any)) : Sim c ρ D J ⟨n, m, env', objs⟩ a' w :=
  ⟨by rw [hd]; exact hs.defers, hz, he, hs.obj, hs.inj, hs.dom, hs.jok, hs.jlt, hs.ilt, hs.pin, hs.kept, hs.hid, hs.laid⟩

structure RLoop where
  n : Nat
  mR : Nat
  env : List (Nat × AV)
  O : Nat → List (Nat × Option AObj)
  OS : Nat → List (Nat × Option AObj)
  L : Nat
  LS : Nat
  go : Nat → Bool
  xs : Nat → Option Value
  eS : Exit
  p : Nat
  assign : Code
  body : Code

def RQ (R : RLoop) (j : Nat) : Exit → Nat → St → Prop := fun e _ s =>
  (e = .normal ∧ R.go (j + 1) = true ∧ ∃ σ : List Nat, σ.length = R.L ∧ Sub σ ⟨R.n, R.mR, [], R.O (j + 1)⟩ s) ∨
  (e = R.eS ∧ R.go (j + 1) = false ∧ ∃ σ : List Nat, σ.length = R.LS ∧ Sub σ ⟨R.n, R.mR, [], R.OS (j + 1)⟩ s)
theorem RQ_next {R : RLoop} {j nid : Nat} {s : St} (σ : List Nat) (h : R.go (j + 1) = true ∧ σ.length = R.L) (hs : Sub σ ⟨R.n, R.mR, [], R.O (j + 1)⟩ s) : RQ R j .normal nid s := .inl ⟨rfl, h.1, σ, h.2, hs⟩
def Mid (P : Program) (R : RLoop) (j : Nat) (nid : Nat) (s : St) : Prop := s.m = R.mR ∧ AC P R.body (RQ R j) nid s

def codeE : Exit → Code
  | .ret => .ret
  | .exit i => .exit i
  | _ => .skip

structure RRun (P : Program) extends RLoop where
  tmps : Array Value
  fn : FuncId
  dB : Nat
  T : Proc → Prop
  J : Nat → Prop
  B : Nat → Prop
  pn : Rho
  W1 : World
  l : Nat
  hJB : ∀ b, J b → B b
  hBl : ¬ B l
  hBlt : ∀ b, B b → b < W1.heap.size
  hT : ∀ H, T H → ∀ b, H.B b → B b
  hsz : tmps.size = n
  hp : p < n
  hbe : ∀ q ∈ env, bnd mR q.2
  hE : eS = .ret ∨ ∃ i, eS = .exit i
  round : ∀ j x, go j = true → xs j = some x → AC P assign (Thn (Mid P toRLoop j) (fun _ _ _ => False)) L ⟨n, mR, (p, .val x) :: env, O j⟩

namespace RRun
def rcd (R : RRun P) (s : LoopState) (pe : Option Code) : Loop := { state := s, pending := pe, fn := R.fn, tmps := R.tmps, params := #[R.p], assign := R.assign, body := R.body, defers := R.dB }
def cur (R : RRun P) (j : Nat) : Loop := if R.go j = true then R.rcd .ready none else R.rcd .done (some (codeE R.eS))
def G (R : RRun P) (j : Nat) (X : Nat → Prop) (W : World) : Prop := ∃ (ρ : Rho) (J : Nat → Prop),
  Sim (Base W J X R.T R.pn R.l) ρ (· < if R.go j = true then R.L else R.LS) J ⟨R.n, R.mR, R.env, if R.go j = true then R.O j else R.OS j⟩ ⟨R.tmps, []⟩ W ∧
  (∀ b, J b → R.J b ∨ X b) ∧ W.heap[R.l]? = some (.loop (R.cur j)) ∧ (R.W1.heap.size ≤ W.heap.size ∧ W.os = R.W1.os ∧ W.tape = R.W1.tape ∧ W.output = R.W1.output) ∧ ∀ b, R.B b → W.heap[b]? = R.W1.heap[b]?

theorem keep (R : RRun P) {j : Nat} {X X' : Nat → Prop} {w w' : World} (h : R.G j X w) (hsz : w.heap.size ≤ w'.heap.size) (ho : w'.os = w.os) (ht : w'.tape = w.tape) (hu : w'.output = w.output) (hsame : ∀ b, X b ∨ R.B b ∨ b = R.l → w'.heap[b]? = w.heap[b]?)
    (mono : ∀ b, X b → X' b) (hX' : ∀ b, X' b → b < w'.heap.size ∧ ¬ R.B b ∧ b ≠ R.l) : R.G j X' w' := by
  obtain ⟨ρ, J, h1, h2, h3, ⟨h4, h5, h6, h7⟩, h8⟩ := h
  have hJs : ∀ b, J b → w'.heap[b]? = w.heap[b]? := fun b hb => hsame b ((h2 b hb).elim (fun h => .inr (.inl (R.hJB b h))) .inl)
  refine ⟨ρ, J, ?_, fun b hb => (h2 b hb).imp id (mono b), (hsame _ (.inr (.inr rfl))).trans h3, ⟨Nat.le_trans h4 hsz, ho.trans h5, ht.trans h6, hu.trans h7⟩, fun b hb => (hsame b (.inr (.inl hb))).trans (h8 b hb)⟩
  refine h1.rebase (J' := J) (X' := X') (l := R.l) (mR := R.mR) rfl hsz ho ht hu (fun b hb => ⟨hb, hJs b hb⟩) (fun b hb => Nat.lt_of_lt_of_le (h1.jlt b hb) hsz) (fun id o b s k1 k2 => ?_) (fun b hb => ?_) (fun b hb => ⟨(hX' b hb).1, (hX' b hb).2.2⟩) (fun H hH b hb => ?_) ⟨_, (hsame _ (.inr (.inr rfl))).trans h3⟩ (fun j hj => h1.pin j hj)
  · obtain ⟨b', s', g1, g2, g3, g4⟩ := h1.obj id o k1
    rw [k2] at g1; cases g1
    rcases g3 with g3 | g3
    · exact ⟨hsame b (.inl g3.1), mono b g3.1, g4⟩
    · have := g2.lt; have g3 : w.heap.size ≤ b := g3; omega
  · rcases hb.2.1 with g | g
    · exact ⟨hsame b (.inl g.1), mono b g.1, g.2⟩
    · have := hb.1; have g : w.heap.size ≤ b := g; omega
  · have := R.hT H hH b hb
    exact ⟨hsame b (.inr (.inl this)), fun h => (hX' b h).2.1 this⟩

theorem ren_self (x : AV) : ren (fun i => i) x = x := by
  induction x using ren.induct with
  | _ => first | (simp_all [ren]; done) | (simp_all [ren]; rename_i ih; exact (List.map_congr_left (g := fun x => x) ih).trans (by simp))

theorem yield (R : RRun P) {j : Nat} {x : Value} {X : Nat → Prop} {w : World} (h : R.G j X w) (hgo : R.go j = true) (hx : R.xs j = some x) (hX : ∀ b, X b → b < w.heap.size ∧ ¬ R.B b ∧ b ≠ R.l) (r : Option Nat) : YieldAt (fen r) 0 P R.l #[x] w fun e w' =>
    e = .returned (.bool (R.go (j + 1))) ∧ w.heap.size ≤ w'.heap.size ∧ w'.os = w.os ∧ w'.tape = w.tape ∧ w'.output = w.output ∧ (∃ r, w'.heap[R.l]? = some (.loop r)) ∧
    (∀ b, b < w.heap.size → ¬ X b → b ≠ R.l → w'.heap[b]? = w.heap[b]?) ∧ R.G (j + 1) (fun b => X b ∨ (w.heap.size ≤ b ∧ b < w'.heap.size)) w' := by
  obtain ⟨ρ, J, h1, h2, h3, ⟨h4, h5, h6, h7⟩, h8⟩ := h
  simp only [hgo, if_true] at h1
  have h3 : w.heap[R.l]? = some (.loop (R.rcd .ready none)) := by simpa [cur, hgo] using h3
  have hlw : R.l < w.heap.size := (Array.getElem?_eq_some_iff.1 h3).1
  have hy : (Instr.yield R.l #[x]).run P w = .ok (.round R.l R.fn (R.tmps.setIfInBounds R.p x) R.assign R.body) w := by
    have := run_yield (P := P) (args := #[x]) h3 rfl
    simpa [rcd] using this
  refine ⟨R.fn, _, R.assign, R.body, hy, roundIn_of_wpIn trivial ?_⟩
  have hs1 : Sim (Base w J X R.T R.pn R.l) ρ (· < R.L) J ⟨R.n, R.mR, (R.p, .val x) :: R.env, R.O j⟩ ⟨R.tmps.setIfInBounds R.p x, []⟩ w := by
    refine h1.reenv rfl (by simp [R.hsz]) (fun t => ?_)
    simp only [look]
    by_cases e : t = R.p
    · subst e
      have : R.p < R.tmps.size := by rw [R.hsz]; exact R.hp
      rw [if_pos rfl]
      have e2 : (R.tmps.setIfInBounds R.p x).getD R.p undef = x := by simp [Array.getD, this]
      rw [e2]; exact .val _
    · rw [if_neg e]
      have e2 : (R.tmps.setIfInBounds R.p x).getD t undef = R.tmps.getD t undef := by
        simp [Array.getD_eq_getD_getElem?, Array.getElem?_setIfInBounds, Ne.symm e]
      rw [e2]; exact h1.env t
  refine wpIn_mono (R.round j x hgo hx (Base w J X R.T R.pn R.l) ρ J _ w hs1) ?_
  rintro e a1 w1 ⟨n1, s1, ρ1, J1, hs2, hq⟩
  cases e with
  | normal =>
    obtain ⟨hm, hbody⟩ := hq
    have z1 : w.heap.size ≤ w1.heap.size := hs2.kept.size
    have hI1 : ¬ (X R.l ∧ ¬ J R.l) := fun h => (hX _ h.1).2.2 rfl
    have k1 : ∀ b, b < w.heap.size → ¬ (X b ∧ ¬ J b) → w1.heap[b]? = w.heap[b]? := fun b hb hn => hs2.kept.block b hb hn
    have hl1 : w1.heap[R.l]? = some (.loop (R.rcd .ready none)) := (k1 R.l hlw hI1).trans h3
    refine ⟨_, run_beginRound hl1 rfl, ?_⟩
    generalize hw2 : w1.putObj R.l (.loop { R.rcd .ready none with state := .busy }) = w2
    have z2 : w2.heap.size = w1.heap.size := by rw [← hw2]; simp
    have b2 : ∀ b, b ≠ R.l → w2.heap[b]? = w1.heap[b]? := fun b hb => by rw [← hw2]; exact World.putObj_heap_other hb
    have l2 : w2.heap[R.l]? = some (.loop { R.rcd .ready none with state := .busy }) := by rw [← hw2]; exact World.putObj_heap_same (by omega)
    have o2 : w2.os = w1.os ∧ w2.tape = w1.tape ∧ w2.output = w1.output := by rw [← hw2]; exact ⟨rfl, rfl, rfl⟩
    clear hw2
    let X2 : Nat → Prop := fun b => (X b ∨ (w.heap.size ≤ b ∧ b < w1.heap.size)) ∧ ¬ J b
    have hJl : ∀ b, J b → b ≠ R.l := fun b hb e => by
      subst e
      rcases h2 _ hb with h | h
      · exact R.hBl (R.hJB _ h)
      · exact (hX _ h).2.2 rfl
    have own1 : ∀ b, ((X b ∧ ¬ J b) ∨ w.heap.size ≤ b) → b < w1.heap.size → X2 b ∧ b ≠ R.l := fun b hb hlt => by
      rcases hb with hb | hb
      · exact ⟨⟨.inl hb.1, hb.2⟩, (hX b hb.1).2.2⟩
      · exact ⟨⟨.inr ⟨hb, hlt⟩, fun h => by have := h1.jlt b h; omega⟩, by omega⟩
    have J1c : ∀ b, J1 b → J b ∨ X2 b := fun b hb => by
      rcases hs2.jok b hb with h | h | h
      · exact .inl h
      · exact .inr (own1 b (.inl h) (hs2.jlt b hb)).1
      · exact .inr (own1 b (.inr h) (hs2.jlt b hb)).1
    have X2l : ∀ b, X2 b → b ≠ R.l := fun b hb => by
      rcases hb.1 with h | h
      · exact (hX b h).2.2
      · omega
    have J1l : ∀ b, J1 b → b ≠ R.l := fun b hb => (J1c b hb).elim (hJl b) (X2l b)
    have hBX2 : ∀ b, R.B b → ¬ X2 b := fun b hB hb => by
      rcases hb.1 with h | h
      · exact (hX b h).2.1 hB
      · have := R.hBlt b hB; omega
    have hBl : ∀ b, R.B b → b ≠ R.l := fun b hB e => R.hBl (e ▸ hB)
    have hs3 : Sim (Base w2 J1 X2 R.T R.pn R.l) ρ1 (· < n1) J1 s1 a1 w2 := by
      have := hs2.rebase (w' := w2) (J' := J1) (X' := X2) (l := R.l) (pn := R.pn) (mR := R.mR) (hs2.defers.2 R.l rfl).1 (by omega) o2.1 o2.2.1 o2.2.2 (fun b hb => ⟨hb, b2 b (J1l b hb)⟩) (fun b hb => by have := hs2.jlt b hb; omega)
        (fun id o b s q1 q2 => by
          obtain ⟨b', s', g1, g2, g3, g4⟩ := hs2.obj id o q1
          rw [q2] at g1; cases g1
          have := own1 b g3 g2.lt
          exact ⟨b2 b this.2, this.1, g4⟩)
        (fun b hb => by have := own1 b hb.2.1 hb.1; exact ⟨b2 b this.2, this.1, hb.2.2.1⟩)
        (fun b hb => ⟨by rcases hb.1 with h | h; have := (hX b h).1; omega; omega, X2l b hb⟩)
        (fun H hH b hb => ⟨b2 b (hBl b (R.hT H hH b hb)), hBX2 b (R.hT H hH b hb)⟩) ⟨_, l2⟩ (fun i hi => hs2.pin i (by rw [hm]; exact hi))
      rw [← hm] at this
      exact this
    refine wpIn_mono (hbody (Base w2 J1 X2 R.T R.pn R.l) ρ1 J1 a1 w2 hs3) ?_
    rintro e a3 w3 ⟨n3, s3, ρ3, J3, hs4, hq⟩
    have z3 : w2.heap.size ≤ w3.heap.size := hs4.kept.size
    have k3 : ∀ b, b < w2.heap.size → ¬ (X2 b ∧ ¬ J1 b) → w3.heap[b]? = w2.heap[b]? := fun b hb hn => hs4.kept.block b hb hn
    have hl3 : w3.heap[R.l]? = some (.loop { R.rcd .ready none with state := .busy }) := (k3 R.l (by omega) (fun h => X2l _ h.1 rfl)).trans l2
    let C : World → Prop := fun w4 => w.heap.size ≤ w4.heap.size ∧ w4.os = w.os ∧ w4.tape = w.tape ∧ w4.output = w.output ∧ (∃ r, w4.heap[R.l]? = some (.loop r)) ∧ (∀ b, b < w.heap.size → ¬ X b → b ≠ R.l → w4.heap[b]? = w.heap[b]?) ∧
        R.G (j + 1) (fun b => X b ∨ (w.heap.size ≤ b ∧ b < w4.heap.size)) w4
    have fin : ∀ (w4 : World), w4 = w3.putObj R.l (.loop (R.cur (j + 1))) → ∀ σ : List Nat, σ.length = (if R.go (j + 1) = true then R.L else R.LS) → Sub σ ⟨R.n, R.mR, [], if R.go (j + 1) = true then R.O (j + 1) else R.OS (j + 1)⟩ s3 → C w4 := by
      intro w4 hw4 σ hσ hsub
      have z4 : w4.heap.size = w3.heap.size := by rw [hw4]; simp
      have b4 : ∀ b, b ≠ R.l → w4.heap[b]? = w3.heap[b]? := fun b hb => by rw [hw4]; exact World.putObj_heap_other hb
      have l4 : w4.heap[R.l]? = some (.loop (R.cur (j + 1))) := by rw [hw4]; exact World.putObj_heap_same (by omega)
      have o4 : w4.os = w3.os ∧ w4.tape = w3.tape ∧ w4.output = w3.output := by rw [hw4]; exact ⟨rfl, rfl, rfl⟩
      clear hw4
      have frame : ∀ b, b < w.heap.size → ¬ (X b ∧ ¬ J b) → b ≠ R.l → w4.heap[b]? = w.heap[b]? := fun b hb hn hl =>
        (b4 b hl).trans ((k3 b (by omega) (fun h => by
          rcases h.1.1 with h' | h'
          · exact hn ⟨h', h.1.2⟩
          · omega)).trans ((b2 b hl).trans (k1 b hb hn)))
      have os4 : w4.os = w.os := o4.1.trans (hs4.kept.os.trans (o2.1.trans hs2.kept.os))
      have tp4 : w4.tape = w.tape := o4.2.1.trans (hs4.kept.tape.trans (o2.2.1.trans hs2.kept.tape))
      have ou4 : w4.output = w.output := o4.2.2.trans (hs4.kept.output.trans (o2.2.2.trans hs2.kept.output))
      refine ⟨by omega, os4, tp4, ou4, ⟨_, l4⟩, fun b hb hn hl => frame b hb (fun h => hn h.1) hl, ?_⟩
      have own3 : ∀ b, ((X2 b ∧ ¬ J1 b) ∨ w2.heap.size ≤ b) → b < w3.heap.size → (X b ∨ (w.heap.size ≤ b ∧ b < w4.heap.size)) ∧ ¬ J b ∧ b ≠ R.l := fun b hb hlt => by
        rcases hb with hb | hb
        · refine ⟨?_, hb.1.2, X2l b hb.1⟩
          rcases hb.1.1 with h | h
          · exact .inl h
          · exact .inr (by omega)
        · exact ⟨.inr (by omega), fun h => by have := h1.jlt b h; omega, by omega⟩
      have J3c : ∀ b, J3 b → (J b ∨ (X b ∨ (w.heap.size ≤ b ∧ b < w4.heap.size))) ∧ b ≠ R.l := fun b hb => by
        rcases hs4.jok b hb with h | h | h
        · refine ⟨?_, J1l b h⟩
          rcases J1c b h with h' | h'
          · exact .inl h'
          · rcases h'.1 with h'' | h''
            · exact .inr (.inl h'')
            · exact .inr (.inr (by omega))
        · have := own3 b (.inl h) (hs4.jlt b hb); exact ⟨.inr this.1, this.2.2⟩
        · have := own3 b (.inr h) (hs4.jlt b hb); exact ⟨.inr this.1, this.2.2⟩
      have hs5 := hsub.sim hs4
      have hs6 := hs5.rebase (w' := w4) (J' := fun b => J b ∨ J3 b) (X' := fun b => X b ∨ (w.heap.size ≤ b ∧ b < w4.heap.size)) (l := R.l) (pn := R.pn) (mR := R.mR) (hs5.defers.2 R.l rfl).1 (by omega) o4.1 o4.2.1 o4.2.2 (fun b hb => ⟨.inr hb, b4 b (J3c b hb).2⟩)
        (fun b hb => by rcases hb with h | h; have := h1.jlt b h; omega; have := hs4.jlt b h; omega)
        (fun id o b s q1 q2 => by
          obtain ⟨b', s', g1, g2, g3, g4⟩ := hs5.obj id o q1
          rw [q2] at g1; cases g1
          have := own3 b g3 g2.lt
          exact ⟨b4 b this.2.2, this.1, fun h => h.elim this.2.1 g4⟩)
        (fun b hb => by have := own3 b hb.2.1 hb.1; exact ⟨b4 b this.2.2, this.1, fun h => h.elim this.2.1 hb.2.2.1⟩)
        (fun b hb => by
          rcases hb with h | h
          · have := hX b h; exact ⟨by omega, this.2.2⟩
          · exact ⟨h.2, by omega⟩)
        (fun H hH b hb => by
          have hB := R.hT H hH b hb
          refine ⟨b4 b (hBl b hB), fun h => ?_⟩
          rcases h with h | h
          · exact (hX b h).2.1 hB
          · have := R.hBlt b hB; omega) ⟨_, l4⟩ (fun i hi => hs5.pin i hi)
      have hpin := hs6.pin
      have hs7 := hs6.reenv (env' := R.env) (a' := ⟨R.tmps, []⟩) (hs5.defers.2 R.l rfl).1.symm R.hsz (fun t => by
        have e1 : Rep w J ρ (R.tmps.getD t undef) ((look R.env t).getD .any) := h1.env t
        have e2 := e1.mono (w' := w4) (J' := fun b => J b ∨ J3 b) (ρ' := ρ) (fun b hb hlt => ⟨.inl hb, frame b hlt (fun h => h.2 hb) (hJl b hb)⟩) (by omega) (fun _ _ h => h)
        refine e2.unren (τ := fun i => i) (n := R.mR) (fun id hid => ?_) (ren_self _).symm ?_
        · obtain ⟨q, q1, q2⟩ := hpin id hid
          obtain ⟨q', q3, q4⟩ := h1.pin id hid
          have q1 : R.pn id = some q := q1
          have q3 : R.pn id = some q' := q3
          rw [q1] at q3; cases q3
          exact q2.trans q4.symm
        · cases hl : look R.env t with
          | none => simp [bnd]
          | some v => exact R.hbe _ (look_mem hl))
      refine ⟨_, fun b => J b ∨ J3 b, by rw [← hσ]; exact hs7, fun b hb => ?_, l4, ⟨by omega, os4.trans h5, tp4.trans h6, ou4.trans h7⟩, fun b hb => ?_⟩
      · rcases hb with h | h
        · exact (h2 b h).imp id .inl
        · rcases (J3c b h).1 with h | h
          · exact (h2 b h).imp id .inl
          · exact .inr h
      · have := R.hBlt b hb
        exact (frame b (by omega) (fun h => (hX b h.1).2.1 hb) (hBl b hb)).trans (h8 b hb)
    have stop : ∀ e', e' = R.eS → R.go (j + 1) = false → (∃ σ : List Nat, σ.length = R.LS ∧ Sub σ ⟨R.n, R.mR, [], R.OS (j + 1)⟩ s3) → ∀ w4, w4 = w3.putObj R.l (.loop (R.rcd .done (some (codeE e')))) → C w4 := fun e' he hg hσ w4 hw => by
      obtain ⟨σ, s1, s2⟩ := hσ
      refine fin w4 (by rw [hw]; simp [cur, hg, he]) σ (by simp [hg, s1]) ?_
      simp only [hg, Bool.false_eq_true, if_false]; exact s2
    rcases hq with ⟨rfl, hg, σ, s1, s2⟩ | ⟨rfl, hg, hσ⟩
    · have hr := run_endRound (P := P) none hl3
      refine ⟨_, _, hr, by simp [hg], ?_⟩
      refine fin _ (by simp [cur, hg, rcd]) σ (by simp [hg, s1]) ?_
      simp only [hg, if_true]; exact s2
    · rcases R.hE with he | ⟨i, he⟩
      · rw [he] at stop ⊢
        have hr := run_endRound (P := P) (some .ret) hl3
        refine ⟨_, _, hr, by simp [hg], ?_⟩
        exact stop _ rfl hg hσ _ (by simp [codeE, rcd])
      · rw [he] at stop ⊢
        have hr := run_endRound (P := P) (some (.exit i)) hl3
        refine ⟨_, _, hr, by simp [hg], ?_⟩
        exact stop _ rfl hg hσ _ (by simp [codeE, rcd])
  | _ => exact hq.elim

end RRun

theorem Sim.retr {c : Ctx} {ρ : Rho} {D J : Nat → Prop} {st : St} {a : Act} {w : World} (hs : Sim c ρ D J st a w) {T : Proc → Prop} (hT : ∀ id H j, st.ob id = some (.tr H j) → T H) : Sim { c with tr := T } ρ D J st { a with defers := [] } w :=
  ⟨⟨⟨[], rfl, .nil, fun _ h => (by cases h)⟩, fun l hl => ⟨rfl, (hs.defers.2 l hl).2⟩⟩, hs.tmps, hs.env, hs.obj, hs.inj, hs.dom, hs.jok, hs.jlt, hs.ilt, hs.pin, ⟨hs.kept.size, hs.kept.os, hs.kept.tape, hs.kept.output, hs.kept.block⟩,
    ⟨hs.hid.one, fun id H j h => ⟨(hs.hid.on id H j h).1, (hs.hid.on id H j h).2.1, hT id H j h⟩⟩, hs.laid⟩

theorem AC_range {Q : Exit → Nat → St → Prop} {nid : Nat} {st : St} {g : Operand} {f : FuncId} {caps : List AV} (R : RLoop) (σ0 : List Nat) (N : Nat) (hg : st.op g = .fn f caps) (hcl : ∀ x ∈ caps, bnd 0 x) (hpl : plainFn P f = true)
    (hc : ∀ H : Proc, H.P = P → H.xs = R.xs → H.go = R.go → ∃ r, ACall P f (.yl 0 :: caps) [.tr H 0] 1 r [.tr H N])
    (h0 : Sub σ0 ⟨R.n, st.m, R.env, R.O 0⟩ st) (hL : σ0.length = R.L) (hgo : R.go 0 = true) (hm : st.m ≤ R.mR) (hob : ∀ j, j < R.mR → ((⟨R.n, st.m, R.env, R.O 0⟩ : St).ob j).isSome = true) (hbe : ∀ q ∈ R.env, bnd R.mR q.2) (hp : R.p < R.n) (hE : R.eS = .ret ∨ ∃ i, R.eS = .exit i)
    (round : ∀ j x, R.go j = true → R.xs j = some x → AC P R.assign (Thn (Mid P R j) (fun _ _ _ => False)) R.L ⟨R.n, R.mR, (R.p, .val x) :: R.env, R.O j⟩)
    (done : R.go N = true → Q .normal R.L ⟨R.n, st.m, R.env, R.O N⟩) (stop : R.go N = false → Q R.eS R.LS ⟨R.n, st.m, R.env, R.OS N⟩) : AC P (.rangeFunc g #[R.p] R.assign R.body) Q nid st := by
  intro c ρ J a w hs
  have hs0 := h0.sim hs
  generalize hρ0 : (fun i => if i < σ0.length then ρ (σ0.getD i 0) else none) = ρ0 at hs0
  rw [hL] at hs0
  clear hρ0
  refine wpIn_rangeFunc ?_
  intro fn _
  obtain ⟨l, mk, W1, dB, hent, hrec, hlw, hW, hWs, ho1, ht1, hu1, hmk⟩ : ∃ l mk W1 dB, (Instr.enterLoop fn a.tmps #[R.p] R.assign R.body (fen c.rd).round).run P w = .ok (l, mk) W1 ∧ W1.heap[l]? = some (.loop { state := .ready, pending := none, fn := fn, tmps := a.tmps, params := #[R.p], assign := R.assign, body := R.body, defers := dB }) ∧
      w.heap.size ≤ l ∧ (∀ b, b < w.heap.size → W1.heap[b]? = w.heap[b]?) ∧ w.heap.size ≤ W1.heap.size ∧ W1.os = w.os ∧ W1.tape = w.tape ∧ W1.output = w.output ∧
      (mk = [] ∨ (c.rd = none ∧ ∃ D, mk = [mark D] ∧ w.heap.size ≤ D ∧ D ≠ l ∧ W1.heap[D]? = some (.deferred (some [])))) := by
    have al : ∀ (w : World) (o : Obj) b, b < w.heap.size → (w.alloc o).heap[b]? = w.heap[b]? := fun w o b hb => by
      show (w.heap.push o)[b]? = _
      rw [Array.getElem?_push, if_neg (by omega)]
    have sz : ∀ (w : World) (o : Obj), (w.alloc o).heap.size = w.heap.size + 1 := fun w o => by show (w.heap.push o).size = _; simp
    cases hr : c.rd with
    | none =>
      refine ⟨_, _, _, w.heap.size, run_enterLoop_outer fn a.tmps #[R.p] R.assign R.body, ?_, by omega, fun b hb => ?_, ?_, rfl, rfl, rfl, .inr ⟨rfl, w.heap.size, rfl, Nat.le_refl _, by omega, ?_⟩⟩
      · have := World.alloc_heap_new (w.alloc (.deferred (some []))) (.loop { state := .ready, pending := none, fn := fn, tmps := a.tmps, params := #[R.p], assign := R.assign, body := R.body, defers := w.heap.size })
        rw [sz] at this; exact this
      · rw [al _ _ _ (by rw [sz]; omega), al _ _ _ hb]
      · rw [sz, sz]; omega
      · rw [al _ _ _ (by rw [sz]; omega)]; exact World.alloc_heap_new w _
    | some l0 =>
      obtain ⟨_, q1, r0, q2⟩ := hs.defers.2 l0 hr
      have q3 : w.heap[l0]? = some (.loop r0) := (hs.kept.block l0 (Array.getElem?_eq_some_iff.1 q2).1 q1).trans q2
      refine ⟨_, _, _, r0.defers, run_enterLoop_inner q3 fn a.tmps #[R.p] R.assign R.body, World.alloc_heap_new w _, by omega, fun b hb => al _ _ _ hb, ?_, rfl, rfl, rfl, .inl rfl⟩
      rw [sz]; omega
  have hlW : l < W1.heap.size := (Array.getElem?_eq_some_iff.1 hrec).1
  let X0 : Nat → Prop := fun b => b < w.heap.size ∧ (c.I b ∨ c.w0.heap.size ≤ b) ∧ ¬ J b
  let B : Nat → Prop := fun b => b < W1.heap.size ∧ ¬ X0 b ∧ b ≠ l
  let T : Proc → Prop := fun H => ∃ id k, (⟨R.n, st.m, R.env, R.O 0⟩ : St).ob id = some (.tr H k)
  have k0 := hs.kept.size
  have hTs : ∀ H, T H → (∀ b, H.B b → b < c.w0.heap.size ∧ ¬ c.I b) ∧ c.tr H := fun H ⟨id, k, h⟩ => ⟨(hs0.hid.on _ _ _ h).2.1, (hs0.hid.on _ _ _ h).2.2⟩
  have hTB : ∀ H, T H → ∀ b, H.B b → B b := fun H hH b hb => by
    have := (hTs H hH).1 b hb
    exact ⟨by omega, fun hx => hx.2.1.elim this.2 (fun h => by omega), by omega⟩
  have hJB : ∀ b, J b → B b := fun b hb => by have := hs.jlt b hb; exact ⟨by omega, fun hx => hx.2.2 hb, by omega⟩
  have hz : a.tmps.size = R.n := hs0.tmps
  let RR : RRun P := { toRLoop := R, tmps := a.tmps, fn := fn, dB := dB, T := T, J := J, B := B, pn := ρ0, W1 := W1, l := l, hJB := hJB, hBl := fun h => h.2.2 rfl, hBlt := fun b h => h.1, hT := hTB, hsz := hz, hp := hp, hbe := hbe, hE := hE, round := round }
  let HH : Proc := { P := P, l := l, xs := R.xs, go := R.go, B := B, G := RR.G, keep := fun h h1 h2 h3 h4 h5 h6 h7 => RR.keep h h1 h2 h3 h4 h5 h6 h7, yield := fun h h1 h2 h3 r => RR.yield h h1 h2 h3 r }
  obtain ⟨r, hcall⟩ := hc HH rfl rfl rfl
  have hgv := hs.op g; rw [hg] at hgv
  generalize hv : a.eval g = v at hgv
  cases hgv with
  | fn _ lb _ hsz hcap =>
    let I : Nat → Prop := fun b => X0 b ∨ b = l
    let ρc : Rho := fun j => if j = 0 then some (l, 0) else none
    have hρc : ∀ {j p}, ρc j = some p → j = 0 ∧ p = (l, 0) := fun {j p} h => by
      by_cases e : j = 0
      · have : ρc j = some (l, 0) := if_pos e
        rw [this] at h; cases h; exact ⟨e, rfl⟩
      · have : ρc j = none := if_neg e
        rw [this] at h; cases h
    have hone : ∀ {j H k} {N : Nat}, [AObj.tr HH N][j]? = some (.tr H k) → j = 0 ∧ H = HH ∧ k = N := fun {j H k N} h => by
      cases j with
      | zero => simp at h; exact ⟨rfl, h.1.symm, h.2.symm⟩
      | succ j => simp at h
    have hIc : ∀ b, I b → b ≠ l → (c.I b ∨ c.w0.heap.size ≤ b) ∧ ¬ J b ∧ b < w.heap.size := fun b hb hn => hb.elim (fun h => ⟨h.2.1, h.2.2, h.1⟩) (fun h => absurd h hn)
    refine ⟨l, mk, W1, { target := .fn (.func f) lb, args := #[.func (.yield l) #[] #[]] }, W1, f, #[.func (.yield l) #[] #[]] ++ lb, W1, hent, ?_, fun _ _ => trivial, ?_, fun h => by simp [fen, Fence.wide] at h, callsIn_fen.2 ?_⟩
    · simp only [resolve, hv]
      simp [go_sem]
    · simp [invoke, run_call hpl]
    · refine (hcall W1 J I ρc _ (by simp [hsz]; omega) (fun j hj => ?_) (fun b hb => ?_) (fun b hb => ?_) (fun j hj => ?_) (fun j p h => by have := (hρc h).1; subst this; simp) (fun i j b s s' h1 h2 => by rw [(hρc h1).1, (hρc h2).1]) ⟨fun i i' H H' k k' h1 h2 => by rw [(hone h1).1, (hone h2).1], fun j H k h => ?_⟩ (hs.laid.mono (fun b hb hlt => ⟨hb, hW b hlt⟩) hWs)).mono ?_
      · cases j with
        | zero => simp only [List.getElem_cons_zero]; have : (#[Value.func (.yield l) #[] #[]] ++ lb).getD 0 undef = .func (.yield l) #[] #[] := by simp only [Array.getD_eq_getD_getElem?]; rw [Array.getElem?_append_left (by simp)]; simp
                  rw [this]; exact .yl l 0 0 (if_pos rfl)
        | succ j =>
          simp only [List.getElem_cons_succ]
          have hj' : j < caps.length := by simpa using hj
          have e1 : (#[Value.func (.yield l) #[] #[]] ++ lb).getD (j + 1) undef = lb.getD j undef := by
            simp only [Array.getD_eq_getD_getElem?]
            rw [Array.getElem?_append_right (by simp)]; simp
          rw [e1]
          exact ((hcap j hj').closed (hcl _ (List.getElem_mem hj'))).mono (fun b hb hlt => ⟨hb, hW b hlt⟩) hWs (fun _ _ h => h)
      · have := hs.jlt b hb
        exact ⟨by omega, fun hi => by by_cases e : b = l; omega; exact (hIc b hi e).2.1 hb⟩
      · by_cases e : b = l
        · omega
        · have := (hIc b hb e).2.2; omega
      · have : j = 0 := by simpa using hj
        subst this
        exact ⟨l, 0, if_pos rfl, .inr rfl, rfl, _, hrec⟩
      · obtain ⟨rfl, rfl, rfl⟩ := hone h
        have xc : ∀ b, X0 b → Xm ⟨W1, J, I, ρc, none, fun H => H ∈ trs [.tr HH 0]⟩ J (fun j => [AObj.tr HH 0][j]?) ρc W1 b := fun b hb => ⟨by have := hb.1; omega, .inl (.inl hb), hb.2.2, fun id o s _ hr => by
          have := (hρc hr).2; simp only [Prod.mk.injEq] at this; have := hb.1; omega⟩
        have cx : ∀ b, Xm ⟨W1, J, I, ρc, none, fun H => H ∈ trs [.tr HH 0]⟩ J (fun j => [AObj.tr HH 0][j]?) ρc W1 b → X0 b ∧ b ≠ l := fun b hb => by
          have e : b ≠ l := fun e => by subst e; exact hb.2.2.2 0 _ 0 rfl (if_pos rfl)
          rcases hb.2.1 with h | h
          · rcases h with h | h
            · exact ⟨h, e⟩
            · exact absurd h e
          · have := hb.1; have h : W1.heap.size ≤ b := h; omega
        refine ⟨⟨ρ0, J, ?_, fun b hb => .inl hb, ?_, ⟨Nat.le_refl _, rfl, rfl, rfl⟩, fun b hb => rfl⟩, fun b hb => ⟨hb.1, fun hi => hi.elim hb.2.1 hb.2.2⟩, by simp [trs]⟩
        · have h1 := (hs0.retr (T := T) (fun id H j h => ⟨id, j, h⟩)).rebase (w' := W1) (J' := J) (X' := Xm ⟨W1, J, I, ρc, none, fun H => H ∈ trs [.tr HH 0]⟩ J (fun j => [AObj.tr HH 0][j]?) ρc W1) (l := l) (pn := ρ0) (mR := R.mR) rfl hWs ho1 ht1 hu1
            (fun b hb => ⟨hb, hW b (hs.jlt b hb)⟩) (fun b hb => by have := hs.jlt b hb; omega) (fun id o b s q1 q2 => by
              obtain ⟨b', s', g1, g2, g3, g4⟩ := hs0.obj id o q1
              rw [q2] at g1; cases g1
              exact ⟨hW b g2.lt, xc b ⟨g2.lt, g3, g4⟩, g4⟩) (fun b hb => ⟨hW b hb.1, xc b ⟨hb.1, hb.2.1, hb.2.2.1⟩, hb.2.2.1⟩) (fun b hb => ⟨hb.1, (cx b hb).2⟩)
            (fun H hH b hb => by
              have := (hTs H hH).1 b hb
              exact ⟨hW b (by omega), fun hx => (hTB H hH b hb).2.1 (cx b hx).1⟩) ⟨_, hrec⟩ (fun i hi => by
              obtain ⟨o, ho⟩ := Option.isSome_iff_exists.1 (hob i hi)
              obtain ⟨b, s, g1, _⟩ := hs0.obj i o ho
              exact ⟨_, g1, g1⟩)
          have e1 : (R.go 0 = true) = True := by simp [hgo]
          show Sim _ ρ0 (· < if R.go 0 = true then R.L else R.LS) J ⟨R.n, R.mR, R.env, if R.go 0 = true then R.O 0 else R.OS 0⟩ _ W1
          simp only [hgo, if_true]
          exact h1
        · show W1.heap[l]? = some (.loop (RR.cur 0))
          have : RR.cur 0 = RR.rcd .ready none := by show (if R.go 0 = true then _ else _) = _; rw [if_pos hgo]
          rw [this]; exact hrec
      · rintro e W2 ⟨v, ρ', Jc, rfl, _, hJc, hkept, _, _, hobj', _, hhid'⟩
        obtain ⟨ρ2, J2, g1, g2, g3, ⟨g4, g5, g6, g7⟩, g8⟩ := (hhid'.on 0 HH N rfl).1
        generalize hXc : Xm ⟨W1, J, I, ρc, none, fun H => H ∈ trs [.tr HH 0]⟩ Jc (fun j => [AObj.tr HH N][j]?) ρ' W2 = Xc at g1 g2
        have hX : ∀ b, Xc b → b < W2.heap.size ∧ b ≠ l ∧ (c.I b ∨ c.w0.heap.size ≤ b) ∧ ¬ J b ∧ (X0 b ∨ W1.heap.size ≤ b) := fun b hb => by
          rw [← hXc] at hb
          obtain ⟨b1, s1, p1, ⟨p2, _⟩, _⟩ := hobj' 0 (by simp)
          have p2 : b1 = l := p2
          rw [p2] at p1
          have e : b ≠ l := fun e => by subst e; exact hb.2.2.2 0 _ _ rfl p1
          refine ⟨hb.1, e, ?_⟩
          rcases hb.2.1 with h | h
          · have := hIc b h e; exact ⟨this.1, this.2.1, .inl (h.resolve_right e)⟩
          · have h : W1.heap.size ≤ b := h
            exact ⟨.inr (by omega), fun hj => by have := hs.jlt b hj; omega, .inr h⟩
        clear hXc
        have hB : ∀ b, B b → W2.heap[b]? = W1.heap[b]? := g8
        have hWW : W1.heap.size ≤ W2.heap.size := g4
        generalize hW3 : W2.putObj l (.loop { RR.cur N with state := .exhausted }) = W3
        have z3 : W3.heap.size = W2.heap.size := by rw [← hW3]; simp
        have b3 : ∀ b, b ≠ l → W3.heap[b]? = W2.heap[b]? := fun b hb => by rw [← hW3]; exact World.putObj_heap_other hb
        have o3 : W3.os = W2.os ∧ W3.tape = W2.tape ∧ W3.output = W2.output := by rw [← hW3]; exact ⟨rfl, rfl, rfl⟩
        let Jf : Nat → Prop := fun b => J b ∨ J2 b ∨ mark b ∈ mk
        have hmkD : ∀ b, mark b ∈ mk → w.heap.size ≤ b ∧ b ≠ l ∧ b < W1.heap.size ∧ W1.heap[b]? = some (.deferred (some [])) := fun b hb => by
          rcases hmk with h | ⟨_, D, h, d1, d2, d3⟩
          · rw [h] at hb; cases hb
          · rw [h] at hb
            have : b = D := by simpa [mark] using hb
            subst this
            exact ⟨d1, d2, (Array.getElem?_eq_some_iff.1 d3).1, d3⟩
        have nJf : ∀ b, Xc b → ¬ J2 b → ¬ Jf b := fun b hb hn h => by
          obtain ⟨_, x2, _, x4, x5⟩ := hX b hb
          rcases h with h | h | h
          · exact x4 h
          · exact hn h
          · have := hmkD b h
            rcases x5 with x5 | x5
            · have := x5.1; omega
            · omega
        have fsim : ∀ (L' : Nat) (O' : List (Nat × Option AObj)), Sim (Base W2 J2 Xc T ρ0 l) ρ2 (· < L') J2 ⟨R.n, R.mR, R.env, O'⟩ ⟨a.tmps, []⟩ W2 → Sim c ρ2 (· < L') Jf ⟨R.n, st.m, R.env, O'⟩ { a with defers := mk ++ a.defers } W3 := by
          intro L' O' g
          have hJ2 : ∀ b, J2 b → b ≠ l ∧ (J b ∨ Xc b) := fun b hb => by
            rcases g2 b hb with h | h
            · have := hs.jlt b h; exact ⟨by omega, .inl h⟩
            · exact ⟨(hX b h).2.1, .inr h⟩
          have hmono : ∀ b, J2 b → b < W2.heap.size → Jf b ∧ W3.heap[b]? = W2.heap[b]? := fun b hb _ => ⟨.inr (.inl hb), b3 b (hJ2 b hb).1⟩
          have hold : ∀ b, B b → b < w.heap.size → W3.heap[b]? = w.heap[b]? := fun b hb hlt => (b3 b hb.2.2).trans ((hB b hb).trans (hW b hlt))
          have own : ∀ {id o}, (⟨R.n, R.mR, R.env, O'⟩ : St).ob id = some o → ∃ b s, ρ2 id = some (b, s) ∧ ObjRep W2 J2 ρ2 b s o ∧ Xc b ∧ ¬ J2 b := fun {id o} h => by
            obtain ⟨b, s, q1, q2, q3, q4⟩ := g.obj id o h
            refine ⟨b, s, q1, q2, ?_, q4⟩
            rcases q3 with q3 | q3
            · exact q3.1
            · have := q2.lt; have q3 : W2.heap.size ≤ b := q3; omega
          have lift : ∀ b, Xm (Base W2 J2 Xc T ρ0 l) J2 (⟨R.n, R.mR, R.env, O'⟩ : St).ob ρ2 W2 b → Xc b ∧ ¬ J2 b := fun b hb => by
            rcases hb.2.1 with h | h
            · exact h
            · have := hb.1; have h : W2.heap.size ≤ b := h; omega
          refine ⟨?_, hz, fun t => (g.env t).mono hmono (by omega) (fun _ _ h => h), fun id o h => ?_, g.inj, g.dom, fun b hb => ?_, fun b hb => ?_, hs.ilt, fun j hj => ?_, ⟨by omega, ?_, ?_, ?_, fun b hb hI => ?_⟩, ⟨g.hid.one, fun id H j h => ?_⟩, hs.laid.mono (fun b hb hlt => ⟨.inl hb, hold b (hJB b hb) hlt⟩) (by omega)⟩
          · obtain ⟨⟨ll, e1, e2, e3⟩, e4⟩ := hs.defers
            have hD : ∀ D ∈ ll, W3.heap[D]? = some (.deferred (some [])) ∧ Jf D ∧ c.w0.heap.size ≤ D := fun D hD => by
              obtain ⟨q1, q2, q3⟩ := e3 D hD
              exact ⟨(hold D (hJB D q2) (hs.jlt D q2)).trans q1, .inl q2, q3⟩
            rcases hmk with h | ⟨hr, D, h, d1, d2, d3⟩
            · exact ⟨⟨ll, by rw [h]; exact e1, e2, hD⟩, fun l hl => by rw [h]; exact e4 l hl⟩
            · refine ⟨⟨D :: ll, by rw [h, List.map_cons, ← e1]; rfl, List.nodup_cons.2 ⟨fun hm => ?_, e2⟩, fun D' hD' => ?_⟩, fun l hl => by rw [hr] at hl; cases hl⟩
              · have := hs.jlt D (e3 D hm).2.1; omega
              · rcases List.mem_cons.1 hD' with e | hD'
                · subst e
                  have d4 := (Array.getElem?_eq_some_iff.1 d3).1
                  refine ⟨(b3 D' d2).trans ((hB D' ⟨d4, fun hx => by have := hx.1; omega, d2⟩).trans d3), .inr (.inr (by rw [h]; exact List.mem_cons_self)), by omega⟩
                · exact hD D' hD'
          · obtain ⟨b, s, q1, q2, q3, q4⟩ := own h
            exact ⟨b, s, q1, q2.mono hmono (by omega) (fun _ _ h => h) (b3 b (hX b q3).2.1), (hX b q3).2.2.1, nJf b q3 q4⟩
          · rcases hb with h | h | h
            · exact hs.jok b h
            · rcases (hJ2 b h).2 with h | h
              · exact hs.jok b h
              · exact .inr (hX b h).2.2.1
            · have := hmkD b h; exact .inr (.inr (by omega))
          · rcases hb with h | h | h
            · have := hs.jlt b h; omega
            · have := g.jlt b h; omega
            · have := hmkD b h; omega
          · obtain ⟨p1, q1, q2⟩ := hs0.pin j hj
            obtain ⟨p2, q3, q4⟩ := g.pin j (Nat.lt_of_lt_of_le hj hm)
            have q3 : ρ0 j = some p2 := q3
            rw [q2] at q3; cases q3
            exact ⟨_, q1, q4⟩
          · exact o3.1.trans (g5.trans (ho1.trans hs.kept.os))
          · exact o3.2.1.trans (g6.trans (ht1.trans hs.kept.tape))
          · exact o3.2.2.trans (g7.trans (hu1.trans hs.kept.output))
          · exact (hold b ⟨by omega, fun hx => hx.2.1.elim hI (fun h => by omega), by omega⟩ (by omega)).trans (hs.kept.block b hb hI)
          · obtain ⟨q1, _, q3⟩ := g.hid.on id H j h
            have hst := hTs H q3
            obtain ⟨b0, s0, p1, ⟨p2, _⟩, p3, p4⟩ := own h
            subst p2
            refine ⟨H.keep q1 (by omega) o3.1 o3.2.1 o3.2.2 (fun b hb => b3 b ?_) (fun b hb => ?_) (fun b hb => ⟨hb.1, fun hB' => ?_, fun e => ?_⟩), hst⟩
            · rcases hb with hb | hb | hb
              · exact (hX b (lift b hb).1).2.1
              · exact (hTB H q3 b hb).2.2
              · subst hb; exact (hX _ p3).2.1
            · have := lift b hb
              exact ⟨by have := hb.1; omega, (hX b this.1).2.2.1, nJf b this.1 this.2, hb.2.2.2⟩
            · have := hst.1 b hB'
              rcases hb.2.1 with h | h
              · exact this.2 h
              · omega
            · subst e; exact hb.2.2.2 _ _ _ h p1
        have hend := run_endLoop (P := P) g3 (by show (RR.cur N).state ≠ .busy; unfold RRun.cur; split <;> simp [RRun.rcd])
        rw [hW3] at hend
        by_cases hN : R.go N = true
        · have e1 : (RR.cur N).pending = none := by unfold RRun.cur; rw [if_pos hN]; rfl
          rw [e1] at hend
          refine ⟨none, W3, hend, R.L, _, ρ2, Jf, fsim R.L (R.O N) ?_, done hN⟩
          have g1 : Sim _ ρ2 (· < if R.go N = true then R.L else R.LS) J2 ⟨R.n, R.mR, R.env, if R.go N = true then R.O N else R.OS N⟩ _ W2 := g1
          simp only [hN, if_true] at g1
          exact g1
        · have hN : R.go N = false := by simpa using hN
          have e1 : (RR.cur N).pending = some (codeE R.eS) := by unfold RRun.cur; rw [if_neg (by show ¬ R.go N = true; simp [hN])]; rfl
          rw [e1] at hend
          have g1 : Sim _ ρ2 (· < if R.go N = true then R.L else R.LS) J2 ⟨R.n, R.mR, R.env, if R.go N = true then R.O N else R.OS N⟩ _ W2 := g1
          simp only [hN, Bool.false_eq_true, if_false] at g1
          have fin : Lift c Q R.eS { a with defers := mk ++ a.defers } W3 := ⟨R.LS, _, ρ2, Jf, fsim R.LS (R.OS N) g1, stop hN⟩
          refine ⟨some (codeE R.eS), W3, hend, ?_⟩
          rcases hE with he | ⟨i, he⟩
          · rw [he] at fin ⊢; exact wpIn_ret fin
          · rw [he] at fin ⊢; exact wpIn_exit fin
end Go.Sy
/- Sym32. -/
set_option linter.unusedVariables false
set_option linter.unusedSectionVars false
set_option linter.unusedSimpArgs false
namespace Go.Sy
variable {x y n : Nat} {a b : Int}
def U (x : Nat) : Int := ((x % 65536 : Nat) : Int)
def uN (a : Int) : Nat := (a % 65536).toNat
theorem U_lt' : U x < 65536 := by unfold U; omega
theorem U_nn : 0 ≤ U x := by unfold U; omega
theorem U_mod : U (x % 65536) = U x := by unfold U; simp
theorem U_of (h : x < 65536) : U x = x := by unfold U; rw [Nat.mod_eq_of_lt h]
theorem uN_U : uN (U x) = x % 65536 := by unfold uN U; omega
theorem wrap16 : IntKind.wrap .u16 a = U (uN a) := by
  unfold U uN
  have : IntKind.wrap .u16 a = a % 65536 := by simp [IntKind.wrap, IntKind.bits, IntKind.signed]
  rw [this]; omega
theorem ofI : (BitVec.ofInt 16 a).toNat = uN a := by simp [uN, BitVec.toNat_ofInt]
theorem U_cast : IntKind.wrap .u16 ((x : Nat) : Int) = U x := by rw [wrap16]; unfold uN U; omega
theorem mod_and : (x &&& y) % 65536 = (x % 65536) &&& (y % 65536) := by
  rw [show (65536 : Nat) = 2 ^ 16 by rfl, Nat.and_mod_two_pow]
theorem mod_or : (x ||| y) % 65536 = (x % 65536) ||| (y % 65536) := by
  rw [show (65536 : Nat) = 2 ^ 16 by rfl, Nat.or_mod_two_pow]
theorem mod_xor : (x ^^^ y) % 65536 = (x % 65536) ^^^ (y % 65536) := by
  rw [show (65536 : Nat) = 2 ^ 16 by rfl, Nat.xor_mod_two_pow]
def sand (x y : Nat) : Nat := x &&& y
def sor (x y : Nat) : Nat := x ||| y
def sxor (x y : Nat) : Nat := x ^^^ y
def sdif (x y : Nat) : Nat := x &&& (65535 - y % 65536)
theorem u16_and (a b : Int) : IntKind.wrap .u16 ((BitVec.ofInt (IntKind.bits .u16) a &&& BitVec.ofInt (IntKind.bits .u16) b).toNat : Int) = U (sand (uN a) (uN b)) := by
  show IntKind.wrap .u16 ((BitVec.ofInt 16 a &&& BitVec.ofInt 16 b).toNat : Int) = _
  rw [BitVec.toNat_and, ofI, ofI, U_cast]; rfl
theorem u16_or (a b : Int) : IntKind.wrap .u16 ((BitVec.ofInt (IntKind.bits .u16) a ||| BitVec.ofInt (IntKind.bits .u16) b).toNat : Int) = U (sor (uN a) (uN b)) := by
  show IntKind.wrap .u16 ((BitVec.ofInt 16 a ||| BitVec.ofInt 16 b).toNat : Int) = _
  rw [BitVec.toNat_or, ofI, ofI, U_cast]; rfl
theorem u16_xor (a b : Int) : IntKind.wrap .u16 ((BitVec.ofInt (IntKind.bits .u16) a ^^^ BitVec.ofInt (IntKind.bits .u16) b).toNat : Int) = U (sxor (uN a) (uN b)) := by
  show IntKind.wrap .u16 ((BitVec.ofInt 16 a ^^^ BitVec.ofInt 16 b).toNat : Int) = _
  rw [BitVec.toNat_xor, ofI, ofI, U_cast]; rfl
theorem u16_dif (a b : Int) : IntKind.wrap .u16 ((BitVec.ofInt (IntKind.bits .u16) a &&& ~~~ BitVec.ofInt (IntKind.bits .u16) b).toNat : Int) = U (sdif (uN a) (uN b)) := by
  show IntKind.wrap .u16 ((BitVec.ofInt 16 a &&& ~~~ BitVec.ofInt 16 b).toNat : Int) = _
  rw [BitVec.toNat_and, BitVec.toNat_not, ofI, ofI, U_cast]
  unfold sdif
  have : uN b % 65536 = uN b := Nat.mod_eq_of_lt (by unfold uN; omega)
  rw [this, show (2 ^ 16 - 1 - uN b : Nat) = 65535 - uN b by omega]
theorem U_sand1 : U (sand (x % 65536) y) = U (sand x y) := by unfold U sand; congr 1; rw [mod_and, mod_and, Nat.mod_mod]
theorem U_sand2 : U (sand x (y % 65536)) = U (sand x y) := by unfold U sand; congr 1; rw [mod_and, mod_and, Nat.mod_mod]
theorem U_sor1 : U (sor (x % 65536) y) = U (sor x y) := by unfold U sor; congr 1; rw [mod_or, mod_or, Nat.mod_mod]
theorem U_sor2 : U (sor x (y % 65536)) = U (sor x y) := by unfold U sor; congr 1; rw [mod_or, mod_or, Nat.mod_mod]
theorem U_sxor1 : U (sxor (x % 65536) y) = U (sxor x y) := by unfold U sxor; congr 1; rw [mod_xor, mod_xor, Nat.mod_mod]
theorem U_sxor2 : U (sxor x (y % 65536)) = U (sxor x y) := by unfold U sxor; congr 1; rw [mod_xor, mod_xor, Nat.mod_mod]
theorem U_sdif1 : U (sdif (x % 65536) y) = U (sdif x y) := by unfold U sdif; congr 1; rw [mod_and, mod_and, Nat.mod_mod]
theorem U_sdif2 : U (sdif x (y % 65536)) = U (sdif x y) := by unfold U sdif; rw [Nat.mod_mod]
theorem u16_shl (x n : Nat) : IntKind.wrap .u16 (U x * 2 ^ min n (IntKind.bits .u16)) = U (x * 2 ^ n) := by
  rw [show IntKind.bits .u16 = 16 from rfl]
  unfold U
  rw [show (((x % 65536 : Nat) : Int) * 2 ^ min n 16) = ((x % 65536 * 2 ^ min n 16 : Nat) : Int) by simp, U_cast]
  unfold U
  congr 1
  rcases Nat.lt_or_ge n 16 with h | h
  · rw [Nat.min_eq_left (by omega), Nat.mod_mul_mod]
  · rw [Nat.min_eq_right h]
    obtain ⟨d, rfl⟩ : ∃ d, n = 16 + d := ⟨n - 16, by omega⟩
    rw [Nat.pow_add, ← Nat.mul_assoc, show (2 : Nat) ^ 16 = 65536 by rfl, Nat.mul_mod_left, Nat.mul_right_comm, Nat.mul_mod_left]
theorem u16_shl1 (n : Nat) : IntKind.wrap .u16 (1 * 2 ^ min n (IntKind.bits .u16)) = U (2 ^ n) := by
  have := u16_shl 1 n
  rw [Nat.one_mul] at this
  rw [← this]; rfl
theorem u16_shr (x n : Nat) : Int.fdiv (U x) (2 ^ min n (IntKind.bits .u16)) = U (x % 65536 / 2 ^ n) := by
  rw [show IntKind.bits .u16 = 16 from rfl]
  rw [Int.fdiv_eq_ediv_of_nonneg _ (Int.le_of_lt (Int.pow_pos (by decide)))]
  unfold U
  rw [show (2 : Int) ^ min n 16 = ((2 ^ min n 16 : Nat) : Int) by simp, ← Int.natCast_ediv]
  congr 1
  have hx : x % 65536 < 65536 := Nat.mod_lt _ (by decide)
  rcases Nat.lt_or_ge n 16 with h | h
  · rw [Nat.min_eq_left (by omega), Nat.mod_eq_of_lt (Nat.lt_of_le_of_lt (Nat.div_le_self _ _) hx)]
  · rw [Nat.min_eq_right h, Nat.div_eq_of_lt (by simpa using hx)]
    have : 65536 ≤ 2 ^ n := by rw [show (65536 : Nat) = 2 ^ 16 by rfl]; exact Nat.pow_le_pow_right (by decide) h
    rw [Nat.div_eq_of_lt (by omega)]
def bit (x n : Nat) : Bool := (x % 65536).testBit n
theorem u16_bit (x n : Nat) : U (sand (x % 65536 / 2 ^ n) 1) = if bit x n = true then 1 else 0 := by
  unfold bit U sand
  rw [Nat.testBit_eq_decide_div_mod_eq, Nat.and_one_is_mod]
  have h2 : x % 65536 / 2 ^ n % 2 < 2 := Nat.mod_lt _ (by decide)
  have h3 : x % 65536 / 2 ^ n % 2 % 65536 = x % 65536 / 2 ^ n % 2 := Nat.mod_eq_of_lt (by omega)
  rw [h3]
  by_cases h : x % 65536 / 2 ^ n % 2 = 1
  · simp [h]
  · have : x % 65536 / 2 ^ n % 2 = 0 := by omega
    simp [this]
theorem bit_is1 {c : Bool} : ((if c = true then (1 : Int) else 0) = 1) = (c = true) := by cases c <;> simp
theorem bit_is0 {c : Bool} : ((if c = true then (1 : Int) else 0) = 0) = (c = false) := by cases c <;> simp
theorem u16_pred (n : Nat) : IntKind.wrap .u16 (U (2 ^ n) - 1) = U (2 ^ n - 1) := by
  have h : 0 < 2 ^ n := Nat.two_pow_pos n
  rw [wrap16]; unfold uN U; omega
theorem u16_sub1 (x : Nat) : IntKind.wrap .u16 (U x - 1) = U (x + 65535) := by rw [wrap16]; unfold uN U; omega
theorem u16_neg (x : Nat) : IntKind.wrap .u16 (0 - U x) = U (65536 - x % 65536) := by rw [wrap16]; unfold uN U; omega
theorem u16_add (x y : Nat) : IntKind.wrap .u16 (U x + U y) = U (x + y) := by rw [wrap16]; unfold uN U; omega
theorem u16_add1 (x : Nat) : IntKind.wrap .u16 (U x + 1) = U (x + 1) := by rw [wrap16]; unfold uN U; omega
theorem w_U : IntKind.wrap .u16 (U x) = U x := by rw [wrap16]; unfold uN U; omega
theorem w_U64 : IntKind.wrap .i64 (U x) = U x := w_i64 (by have := U_nn (x := x); have := U_lt' (x := x); omega)
theorem w_U32 : IntKind.wrap .u32 (U x) = U x := w_u32 (by have := U_nn (x := x); have := U_lt' (x := x); omega)
theorem U_inj : (U x = U y) = (x % 65536 = y % 65536) := by unfold U; exact propext ⟨fun h => by omega, fun h => by omega⟩
theorem U_le : (U x ≤ U y) = (x % 65536 ≤ y % 65536) := by unfold U; exact propext ⟨fun h => by omega, fun h => by omega⟩
theorem U_lt : (U x < U y) = (x % 65536 < y % 65536) := by unfold U; exact propext ⟨fun h => by omega, fun h => by omega⟩
theorem U_0 : (U x = 0) = (x % 65536 = 0) := by unfold U; exact propext ⟨fun h => by omega, fun h => by omega⟩
theorem U_1 : (U x = 1) = (x % 65536 = 1) := by unfold U; exact propext ⟨fun h => by omega, fun h => by omega⟩
theorem uN_0 : uN 0 = 0 := rfl
theorem uN_1 : uN 1 = 1 := rfl
theorem uN_255 : uN 255 = 255 := rfl
theorem uN_65535 : uN 65535 = 65535 := rfl
theorem U_00 : U 0 = 0 := rfl
theorem U_11 : U 1 = 1 := rfl
theorem e_opg {st : St} {g : Nat} : st.op (.global g) = glAV g := rfl
attribute [push_cast] u16_and u16_or u16_xor u16_dif uN_U U_sand1 U_sand2 U_sor1 U_sor2 U_sxor1 U_sxor2 U_sdif1 U_sdif2 u16_shl u16_shl1 u16_shr u16_bit bit_is1 bit_is0 u16_pred u16_neg u16_add u16_add1 w_U w_U64 w_U32 U_inj U_le U_lt U_0 U_1 U_mod uN_0 uN_1 uN_255 uN_65535 U_00 U_11 e_opg
end Go.Sy
/- Sym33. -/
set_option linter.unusedVariables false
set_option linter.unusedSectionVars false
set_option linter.unusedSimpArgs false
namespace Go.Sy
variable {x y n : Nat} {a b : Int}
def V (x : Nat) : Int := ((x % 4294967296 : Nat) : Int)
def vN (a : Int) : Nat := (a % 4294967296).toNat
theorem V_mod : V (x % 4294967296) = V x := by unfold V; simp
theorem vN_V : vN (V x) = x % 4294967296 := by unfold vN V; omega
theorem wrap32N : IntKind.wrap .u32 a = V (vN a) := by
  unfold V vN
  have : IntKind.wrap .u32 a = a % 4294967296 := by simp [IntKind.wrap, IntKind.bits, IntKind.signed]
  rw [this]; omega
theorem ofI32 : (BitVec.ofInt 32 a).toNat = vN a := by simp [vN, BitVec.toNat_ofInt]
theorem V_cast : IntKind.wrap .u32 ((x : Nat) : Int) = V x := by rw [wrap32N]; unfold vN V; omega
theorem mod_and32 : (x &&& y) % 4294967296 = (x % 4294967296) &&& (y % 4294967296) := by rw [show (4294967296 : Nat) = 2 ^ 32 by rfl, Nat.and_mod_two_pow]
theorem mod_or32 : (x ||| y) % 4294967296 = (x % 4294967296) ||| (y % 4294967296) := by rw [show (4294967296 : Nat) = 2 ^ 32 by rfl, Nat.or_mod_two_pow]
theorem mod_xor32 : (x ^^^ y) % 4294967296 = (x % 4294967296) ^^^ (y % 4294967296) := by rw [show (4294967296 : Nat) = 2 ^ 32 by rfl, Nat.xor_mod_two_pow]
theorem v_and (a b : Int) : IntKind.wrap .u32 ((BitVec.ofInt (IntKind.bits .u32) a &&& BitVec.ofInt (IntKind.bits .u32) b).toNat : Int) = V (sand (vN a) (vN b)) := by
  show IntKind.wrap .u32 ((BitVec.ofInt 32 a &&& BitVec.ofInt 32 b).toNat : Int) = _
  rw [BitVec.toNat_and, ofI32, ofI32, V_cast]; rfl
theorem v_or (a b : Int) : IntKind.wrap .u32 ((BitVec.ofInt (IntKind.bits .u32) a ||| BitVec.ofInt (IntKind.bits .u32) b).toNat : Int) = V (sor (vN a) (vN b)) := by
  show IntKind.wrap .u32 ((BitVec.ofInt 32 a ||| BitVec.ofInt 32 b).toNat : Int) = _
  rw [BitVec.toNat_or, ofI32, ofI32, V_cast]; rfl
theorem v_xor (a b : Int) : IntKind.wrap .u32 ((BitVec.ofInt (IntKind.bits .u32) a ^^^ BitVec.ofInt (IntKind.bits .u32) b).toNat : Int) = V (sxor (vN a) (vN b)) := by
  show IntKind.wrap .u32 ((BitVec.ofInt 32 a ^^^ BitVec.ofInt 32 b).toNat : Int) = _
  rw [BitVec.toNat_xor, ofI32, ofI32, V_cast]; rfl
theorem V_sand1 : V (sand (x % 4294967296) y) = V (sand x y) := by unfold V sand; congr 1; rw [mod_and32, mod_and32, Nat.mod_mod]
theorem V_sand2 : V (sand x (y % 4294967296)) = V (sand x y) := by unfold V sand; congr 1; rw [mod_and32, mod_and32, Nat.mod_mod]
theorem V_sor1 : V (sor (x % 4294967296) y) = V (sor x y) := by unfold V sor; congr 1; rw [mod_or32, mod_or32, Nat.mod_mod]
theorem V_sor2 : V (sor x (y % 4294967296)) = V (sor x y) := by unfold V sor; congr 1; rw [mod_or32, mod_or32, Nat.mod_mod]
theorem V_sxor1 : V (sxor (x % 4294967296) y) = V (sxor x y) := by unfold V sxor; congr 1; rw [mod_xor32, mod_xor32, Nat.mod_mod]
theorem V_sxor2 : V (sxor x (y % 4294967296)) = V (sxor x y) := by unfold V sxor; congr 1; rw [mod_xor32, mod_xor32, Nat.mod_mod]
theorem v_shl1 (n : Nat) : IntKind.wrap .u32 (1 * 2 ^ min n (IntKind.bits .u32)) = V (2 ^ n) := by
  rw [show IntKind.bits .u32 = 32 from rfl, Int.one_mul]
  rw [show ((2 : Int) ^ min n 32) = ((2 ^ min n 32 : Nat) : Int) by simp, V_cast]
  unfold V
  congr 1
  rcases Nat.lt_or_ge n 32 with h | h
  · rw [Nat.min_eq_left (by omega)]
  · rw [Nat.min_eq_right h]
    obtain ⟨d, rfl⟩ : ∃ d, n = 32 + d := ⟨n - 32, by omega⟩
    rw [Nat.pow_add, show (2 : Nat) ^ 32 = 4294967296 by rfl, Nat.mul_mod_right]
theorem v_shr (x n : Nat) : Int.fdiv (V x) (2 ^ min n (IntKind.bits .u32)) = V (x % 4294967296 / 2 ^ n) := by
  rw [show IntKind.bits .u32 = 32 from rfl]
  rw [Int.fdiv_eq_ediv_of_nonneg _ (Int.le_of_lt (Int.pow_pos (by decide)))]
  unfold V
  rw [show (2 : Int) ^ min n 32 = ((2 ^ min n 32 : Nat) : Int) by simp, ← Int.natCast_ediv]
  congr 1
  have hx : x % 4294967296 < 4294967296 := Nat.mod_lt _ (by decide)
  rcases Nat.lt_or_ge n 32 with h | h
  · rw [Nat.min_eq_left (by omega), Nat.mod_eq_of_lt (Nat.lt_of_le_of_lt (Nat.div_le_self _ _) hx)]
  · rw [Nat.min_eq_right h, Nat.div_eq_of_lt (by simpa using hx)]
    have : 4294967296 ≤ 2 ^ n := by rw [show (4294967296 : Nat) = 2 ^ 32 by rfl]; exact Nat.pow_le_pow_right (by decide) h
    rw [Nat.div_eq_of_lt (by omega)]
def vbit (x n : Nat) : Bool := (x % 4294967296).testBit n
theorem v_bit (x n : Nat) : V (sand (x % 4294967296 / 2 ^ n) 1) = if vbit x n = true then 1 else 0 := by
  unfold vbit V sand
  rw [Nat.testBit_eq_decide_div_mod_eq, Nat.and_one_is_mod]
  have h2 : x % 4294967296 / 2 ^ n % 2 < 2 := Nat.mod_lt _ (by decide)
  have h3 : x % 4294967296 / 2 ^ n % 2 % 4294967296 = x % 4294967296 / 2 ^ n % 2 := Nat.mod_eq_of_lt (by omega)
  rw [h3]
  by_cases h : x % 4294967296 / 2 ^ n % 2 = 1
  · simp [h]
  · have : x % 4294967296 / 2 ^ n % 2 = 0 := by omega
    simp [this]
theorem v_pred (n : Nat) : IntKind.wrap .u32 (V (2 ^ n) - 1) = V (2 ^ n - 1) := by
  have h : 0 < 2 ^ n := Nat.two_pow_pos n
  rw [wrap32N]; unfold vN V; omega
def vneg (x : Nat) : Nat := 4294967296 - x % 4294967296
theorem v_neg (x : Nat) : IntKind.wrap .u32 (0 - V x) = V (vneg x) := by rw [wrap32N]; unfold vN V vneg; omega
theorem v_add (x y : Nat) : IntKind.wrap .u32 (V x + V y) = V (x + y) := by rw [wrap32N]; unfold vN V; omega
def vquo (x y : Nat) : Nat := x % 4294967296 / (y % 4294967296)
theorem v_quo (x y : Nat) : IntKind.wrap .u32 (Int.tdiv (V x) (V y)) = V (vquo x y) := by
  unfold V vquo
  rw [← Int.ofNat_tdiv, V_cast]; rfl
theorem V_inj : (V x = V y) = (x % 4294967296 = y % 4294967296) := by unfold V; exact propext ⟨fun h => by omega, fun h => by omega⟩
theorem V_lt : (V x < V y) = (x % 4294967296 < y % 4294967296) := by unfold V; exact propext ⟨fun h => by omega, fun h => by omega⟩
theorem V_0 : (V x = 0) = (x % 4294967296 = 0) := by unfold V; exact propext ⟨fun h => by omega, fun h => by omega⟩
theorem vN_1 : vN 1 = 1 := rfl
theorem V_00 : V 0 = 0 := rfl
attribute [push_cast] v_and v_or v_xor vN_V V_sand1 V_sand2 V_sor1 V_sor2 V_sxor1 V_sxor2 v_shl1 v_shr v_bit v_pred v_neg v_add v_quo V_inj V_lt V_0 vN_1 V_00 V_mod
end Go.Sy
/- Sym34. -/
namespace Go.Sy
theorem Mid.mk {P : Program} {R : RLoop} {j nid : Nat} {st : St} (h : st.m = R.mR) (h2 : AC P R.body (RQ R j) nid st) : Mid P R j nid st := ⟨h, h2⟩
def yX (xs : List Nat) (j : Nat) : Option Value := if j < xs.length then some (.int .u16 (U (xs.getD j 0))) else none
theorem yX_inv {xs : List Nat} {j : Nat} {x : Value} (h : yX xs j = some x) : j < xs.length ∧ x = .int .u16 (U (xs.getD j 0)) := by
  unfold yX at h
  split at h
  · cases h; exact ⟨‹_›, rfl⟩
  · cases h
end Go.Sy
/- Sym35. -/
set_option linter.unusedVariables false
set_option linter.unusedSectionVars false
set_option linter.unusedSimpArgs false
namespace Go.Sy
open Go.ChangeShapes Go.WideShapes Go.ChangeAt Go.RowKit
theorem law_liftX {H : Type} {enc : TypeId × Value → H} {C : Checked} {os : Os} {f : FuncId} {fn : Func} {s : ChangeSpec} {tb : TypeId} {X : World → Array Value → Prop}
    (own : ownKnob C.prog.godebug = none) (started : os.Started) (noInit : C.prog.inits.idxOf? f = none) (hfn : C.prog.funcs[f]? = some fn)
    (witness : ∃ (w : World) (tape : Tape) (i : Input), w.os = os ∧ (w.forCall tape i).Shaped C.prog ∧ i.vars = [] ∧ Input.okWide C.prog (w.forCall tape i) .any w.heap.size f i ∧
      ((s.pre enc C.prog fn [] false (w.forCall tape i).memory i.args ∧ X (w.forCall tape i).memory i.args) ∧ sizedMet enc C.prog fn (OpenSpec.ofChange s) false (w.forCall tape i).memory i.args) ∧ Assume.holds {} C.prog (lone (Frame.enter C.prog f i.args .normal) [] (w.forCall tape i)))
    (K : Kids C.prog (· < C.prog.types.size)) (hz : ∀ t e, t < C.prog.types.size → C.prog.underlying t = some (.slice e) → 0 < C.prog.cellsOf e) (hts : fn.params.toList.all (fun t => decide (t < C.prog.types.size)) = true)
    (hvars : s.vars = []) (hres : fn.resultTypes = #[tb]) (hbool : C.prog.underlying tb = some .bool)
    (hspec : ∀ ds : List (DataW H), ds.length = fn.params.toList.length → s.fn H ds = ⟨[.lit (.bool true)], ds, []⟩)
    (law : ∀ (W : World) (base : Nat) (args : Array Value) (ds : List (DataW H)) (p : List MemPlace), X W.memory args → (∀ (j : Nat) t v, fn.params[j]? = some t → args[j]? = some v → Value.okWide C.prog W .any base t v) →
      DataW.TrodAll enc C.prog W 0 (fun _ => true) true fn.params.toList args.toList ds p → (∀ k ∈ DataW.weightsEach C.prog fn.params.toList ds, k ≤ reachBytes) →
      Calls C.prog f args W fun e W' => e = .returned (.bool true) ∧ More W W') :
    ReturnsInHanded {} C os f .any (fun w args => (s.pre enc C.prog fn [] false w args ∧ X w args) ∧ sizedMet enc C.prog fn (OpenSpec.ofChange s) false w args) (s.post enc C.prog fn false true false false) := by
  refine returnsInHanded_of_calls own started noInit witness ?_
  intro w tape i _ _ _ hok hpre _
  obtain ⟨_, _, _, fn', hfn', _, _, _, _, hval⟩ := hok
  have e : fn' = fn := Option.some.inj (hfn'.symm.trans hfn)
  subst e
  obtain ⟨⟨⟨ds, gs, before, hw, _⟩, hX⟩, hsz⟩ := hpre
  have hW := DataW.Whole.of_heap (w' := w.forCall tape i) (by rfl) hw
  have hwt := hsz.weights hw
  have hW' := hW
  obtain ⟨p, q, hA, hV, rfl, _, _⟩ := hW'
  rw [hvars] at hV
  obtain ⟨rfl, rfl⟩ := trodVars_none hV
  have hlen : ds.length = fn'.params.toList.length := by
    have key : ∀ {ts : List TypeId} {vs : List Value} {ds : List (DataW H)} {ps : List MemPlace}, DataW.TrodAll enc C.prog (w.forCall tape i) 0 (fun _ => true) true ts vs ds ps → ds.length = ts.length := by
      intro ts
      induction ts with
      | nil => intro vs ds ps h; obtain ⟨_, rfl, _⟩ := trodAll_nil h; rfl
      | cons t ts ih => intro vs ds ps h; obtain ⟨v, vs1, d, ds1, a, b, _, rfl, _, _, h2⟩ := trodAll_cons h; simp [ih h2]
    exact key hA
  refine (law (w.forCall tape i) w.heap.size i.args ds p hX hval hA (fun k hk => ?_)).mono fun e W' => ?_
  · have := List.all_eq_true.1 hwt k
    refine of_decide_eq_true (this ?_)
    have app : ∀ (ts us : List TypeId) (l : List (DataW H)), k ∈ DataW.weightsEach C.prog ts l → k ∈ DataW.weightsEach C.prog (ts ++ us) l := by
      intro ts
      induction ts with
      | nil => intro us l h; simp [DataW.weightsEach] at h
      | cons t ts ih =>
        intro us l h
        cases l with
        | nil => simp [DataW.weightsEach] at h
        | cons d l =>
          rw [List.cons_append, DataW.weightsEach] at *
          rcases List.mem_append.1 h with h | h
          · exact List.mem_append_left _ h
          · exact List.mem_append_right _ (ih us l h)
    rw [List.append_nil]
    exact app _ _ _ hk
  · rintro ⟨rfl, hm⟩
    show s.post enc C.prog fn' false true false false (w.forCall tape i).blind i.args (.bool true) W'.blind
    refine ChangeSpec.post_blind (law_post (pa := p) (pv := []) hW (fun b sp hd => ?_) (fun sp hsp => ?_) (fun sp hsp => ?_) hm)
    · rw [List.append_nil, hspec ds hlen, hres]
      exact trodAll_cons_mk (shut_bool hbool _) trodAll_mk0
    · rw [List.append_nil, hspec ds hlen]
      rw [List.append_nil] at hsp
      refine DataW.TrodAll.respare K hz (fun t ht => of_decide_eq_true (List.all_eq_true.1 hts t ht)) (TrodAll.carry hm (fun x hx => hW.lt x (List.mem_append_left _ hx)) hA) hsp
    · rw [List.append_nil, hspec ds hlen, hvars]; exact rfl
end Go.Sy
