/- SymC: Sym20 Sym21 Sym22 Sym23 Sym24 Sym25 Sym26 Sym27 Sym28 Sym29, merged. No condition. -/
import Derived.Test.YtabafldpnkjboaaDoorSymB
import Derived.Lib.AppendZeros
import Derived.LaidMore
/- Sym20. -/
set_option linter.unusedVariables false
set_option linter.unusedSectionVars false
set_option linter.unusedSimpArgs false
namespace Go.Sy

section
variable {P : Program} {Q : Exit → Nat → St → Prop} {nid : Nat} {st : St} {dst : Option Nat} {ty : TypeId} {pos : String} {af : Array Edge} {g : Option (Nat × Bool)} {K : Nat → Eff → Prop}

def fullOb : Option AObj → Option (List AV × TypeId)
  | some (.full cs e) => some (cs, e)
  | _ => none
theorem e_fullOb {cs : List AV} {e : TypeId} : fullOb (some (.full cs e)) = some (cs, e) := rfl
theorem Q_sliceX {e : TypeId} {es : Nat} (t : TypeId) (x : Operand) (lo hi : Option Operand) [ht : TElem P t e] [hsz : TSiz P e es] (h : bindK (slAV (st.op x)) fun p => bindK (clOb (st.ob p.1)) fun o => bindK (boundAV st 0 lo) fun l => bindK (boundAV st p.2.2.1 hi) fun u => p.2.2.2 = es ∧ 0 < es ∧ (0 ≤ l ∧ l ≤ u) ∧ p.2.1 + u.toNat * es ≤ o.1.length ∧
      (l < u ∨ l = 0) ∧ K 0 ⟨.sl p.1 (p.2.1 + l.toNat * es) (u.toNat - l.toNat) es, []⟩) : AO P ⟨dst, .slice t x lo hi none, ty, pos, af, g⟩ nid st K := by
  obtain ⟨⟨id, off, len, es'⟩, h1, ⟨cs, e'⟩, h2, l, hl, u, hu, h3, h4, ⟨h5, h6⟩, h7, h8, h9⟩ := h
  dsimp only at h2 h3 h4 h7 hu h9
  subst h3
  have hx := slAV_eq h1; dsimp only at hx
  have ho := clOb_eq h2; dsimp only at ho
  refine ⟨0, _, .pure fun c ρ D J a w hs => ?_, h9⟩
  have hr := hs.op x; rw [hx] at hr
  have hty := run_elemOf ht.out
  obtain ⟨b, s, k1, ⟨arr, k2, k3, k4, k5, k6⟩, k7, k8⟩ := hs.obj _ _ ho
  generalize hv : a.eval x = v at hr
  cases hr with
  | sl b' s' _ _ _ _ cap hρ hc hs' =>
    rw [k1] at hρ; cases hρ
    have hcap : u.toNat ≤ cap := by
      have : u.toNat * es' ≤ cap * es' := by omega
      exact Nat.le_of_mul_le_mul_right this h4
    have hb := run_bounds (P := P) hs true len cap lo hi l u hl hu h5 h6 (by omega)
    refine ⟨.slice (some ⟨b, off + l.toNat * es', none⟩) (u.toNat - l.toNat) (cap - l.toNat), ?_, .sl b s id _ _ es' (cap - l.toNat) k1 (by omega) ?_⟩
    · simp only [execOp, hv, Instr.sliceAt, Sem.run_bind, run_underlying hty, Result.andThen_ok, Instr.slice, Option.map_none, hb, Sem.run_pure, run_siz hsz.out]
      by_cases hcl : cap = l.toNat
      · have : l.toNat = 0 := by omega
        rw [if_pos hcl, this]; simp
      · rw [if_neg hcl]; simp [Addr.add_lit]
    · rw [Nat.add_assoc, ← Nat.add_mul, show l.toNat + (cap - l.toNat) = cap by omega]; exact hs'

theorem Q_append00 {e : TypeId} {es : Nat} (t : TypeId) (x y : Operand) [he : TElem P t e] [hsz : TSiz P e es]
    (h : bindK (islAV (st.op x)) fun p => bindK (srcOf st (st.op y)) fun q => p = (true, [], 0) ∧ q.1 = [] ∧ q.2 = 0 ∧ K 0 ⟨.isl true [] 0, []⟩) : AO P ⟨dst, .call ⟨.builtin .append, #[x, y], #[t, t]⟩, ty, pos, af, g⟩ nid st K := by
  obtain ⟨p, h1, ⟨cells, m⟩, h2, rfl, h3, h4, h5⟩ := h
  dsimp only at h3 h4
  subst h3; subst h4
  refine ⟨0, _, .pure fun c ρ D J a w hs => ?_, h5⟩
  have e1 := hs.op x; rw [islAV_eq h1] at e1
  obtain ⟨i, hi, his⟩ : ∃ i, P.info? e = some i ∧ i.size = es := by
    have := hsz.out
    unfold siz at this
    cases hi : P.info? e with
    | none => simp [hi] at this
    | some i => exact ⟨i, rfl, by simpa [hi] using this⟩
  have hv0 : a.eval x = .slice none 0 0 := by
    generalize hxx : AV.isl true [] 0 = xx at e1
    generalize a.eval x = v at e1
    cases e1 <;> simp at hxx
    rfl
  refine ⟨.slice none 0 0, ?_, .inil⟩
  rcases src_rep hs (hs.op y) h2 (show ([] : List AV).length = 0 * es by simp) with ⟨hy0, _, _⟩ | ⟨ad, cp, news, hyv, hmc, hnl, hnews, hone, hrep⟩
  · simp [execOp, resolve, invoke, builtin, hv0, hy0, Builtin.append_, run_underlying (run_elemOf he.out), sizeOf, typeInfo, hi, Builtin.lenOf, Builtin.firstCells, storeCells]
  · simp [execOp, resolve, invoke, builtin, hv0, hyv, Builtin.append_, run_underlying (run_elemOf he.out), sizeOf, typeInfo, hi, Builtin.lenOf, Builtin.firstCells, storeCells, loadCells, loadCellsFrom]

class TOver (P : Program) (f : FuncId) (t : outParam TypeId) : Prop where
  out : ∃ (fn : Func) (r e : TypeId) (n : Nat), P.funcs[f]? = some fn ∧ (fn.name == "runtime.NumGoroutine") = false ∧ fn.body.isNone = true ∧ Extern.findNext fn = none ∧ Extern.find fn = some (Extern.SlicesOverlaps.overlaps #[t, t] #[r]) ∧ P.underlying t = some (.slice e) ∧ siz P e = some n

end

attribute [push_cast] e_fullOb renO_full e_intsAV e_intsL0 e_intsL1 e_eqI0 e_eqI1 Bool.and_eq_true Bool.and_eq_false_iff Bool.or_eq_true Bool.or_eq_false_iff e_fn
end Go.Sy
/- Sym21. -/
set_option linter.unusedVariables false
set_option linter.unusedSectionVars false
set_option linter.unusedSimpArgs false
namespace Go.Sy

def keyForm (P : Program) (k : TypeId) : Option (Bool × Nat) := match P.underlying k with
  | some (.int .i64) => some (false, 1)
  | _ => match flatKs P k with
    | some ks => if ks.all (fun x => x == .i64)  then some (true, ks.length) else none
    | none => none

def mapOf (P : Program) (t : TypeId) : Option (TypeId × TypeId) := match P.underlying t with
  | some (.map k e) => some (k, e)
  | _ => none
theorem run_mapOf {P : Program} {t k e : TypeId} (h : mapOf P t = some (k, e)) : P.underlying t = some (.map k e) := by
  unfold mapOf at h
  split at h
  · cases h; assumption
  · cases h

def keyA (ag : Bool) (ks : List Int) : AV := if ag then .agg (ks.map fun n => .val (.int .i64 n)) else .val (.int .i64 (ks.headD 0))

theorem rep_key {w : World} {J : Nat → Prop} {ρ : Rho} {v : Value} {ag : Bool} {ks : List Int} (h : Rep w J ρ v (keyA ag ks)) : v = keyV ag ks := by
  cases ag with
  | false => simp only [keyA, keyV, Bool.false_eq_true, if_false] at h ⊢; exact rep_val_inv h
  | true =>
    simp only [keyA, keyV, if_true] at h ⊢
    have := rep_ints (ps := ks.map fun n => (IntKind.i64, n)) (ks := ks.map fun _ => IntKind.i64) (v := v) (w := w) (J := J) (ρ := ρ) (by rw [List.map_map]; exact h) (by simp)
    rw [this]
    congr 2
    simp [mkInts]
def assoc : List (List Int × AV) → List Int → Option AV
  | [], _ => none
  | (k, v) :: l, x => if k = x then some v else assoc l x
def putM : List (List Int × AV) → List Int → AV → List (List Int × AV)
  | [], x, v => [(x, v)]
  | (k, u) :: l, x, v => if k = x then (k, v) :: l else (k, u) :: putM l x v

section
variable {P : Program} {w : World}

theorem checkKey_int {k : TypeId} (h : P.underlying k = some (.int .i64)) (em : Bool) (n : Nat) (m : Int) : (Instr.checkKey em (n + 1) k (.int .i64 m)).run P w = .ok () w := by
  rw [Instr.checkKey]; simp [run_underlying h]

theorem checkKey_elem {e : TypeId} {kk : IntKind} (h : kindOf P e = some kk) (em : Bool) (n : Nat) (m : Int) : (Instr.checkKey em (n + 1) e (.int kk m)).run P w = .ok () w := by
  rw [Instr.checkKey]; simp [run_underlying (run_kindOf h)]

theorem checkFields {d : Nat} {em : Bool} {cs : Array Value} : ∀ (fs : List Field) (i : Nat) (ks : List IntKind), flatFields P i fs = some ks → (∀ j k, ks[j]? = some k → ∃ n, cs[i + j]? = some (.int k n)) →
    (forIn (m := Sem) fs () (fun f _ => if f.name ≠ "_" then do
        let x ← part f.type cs f.offset
        Instr.checkKey em (d + 1) f.type x
        pure (ForInStep.yield ())
      else pure (ForInStep.yield ()))).run P w = .ok () w := by
  intro fs
  induction fs with
  | nil => intro i ks _ _; simp
  | cons f fs ih =>
    intro i ks h hc
    unfold flatFields at h
    split at h
    · rename_i k ks' hk hks
      split at h
      · rename_i hcond
        cases h
        obtain ⟨n, hn⟩ := hc 0 k rfl
        have e1 := part_int (w := w) hk hn
        simp only [Nat.add_zero] at e1
        have e2 := ih (i + 1) ks' hks (fun j k h => by have := hc (j + 1) k (by simpa using h); rwa [show i + (j + 1) = i + 1 + j by omega] at this)
        rw [List.forIn_cons]
        simp only [if_pos hcond.2, Sem.run_bind, hcond.1, e1, Result.andThen_ok, checkKey_elem hk, Sem.run_pure, e2]
      · cases h
    · cases h

theorem checkElems {d : Nat} {em : Bool} {e : TypeId} {kk : IntKind} (hz : siz P e = some 1) (hk : kindOf P e = some kk) {cs : Array Value} : ∀ (n i : Nat), (∀ j, i ≤ j → j < i + n → ∃ m, cs[j]? = some (.int kk m)) →
    (forIn (m := Sem) (List.range' i n 1) () (fun i _ => do
        let z ← sizeOf e
        let x ← part e cs (i * z)
        Instr.checkKey em (d + 1) e x
        pure (ForInStep.yield ()))).run P w = .ok () w := by
  intro n
  induction n with
  | zero => intro i _; simp [List.range']
  | succ n ih =>
    intro i hc
    obtain ⟨m, hm⟩ := hc i (Nat.le_refl _) (by omega)
    have e1 := part_int (w := w) hk hm
    have e2 := ih (i + 1) (fun j h1 h2 => hc j (by omega) (by omega))
    rw [List.range', List.forIn_cons]
    simp only [Sem.run_bind, run_siz hz, Nat.mul_one, e1, Result.andThen_ok, checkKey_elem hk, Sem.run_pure, e2]

theorem keys_all {ks : List IntKind} (h : ks.all (fun x => x == .i64) = true) : ks = List.replicate ks.length .i64 := by
  rw [List.eq_replicate_iff]
  exact ⟨rfl, fun b hb => by have := List.all_eq_true.1 h b hb; cases b <;> first | rfl | cases this⟩

theorem keyForm_flat {k : TypeId} {n : Nat} (h : keyForm P k = some (true, n)) : ∃ ks, flatKs P k = some ks ∧ ks = List.replicate n .i64 := by
  unfold keyForm at h
  split at h
  · cases h
  · split at h
    · rename_i ks hks
      split at h
      · rename_i hc
        cases h
        exact ⟨ks, hks, keys_all hc⟩
      · cases h
    · cases h
theorem keyForm_int {k : TypeId} {n : Nat} (h : keyForm P k = some (false, n)) : P.underlying k = some (.int .i64) ∧ n = 1 := by
  unfold keyForm at h
  split at h
  · cases h; exact ⟨by assumption, rfl⟩
  · split at h
    · split at h <;> cases h
    · cases h

theorem keyV_mk {n : Nat} {a : List Int} (ha : a.length = n) : keyV true a = .agg (mkInts (List.replicate n .i64) a).toArray := by
  simp only [keyV, if_true, mkInts]
  congr 2
  subst ha
  induction a with
  | nil => rfl
  | cons x a ih => simp [List.replicate_succ, ih]

theorem checkKey_ok {k : TypeId} {ag : Bool} {n : Nat} (h : keyForm P k = some (ag, n)) {a : List Int} (ha : a.length = n) (em : Bool) : (Instr.checkKey em 10000 k (keyV ag a)).run P w = .ok () w := by
  cases ag with
  | false =>
    obtain ⟨hu, rfl⟩ := keyForm_int h
    simp only [keyV, Bool.false_eq_true, if_false]
    exact checkKey_int hu em 9999 _
  | true =>
    obtain ⟨ks, hks, rfl⟩ := keyForm_flat h
    rw [keyV_mk ha]
    have hget : ∀ j k', (List.replicate n IntKind.i64)[j]? = some k' → ∃ m, (mkInts (List.replicate n .i64) a).toArray[0 + j]? = some (.int k' m) := by
      intro j k' hj
      have hjn : j < n := by have := (List.getElem?_eq_some_iff.1 hj).1; simpa using this
      exact ⟨a[j], ints_get (by simpa using ha) j k' _ hj (List.getElem?_eq_getElem (by omega))⟩
    rw [show (10000 : Nat) = 9998 + 1 + 1 from rfl, Instr.checkKey]
    unfold flatKs at hks
    split at hks
    · rename_i fs hu
      split at hks
      · cases hks
      · have := checkFields (w := w) (d := 9998) (em := em) (cs := (mkInts (List.replicate n .i64) a).toArray) fs.toList 0 _ hks hget
        simp only [Sem.run_bind, run_underlying hu, Result.andThen_ok]
        rw [← Array.forIn_toList]
        exact Eq.trans (congrArg (fun r => Result.andThen r fun _ w' => Sem.run P (pure ()) w') this) rfl
    · rename_i m e hu
      split at hks
      · rename_i kk hk hz
        simp only [Option.some.injEq] at hks
        have hmn : m = n := by have := congrArg List.length hks; simpa using this
        subst hmn
        have := checkElems (w := w) (d := 9998) (em := em) hz hk (cs := (mkInts (List.replicate m .i64) a).toArray) m 0 (fun j _ hj => by
          obtain ⟨v, hv⟩ := hget j .i64 (by rw [List.getElem?_replicate, if_pos (by omega)])
          have : kk = .i64 := by
            have := congrArg (·[j]?) hks
            simp only [List.getElem?_replicate] at this
            rw [if_pos (by omega), if_pos (by omega)] at this
            exact Option.some.inj this
          subst this
          exact ⟨v, by rwa [Nat.zero_add] at hv⟩)
        simp only [Sem.run_bind, run_underlying hu, Result.andThen_ok, run_siz hz, Std.Legacy.Range.forIn_eq_forIn_range', Std.Legacy.Range.size, Nat.sub_zero, Nat.add_sub_cancel, Nat.div_one]
        exact Eq.trans (congrArg (fun r => Result.andThen r fun _ w' => Sem.run P (pure ()) w') this) rfl
      · cases hks
    · cases hks

theorem equal_key {k : TypeId} {ag : Bool} {n : Nat} (h : keyForm P k = some (ag, n)) {a b : List Int} (ha : a.length = n) (hb : b.length = n) : (Op.equal k (keyV ag a) (keyV ag b)).run P w = .ok (decide (a = b)) w := by
  cases ag with
  | false =>
    obtain ⟨hu, rfl⟩ := keyForm_int h
    match a, b with
    | [x], [y] =>
      show (Op.equalIn (9999 + 1) k (.int .i64 x) (.int .i64 y)).run P w = _
      rw [run_equalIn_int w 9999 k .i64 .i64 x y hu]; simp [BEq.beq]
    | [], _ => simp at ha
    | _ :: _ :: _, _ => simp at ha
    | [_], [] => simp at hb
    | [_], _ :: _ :: _ => simp at hb
  | true =>
    obtain ⟨ks, hks, rfl⟩ := keyForm_flat h
    rw [keyV_mk ha, keyV_mk hb]
    exact equal_flat hks (by simpa using ha) (by simpa using hb) w

def findM (ag : Bool) (x : List Int) : List (List Int × Value) → Nat → Option (Nat × Value)
  | [], _ => none
  | (k, v) :: l, i => if x = k then some (i, v) else findM ag x l (i + 1)

theorem findAsking_ok {k : TypeId} {ag : Bool} {n : Nat} (h : keyForm P k = some (ag, n)) {x : List Int} (hx : x.length = n) : ∀ (es : List MapEntry) (l : List (List Int × Value)) (i : Nat), es.map (fun e => (e.key, e.val)) = l.map (fun p => (keyV ag p.1, p.2)) → (∀ p ∈ l, p.1.length = n) →
    (Instr.findAsking k (keyV ag x) es i).run P w = .ok (findM ag x l i) w := by
  intro es
  induction es with
  | nil => intro l i he _; cases l with
           | nil => simp [Instr.findAsking, findM]
           | cons _ _ => simp at he
  | cons e es ih =>
    intro l i he hl
    cases l with
    | nil => simp at he
    | cons p l =>
      simp only [List.map_cons, List.cons.injEq, Prod.mk.injEq] at he
      obtain ⟨⟨h1, h2⟩, h3⟩ := he
      rw [Instr.findAsking]
      simp only [Sem.run_bind, h1, equal_key h hx (hl p List.mem_cons_self), Result.andThen_ok]
      rw [findM]
      by_cases hc : x = p.1
      · simp [hc, h2]
      · simp only [hc, decide_false, Bool.false_eq_true, if_false]
        exact ih l (i + 1) h3 (fun q hq => hl q (List.mem_cons_of_mem _ hq))

theorem findNow_int {x : Int} : ∀ (es : List MapEntry) (l : List (List Int × Value)) (i : Nat), es.map (fun e => (e.key, e.val)) = l.map (fun p => (keyV false p.1, p.2)) → (∀ p ∈ l, p.1.length = 1) →
    Instr.findNow (.int .i64) (.int .i64 x) es i = some (findM false [x] l i) := by
  intro es
  induction es with
  | nil => intro l i he _; cases l with
           | nil => simp [Instr.findNow, findM]
           | cons _ _ => simp at he
  | cons e es ih =>
    intro l i he hl
    cases l with
    | nil => simp at he
    | cons p l =>
      simp only [List.map_cons, List.cons.injEq, Prod.mk.injEq] at he
      obtain ⟨⟨h1, h2⟩, h3⟩ := he
      obtain ⟨k, v⟩ := p
      have hk := hl (k, v) List.mem_cons_self
      match k, hk with
      | [y], _ =>
        have hs : Instr.sameNow (.int .i64) (.int .i64 x) e.key = some (x == y) := by
          rw [h1]; simp [keyV, Instr.sameNow]
        rw [Instr.findNow, hs, findM]
        by_cases hc : x = y
        · simp [hc, h2]
        · have : (x == y) = false := by simpa using hc
          rw [this]
          simp only [List.cons.injEq, and_true, hc, if_false]
          exact ih l (i + 1) h3 (fun q hq => hl q (List.mem_cons_of_mem _ hq))

theorem findKey_ok {k : TypeId} {ag : Bool} {n : Nat} (h : keyForm P k = some (ag, n)) {x : List Int} (hx : x.length = n) (es : List MapEntry) (l : List (List Int × Value)) (he : es.map (fun e => (e.key, e.val)) = l.map (fun p => (keyV ag p.1, p.2))) (hl : ∀ p ∈ l, p.1.length = n) :
    (Instr.findKey k (keyV ag x) es).run P w = .ok (findM ag x l 0) w := by
  unfold Instr.findKey
  cases ag with
  | false =>
    obtain ⟨hu, rfl⟩ := keyForm_int h
    match x, hx with
    | [y], _ =>
      simp only [Sem.run_bind, run_underlying hu, Result.andThen_ok, keyV, Bool.false_eq_true, if_false, List.headD_cons]
      rw [findNow_int es l 0 he hl]
      rfl
  | true =>
    obtain ⟨ks, hks, _⟩ := keyForm_flat h
    have hu : ∃ d, P.underlying k = some d ∧ ∀ a b, Instr.sameNow d (.agg a) b = none := by
      unfold flatKs at hks
      split at hks
      · rename_i fs hu; exact ⟨_, hu, fun a b => by simp [Instr.sameNow]⟩
      · rename_i m e hu; exact ⟨_, hu, fun a b => by simp [Instr.sameNow]⟩
      · cases hks
    obtain ⟨d, hu, hd⟩ := hu
    simp only [Sem.run_bind, run_underlying hu, Result.andThen_ok]
    cases es with
    | nil =>
      cases l with
      | nil => simp [Instr.findNow, findM]
      | cons _ _ => simp at he
    | cons e es =>
      have : Instr.findNow d (keyV true x) (e :: es) 0 = none := by
        simp only [keyV, if_true]
        rw [Instr.findNow, hd]
      rw [this]
      exact findAsking_ok h hx (e :: es) l 0 he hl

def mapOb : Option AObj → Option (Bool × Nat × List (List Int × AV))
  | some (.map ag n l) => some (ag, n, l)
  | _ => none
def mpAV : AV → Option Nat
  | .mp id => some id
  | _ => none
theorem e_mapOb {ag : Bool} {n : Nat} {l : List (List Int × AV)} : mapOb (some (.map ag n l)) = some (ag, n, l) := rfl
theorem e_mp {id : Nat} : mpAV (.mp id) = some id := rfl
theorem mpAV_eq {x : AV} {id : Nat} (h : mpAV x = some id) : x = .mp id := by cases x <;> simp [mpAV] at h; subst h; rfl
theorem mapOb_eq {o : Option AObj} {p : Bool × Nat × List (List Int × AV)} (h : mapOb o = some p) : o = some (.map p.1 p.2.1 p.2.2) := by
  unfold mapOb at h
  split at h
  · cases h; rfl
  · cases h

def keyInts (ag : Bool) (x : AV) : Option (List Int) := if ag then (intsAV x).bind fun ps => if ps.all (fun p => p.1 == .i64) then some (ps.map (·.2)) else none
  else (intkAV x).bind fun p => if p.1 = .i64 then some [p.2] else none
theorem keyInts_eq {ag : Bool} {x : AV} {ks : List Int} (h : keyInts ag x = some ks) : x = keyA ag ks := by
  unfold keyInts at h
  cases ag with
  | true =>
    simp only [if_true] at h
    obtain ⟨ps, h1, h2⟩ := Option.bind_eq_some_iff.1 h
    split at h2
    · rename_i hc
      cases h2
      rw [intsAV_eq h1]
      simp only [keyA, if_true, List.map_map]
      congr 1
      refine List.map_congr_left (fun p hp => ?_)
      have := List.all_eq_true.1 hc p hp
      have e : p.1 = .i64 := by cases hq : p.1 <;> rw [hq] at this <;> first | rfl | cases this
      simp [e]
    · cases h2
  | false =>
    simp only [Bool.false_eq_true, if_false] at h
    obtain ⟨p, h1, h2⟩ := Option.bind_eq_some_iff.1 h
    split at h2
    · rename_i hc
      cases h2
      rw [intkAV_eq h1, hc]; rfl
    · cases h2
theorem e_keyInts1 {n : Int} : keyInts false (.val (.int .i64 n)) = some [n] := rfl
theorem e_keyInts2 {a b : Int} : keyInts true (.agg [.val (.int .i64 a), .val (.int .i64 b)]) = some [a, b] := rfl
theorem e_keyInts3 {a b c : Int} : keyInts true (.agg [.val (.int .i64 a), .val (.int .i64 b), .val (.int .i64 c)]) = some [a, b, c] := rfl

def zeroAV (P : Program) (e : TypeId) : Option AV := ((P.info? e).bind (·.zero)).map fun
  | .agg cs => .agg (cs.toList.map ofV)
  | v => ofV v
theorem run_zeroAV {e : TypeId} {z : AV} (h : zeroAV P e = some z) : ∃ v, (zeroValue e).run P w = .ok v w ∧ ∀ (J : Nat → Prop) (ρ : Rho), Rep w J ρ v z := by
  unfold zeroAV at h
  cases hi : P.info? e with
  | none => simp [hi] at h
  | some i =>
    cases hz : i.zero with
    | none => simp [hi, hz] at h
    | some v =>
      simp only [hi, Option.bind_some, hz, Option.map_some, Option.some.injEq] at h
      refine ⟨v, by simp [zeroValue, typeInfo, hi, hz], fun J ρ => ?_⟩
      subst h
      split
      · rename_i cs
        refine .agg _ _ (by simp) (fun j hj => ?_)
        have hj' : j < cs.size := by simpa using hj
        simp only [Array.getD, hj', dif_pos, List.getElem_map, Array.getElem_toList]
        exact rep_ofV _
      · exact rep_ofV _

class TMap (P : Program) (t : TypeId) (k e : outParam TypeId) : Prop where out : mapOf P t = some (k, e)
class TKey (P : Program) (k : TypeId) (ag : outParam Bool) (n : outParam Nat) : Prop where out : keyForm P k = some (ag, n)
class TZeroV (P : Program) (e : TypeId) (z : outParam AV) : Prop where out : zeroAV P e = some z

theorem map_list {J : Nat → Prop} {ρ : Rho} {ag : Bool} {n : Nat} {ms : Array MapEntry} {l : List (List Int × AV)} (h1 : ms.size = l.length)
    (h2 : ∀ j (h : j < l.length), ((ms.getD j default).key = keyV ag l[j].1 ∧ l[j].1.length = n ∧ (ms.getD j default).born = j) ∧ Rep w J ρ ((ms.getD j default).val) l[j].2) :
    ∃ lv : List (List Int × Value), ms.toList.map (fun e => (e.key, e.val)) = lv.map (fun p => (keyV ag p.1, p.2)) ∧ (∀ p ∈ lv, p.1.length = n) ∧ lv.length = l.length ∧ ∀ j (h : j < l.length) (h' : j < lv.length), lv[j].1 = l[j].1 ∧ Rep w J ρ lv[j].2 l[j].2 := by
  refine ⟨(List.range l.length).map fun j => ((l.getD j ([], .any)).1, (ms.getD j default).val), ?_, ?_, by simp, fun j h h' => ?_⟩
  · apply List.ext_getElem
    · simp [h1]
    · intro j hj hj'
      have hjl : j < l.length := by simpa [h1] using hj
      have := (h2 j hjl).1.1
      have hjm : j < ms.size := by omega
      simp [Array.getD, hjm, List.getD_eq_getElem?_getD, hjl] at this ⊢
      exact this
  · intro p hp
    obtain ⟨j, hj, rfl⟩ := List.mem_map.1 hp
    have hjl : j < l.length := by simpa using hj
    simpa [List.getD_eq_getElem?_getD, hjl] using (h2 j hjl).1.2.1
  · simp only [List.getElem_map, List.getElem_range, List.getD_eq_getElem?_getD, List.getElem?_eq_getElem h, Option.getD_some]
    exact ⟨trivial, (h2 j h).2⟩

theorem find_assoc {J : Nat → Prop} {ρ : Rho} {ag : Bool} {x : List Int} : ∀ (lv : List (List Int × Value)) (l : List (List Int × AV)) (i : Nat), lv.length = l.length → (∀ j (h : j < l.length) (h' : j < lv.length), lv[j].1 = l[j].1 ∧ Rep w J ρ lv[j].2 l[j].2) →
    (findM ag x lv i = none ∧ assoc l x = none) ∨ ∃ j v a, findM ag x lv i = some (i + j, v) ∧ assoc l x = some a ∧ Rep w J ρ v a ∧ (∃ h : j < l.length, l[j].1 = x) ∧ (∀ q (h : q < l.length), q < j → l[q].1 ≠ x)
  | [], [], i, _, _ => .inl ⟨rfl, rfl⟩
  | (k, v) :: lv, (k', a) :: l, i, hl, h => by
    have h0 := h 0 (by simp) (by simp)
    simp only [List.getElem_cons_zero] at h0
    obtain ⟨rfl, hr⟩ := h0
    by_cases hx : x = k
    · subst hx
      exact .inr ⟨0, v, a, by simp [findM], by simp [assoc], hr, ⟨by simp, rfl⟩, fun q _ hq => absurd hq (by omega)⟩
    · rcases find_assoc lv l (i + 1) (by simpa using hl) (fun j h1 h2 => by have := h (j + 1) (by simpa using h1) (by simpa using h2); exact this) with ⟨h1, h2⟩ | ⟨j, v', a', h1, h2, h3, ⟨h4, h5⟩, h6⟩
      · exact .inl ⟨by rw [findM, if_neg hx]; exact h1, by rw [assoc, if_neg (Ne.symm hx)]; exact h2⟩
      · refine .inr ⟨j + 1, v', a', by rw [findM, if_neg hx, h1]; congr 2; omega, by rw [assoc, if_neg (Ne.symm hx)]; exact h2, h3, ⟨by simpa using h4, by simpa using h5⟩, fun q hq hlt => ?_⟩
        cases q with
        | zero => simpa using Ne.symm hx
        | succ q => simpa using h6 q (by simpa using hq) (by omega)
  | [], _ :: _, _, hl, _ => by simp at hl
  | _ :: _, [], _, hl, _ => by simp at hl

theorem put_new : ∀ (l : List (List Int × AV)) (x : List Int) (v : AV), assoc l x = none → putM l x v = l ++ [(x, v)]
  | [], _, _, _ => rfl
  | (k, u) :: l, x, v, h => by
    rw [assoc] at h
    split at h
    · cases h
    · rename_i hk; rw [putM, if_neg hk, put_new l x v h]; rfl
theorem put_old : ∀ (l : List (List Int × AV)) (x : List Int) (v : AV) (j : Nat), (∃ h : j < l.length, l[j].1 = x) → (∀ q (h : q < l.length), q < j → l[q].1 ≠ x) → putM l x v = l.set j (x, v)
  | [], _, _, _, ⟨h, _⟩, _ => by simp at h
  | (k, u) :: l, x, v, 0, ⟨_, h⟩, _ => by simp at h; subst h; simp [putM]
  | (k, u) :: l, x, v, j + 1, ⟨h1, h2⟩, h3 => by
    have h0 := h3 0 (by simp) (by omega)
    simp only [List.getElem_cons_zero] at h0
    rw [putM, if_neg h0, put_old l x v j ⟨by simpa using h1, by simpa using h2⟩ (fun q hq hlt => by have := h3 (q + 1) (by simpa using hq) (by omega); exact this)]
    rfl
end

section
variable {P : Program} {Q : Exit → Nat → St → Prop} {nid : Nat} {st : St} {dst : Option Nat} {ty : TypeId} {pos : String} {af : Array Edge} {g : Option (Nat × Bool)} {K : Nat → Eff → Prop}

theorem Q_makeMap {k e : TypeId} {ag : Bool} {n : Nat} (t : TypeId) [hm : TMap P t k e] [hk : TKey P k ag n] (h : K 1 ⟨.mp nid, [(nid, some (.map ag n []))]⟩) : AO P ⟨dst, .makeMap t none, ty, pos, af, g⟩ nid st K := by
  refine ⟨1, _, .alloc fun c ρ D J a w hs => ?_, h⟩
  refine ⟨.map (some w.heap.size), w.alloc (.map #[] 0), .map #[] 0, 0, by rfl, Grew.alloc w _, fun ρ' h1 h2 => ⟨.mp _ _ nid h1, #[], 0, (Grew.alloc w _).new, ⟨rfl, rfl⟩, fun j hj => by simp at hj⟩⟩

theorem opT_lookup {k e : TypeId} {ag : Bool} {n : Nat} {z : AV} (t : TypeId) (m x : Operand) (ok : Bool) (hm : mapOf P t = some (k, e)) (hk : keyForm P k = some (ag, n)) (hz : zeroAV P e = some z) {id : Nat} {l : List (List Int × AV)} {ks : List Int}
    (h1 : st.op m = .mp id) (h2 : st.ob id = some (.map ag n l)) (h3 : st.op x = keyA ag ks) (h4 : ks.length = n) :
    OpT P ⟨dst, .lookup t m x ok, ty, pos, af, g⟩ nid 0 st ⟨if ok then .tup [(assoc l ks).getD z, .val (.bool (assoc l ks).isSome)] else (assoc l ks).getD z, []⟩ := .pure fun c ρ D J a w hs => by
  obtain ⟨b, s, k1, ⟨ms, clock, k2, k3, k4⟩, _⟩ := hs.obj _ _ h2
  have r1 := hs.op m; rw [h1] at r1
  have r2 := hs.op x; rw [h3] at r2
  have r2 := rep_key r2
  generalize hv : a.eval m = mv at r1
  cases r1 with
  | mp b' s' _ hρ =>
    rw [k1] at hρ; cases hρ
    obtain ⟨lv, g1, g2, g3, g4⟩ := map_list k3.1 k4
    obtain ⟨zv, z1, z2⟩ := run_zeroAV (w := w) hz
    have hfk := findKey_ok (w := w) hk h4 ms.toList lv g1 g2
    have hck := checkKey_ok (w := w) hk h4 ms.isEmpty
    have hget : (getObj b).run P w = .ok (.map ms clock) w := by simp [getObj, Sem.run, k2]
    have hrun : ∀ (v : Value) (o : Bool), (match findM ag ks lv 0 with | some (_, v) => (v, true) | none => (zv, false)) = (v, o) →
        (execOp a.eval ⟨dst, .lookup t m x ok, ty, pos, af, g⟩).run P w = .ok (.value (if ok then .tuple #[v, .bool o] else v)) w := by
      intro v o hvo
      simp only [execOp, Instr.lookup, hv, r2, Sem.run_bind, run_underlying (run_mapOf hm), Result.andThen_ok, hget, Sem.run_pure, hck, hfk]
      cases hf : findM ag ks lv 0 with
      | none => rw [hf] at hvo; simp only [Prod.mk.injEq] at hvo; obtain ⟨rfl, rfl⟩ := hvo; simp [z1]
      | some p => rw [hf] at hvo; simp only [Prod.mk.injEq] at hvo; obtain ⟨rfl, rfl⟩ := hvo; simp
    rcases find_assoc (ag := ag) (x := ks) lv l 0 g3 g4 with ⟨f1, f2⟩ | ⟨j, v, av, f1, f2, f3, _⟩
    · refine ⟨_, hrun zv false (by rw [f1]), ?_⟩
      rw [f2]
      cases ok with
      | true => exact .tup _ _ rfl (fun j hj => match j, hj with | 0, _ => z2 _ _ | 1, _ => .val _)
      | false => exact z2 _ _
    · refine ⟨_, hrun v true (by rw [f1]), ?_⟩
      rw [f2]
      cases ok with
      | true => exact .tup _ _ rfl (fun j hj => match j, hj with | 0, _ => f3 | 1, _ => .val _)
      | false => exact f3

theorem Q_lookup {k e : TypeId} {ag : Bool} {n : Nat} {z : AV} (t : TypeId) (m x : Operand) [hm : TMap P t k e] [hk : TKey P k ag n] [hz : TZeroV P e z]
    (h : bindK (mpAV (st.op m)) fun id => bindK (mapOb (st.ob id)) fun q => bindK (keyInts ag (st.op x)) fun ks => q.1 = ag ∧ q.2.1 = n ∧ ks.length = n ∧ K 0 ⟨(assoc q.2.2 ks).getD z, []⟩) :
    AO P ⟨dst, .lookup t m x false, ty, pos, af, g⟩ nid st K := by
  obtain ⟨id, h1, ⟨ag', n', l⟩, h2, ks, h3, h4, h5, h6, h7⟩ := h
  dsimp only at h4 h5 h7
  subst h4; subst h5
  exact ⟨0, _, opT_lookup t m x false hm.out hk.out hz.out (mpAV_eq h1) (mapOb_eq h2) (keyInts_eq h3) h6, h7⟩
theorem Q_lookupOk {k e : TypeId} {ag : Bool} {n : Nat} {z : AV} (t : TypeId) (m x : Operand) [hm : TMap P t k e] [hk : TKey P k ag n] [hz : TZeroV P e z]
    (h : bindK (mpAV (st.op m)) fun id => bindK (mapOb (st.ob id)) fun q => bindK (keyInts ag (st.op x)) fun ks => q.1 = ag ∧ q.2.1 = n ∧ ks.length = n ∧ K 0 ⟨.tup [(assoc q.2.2 ks).getD z, .val (.bool (assoc q.2.2 ks).isSome)], []⟩) :
    AO P ⟨dst, .lookup t m x true, ty, pos, af, g⟩ nid st K := by
  obtain ⟨id, h1, ⟨ag', n', l⟩, h2, ks, h3, h4, h5, h6, h7⟩ := h
  dsimp only at h4 h5 h7
  subst h4; subst h5
  exact ⟨0, _, opT_lookup t m x true hm.out hk.out hz.out (mpAV_eq h1) (mapOb_eq h2) (keyInts_eq h3) h6, h7⟩

theorem sameBits_key {ag : Bool} {ks : List Int} : Instr.sameBits 10000 (keyV ag ks) (keyV ag ks) = true := by
  cases ag with
  | false => simp [keyV, Instr.sameBits]
  | true =>
    simp only [keyV, if_true]
    rw [Instr.sameBits]
    simp only [beq_self_eq_true, Bool.true_and, List.all_eq_true]
    intro p hp
    obtain ⟨a, b⟩ := p
    have : a = b ∧ ∃ n, a = .int .i64 n := by
      rw [List.mem_iff_getElem] at hp
      obtain ⟨j, hj, he⟩ := hp
      simp only [List.getElem_zip, Prod.mk.injEq] at he
      obtain ⟨rfl, rfl⟩ := he
      exact ⟨rfl, ks[j]'(by simpa using hj), by simp⟩
    obtain ⟨rfl, n, rfl⟩ := this
    simp [Instr.sameBits]

theorem opT_mapUpdate {k e : TypeId} {ag : Bool} {n : Nat} (t : TypeId) (m x y : Operand) (hm : mapOf P t = some (k, e)) (hk : keyForm P k = some (ag, n)) {id : Nat} {l : List (List Int × AV)} {ks : List Int}
    (h1 : st.op m = .mp id) (h2 : st.ob id = some (.map ag n l)) (h3 : st.op x = keyA ag ks) (h4 : ks.length = n) :
    OpT P ⟨dst, .mapUpdate t m x y, ty, pos, af, g⟩ nid 0 st ⟨.any, [(id, some (.map ag n (putM l ks (st.op y))))]⟩ := OpT.modify h2 fun c ρ D J a w b s hs hρ hob hJ => by
  obtain ⟨ms, clock, k2, k3, k4⟩ := hob
  have r1 := hs.op m; rw [h1] at r1
  have r2 := hs.op x; rw [h3] at r2
  have r2 := rep_key r2
  generalize hv : a.eval m = mv at r1
  cases r1 with
  | mp b' s' _ hρ' =>
    rw [hρ] at hρ'; cases hρ'
    obtain ⟨lv, g1, g2, g3, g4⟩ := map_list k3.1 k4
    have hfk := findKey_ok (w := w) hk h4 ms.toList lv g1 g2
    have hck := checkKey_ok (w := w) hk h4 false
    have hget : (getObj b).run P w = .ok (.map ms clock) w := by simp [getObj, Sem.run, k2]
    have hlt : b < w.heap.size := (Array.getElem?_eq_some_iff.1 k2).1
    have hset : ∀ o : Obj, (setObj b o).run P w = .ok () { w with heap := w.heap.setIfInBounds b o } := fun o => by simp [setObj, Sem.run, k2]
    have other : ∀ (o : Obj) k, k ≠ b → ({ w with heap := w.heap.setIfInBounds b o } : World).heap[k]? = w.heap[k]? := fun o k hk => by simp [Array.getElem?_setIfInBounds, Ne.symm hk]
    have here : ∀ (o : Obj), ({ w with heap := w.heap.setIfInBounds b o } : World).heap[b]? = some o := fun o => by simp [Array.getElem?_setIfInBounds, hlt]
    rcases find_assoc (ag := ag) (x := ks) lv l 0 g3 g4 with ⟨f1, f2⟩ | ⟨j, v, av, f1, f2, f3, ⟨f4, f5⟩, f6⟩
    · refine ⟨.skip, { w with heap := w.heap.setIfInBounds b (.map (ms.push { key := keyV ag ks, val := a.eval y, born := clock }) (clock + 1)) }, undef, ?_, .inr ⟨rfl, rfl⟩, ?_, rfl, rfl, rfl, other (.map (ms.push { key := keyV ag ks, val := a.eval y, born := clock }) (clock + 1)), fun hi => ⟨.any _, _, _, here _, ?_, ?_⟩⟩
      · simp only [execOp, Instr.mapUpdate, hv, r2, Sem.run_bind, run_underlying (run_mapOf hm), Result.andThen_ok, hget, hck, hfk, f1, hset, Sem.run_pure]
      · simp
      · rw [put_new _ _ _ f2]; exact ⟨by simp [k3.1], by rw [k3.2]; simp⟩
      · rw [put_new _ _ _ f2]
        intro j hj
        by_cases hjl : j < l.length
        · rw [List.getElem_append_left hjl]
          have := k4 j hjl
          have e1 : (ms.push { key := keyV ag ks, val := a.eval y, born := clock }).getD j default = ms.getD j default := by
            have hjm : j < ms.size := by omega
            simp [Array.getD_eq_getD_getElem?, Array.getElem?_push, show ¬ j = ms.size by omega]
          rw [e1]; exact ⟨this.1, hi _ _ this.2⟩
        · have hje : j = ms.size := by rw [List.length_append] at hj; simp at hj; omega
          rw [List.getElem_append_right (by omega)]
          have e1 : (ms.push { key := keyV ag ks, val := a.eval y, born := clock }).getD j default = { key := keyV ag ks, val := a.eval y, born := clock } := by
            simp [Array.getD_eq_getD_getElem?, Array.getElem?_push, hje]
          rw [e1]
          simp only [show j - l.length = 0 by omega, List.getElem_cons_zero]
          exact ⟨⟨trivial, h4, by rw [k3.2]; rw [hje, k3.1]⟩, hi _ _ (hs.op y)⟩
    · have hjm : j < ms.size := by omega
      have hkey : ((ms[j]?).map (·.key)).getD (keyV ag ks) = keyV ag ks := by
        have := (k4 j f4).1.1
        rw [f5] at this
        simpa [Array.getD, hjm] using this
      have hst : (Instr.keyThatStays (keyV ag ks) (keyV ag ks)).run P w = .ok (keyV ag ks) w := by
        unfold Instr.keyThatStays; rw [if_pos sameBits_key]; rfl
      refine ⟨.skip, { w with heap := w.heap.setIfInBounds b (.map (ms.modify j fun e => { e with key := keyV ag ks, val := a.eval y }) clock) }, undef, ?_, .inr ⟨rfl, rfl⟩, ?_, rfl, rfl, rfl, other (.map (ms.modify j fun e => { e with key := keyV ag ks, val := a.eval y }) clock), fun hi => ⟨.any _, _, _, here _, ?_, ?_⟩⟩
      · simp only [execOp, Instr.mapUpdate, hv, r2, Sem.run_bind, run_underlying (run_mapOf hm), Result.andThen_ok, hget, hck, hfk, f1, Nat.zero_add, hkey, hst, hset, Sem.run_pure]
      · simp
      · rw [put_old _ _ _ j ⟨f4, f5⟩ f6]; exact ⟨by simp [k3.1], by rw [k3.2]; simp⟩
      · rw [put_old _ _ _ j ⟨f4, f5⟩ f6]
        intro q hq
        have hql : q < l.length := by simpa using hq
        have hqm : q < ms.size := by omega
        by_cases hqj : q = j
        · subst hqj
          simp only [List.getElem_set_self]
          have e1 : (ms.modify q fun e => { e with key := keyV ag ks, val := a.eval y }).getD q default = { ms[q] with key := keyV ag ks, val := a.eval y } := by
            simp [Array.getD, hqm, Array.getElem_modify]
          rw [e1]
          exact ⟨⟨rfl, h4, by have hb := (k4 q f4).1.2.2; simpa [Array.getD, hqm] using hb⟩, hi _ _ (hs.op y)⟩
        · rw [List.getElem_set_ne (Ne.symm hqj)]
          have e1 : (ms.modify j fun e => { e with key := keyV ag ks, val := a.eval y }).getD q default = ms.getD q default := by
            simp [Array.getD, hqm, Array.getElem_modify, Ne.symm hqj]
          rw [e1]
          have := k4 q hql
          exact ⟨this.1, hi _ _ this.2⟩

theorem Q_mapUpdate {k e : TypeId} {ag : Bool} {n : Nat} (t : TypeId) (m x y : Operand) [hm : TMap P t k e] [hk : TKey P k ag n]
    (h : bindK (mpAV (st.op m)) fun id => bindK (mapOb (st.ob id)) fun q => bindK (keyInts ag (st.op x)) fun ks => q.1 = ag ∧ q.2.1 = n ∧ ks.length = n ∧ K 0 ⟨.any, [(id, some (.map ag n (putM q.2.2 ks (st.op y))))]⟩) :
    AO P ⟨dst, .mapUpdate t m x y, ty, pos, af, g⟩ nid st K := by
  obtain ⟨id, h1, ⟨ag', n', l⟩, h2, ks, h3, h4, h5, h6, h7⟩ := h
  dsimp only at h4 h5 h7
  subst h4; subst h5
  exact ⟨0, _, opT_mapUpdate t m x y hm.out hk.out (mpAV_eq h1) (mapOb_eq h2) (keyInts_eq h3) h6, h7⟩
end
attribute [push_cast] e_mapOb e_mp e_keyInts1 e_keyInts2 e_keyInts3 bndO_map noImmO_map
end Go.Sy
/- Sym22. -/
set_option linter.unusedVariables false
set_option linter.unusedSectionVars false
set_option linter.unusedSimpArgs false
namespace Go.Sy

def AV.plain : AV → Bool
  | .val _ | .isl _ _ _ | .ipt _ _ => true
  | _ => false
class Cells (α : Type) (w : outParam Nat) where
  cells : α → List AV
  len : ∀ a, (cells a).length = w
  sc : ∀ a, (cells a).all AV.scalar = true
  pl : ∀ a, (cells a).all AV.plain = true

def cR {α : Type} {w : Nat} [Cells α w] (l : List α) : List AV := l.flatMap Cells.cells

theorem closed_ren (τ : Nat → Nat) : ∀ (x : AV), bnd 0 x → ren τ x = x
  | .val v, _ => by simp [ren]
  | .isl z cs n, _ => by simp [ren]
  | .ipt cs n, _ => by simp [ren]
  | .any, _ => by simp [ren]
  | .sl id _ _ _, h => by simp [bnd] at h
  | .pt id _, h => by simp [bnd] at h
  | .mp id, h => by simp [bnd] at h
  | .yl id, h => by simp [bnd] at h
  | .agg cs, h => by
    simp only [bnd] at h
    simp only [ren, AV.agg.injEq]
    exact (List.map_congr_left (fun x hx => closed_ren τ x (h x hx))).trans (List.map_id' cs)
  | .tup cs, h => by
    simp only [bnd] at h
    simp only [ren, AV.tup.injEq]
    exact (List.map_congr_left (fun x hx => closed_ren τ x (h x hx))).trans (List.map_id' cs)
  | .fn f cs, h => by
    simp only [bnd] at h
    simp only [ren, AV.fn.injEq, true_and]
    exact (List.map_congr_left (fun x hx => closed_ren τ x (h x hx))).trans (List.map_id' cs)
theorem closed_frz (id : Nat) (cs : List AV) : ∀ (x : AV), bnd 0 x → frzV id cs x = x
  | .val v, _ => by simp [frzV]
  | .isl z cs n, _ => by simp [frzV]
  | .ipt cs n, _ => by simp [frzV]
  | .any, _ => by simp [frzV]
  | .sl id _ _ _, h => by simp [bnd] at h
  | .pt id _, h => by simp [bnd] at h
  | .mp id, h => by simp [bnd] at h
  | .yl id, h => by simp [bnd] at h
  | .agg l, h => by
    simp only [bnd] at h
    simp only [frzV, AV.agg.injEq]
    exact (List.map_congr_left (fun x hx => closed_frz id cs x (h x hx))).trans (List.map_id' l)
  | .tup l, h => by
    simp only [bnd] at h
    simp only [frzV, AV.tup.injEq]
    exact (List.map_congr_left (fun x hx => closed_frz id cs x (h x hx))).trans (List.map_id' l)
  | .fn f l, h => by
    simp only [bnd] at h
    simp only [frzV, AV.fn.injEq, true_and]
    exact (List.map_congr_left (fun x hx => closed_frz id cs x (h x hx))).trans (List.map_id' l)
theorem closed_bnd (n : Nat) : ∀ (x : AV), bnd 0 x → bnd n x
  | .val v, _ => by simp [bnd]
  | .isl z cs n, _ => by simp [bnd]
  | .ipt cs n, _ => by simp [bnd]
  | .any, _ => by simp [bnd]
  | .sl id _ _ _, h => by simp [bnd] at h
  | .pt id _, h => by simp [bnd] at h
  | .mp id, h => by simp [bnd] at h
  | .yl id, h => by simp [bnd] at h
  | .agg l, h => by simp only [bnd] at h ⊢; exact fun x hx => closed_bnd n x (h x hx)
  | .tup l, h => by simp only [bnd] at h ⊢; exact fun x hx => closed_bnd n x (h x hx)
  | .fn f l, h => by simp only [bnd] at h ⊢; exact fun x hx => closed_bnd n x (h x hx)

theorem plain_toA {st : St} {σ : List Nat} {fz : Bool} {n : Nat} (h : 0 < n) : ∀ (x : AV), x.plain = true → toA st σ fz n x = x
  | .val v, _ => toA_val h
  | .isl z cs n, _ => toA_isl h
  | .ipt cs n, _ => toA_ipt h
  | .any, h | .sl _ _ _ _, h | .pt _ _, h | .mp _, h | .yl _, h | .agg _, h | .tup _, h | .fn _ _, h => by simp [AV.plain] at h
theorem plain_dfz {st : St} {σ : List Nat} {n : Nat} (h : 0 < n) : ∀ (x : AV), x.plain = true → dfz st σ n x = x
  | .val v, _ => dfz_val h
  | .isl z cs n, _ => dfz_isl h
  | .ipt cs n, _ => dfz_ipt h
  | .any, h | .sl _ _ _ _, h | .pt _ _, h | .mp _, h | .yl _, h | .agg _, h | .tup _, h | .fn _ _, h => by simp [AV.plain] at h
theorem plain_bnd : ∀ (x : AV), x.plain = true → bnd 0 x
  | .val v, _ => by simp [bnd]
  | .isl z cs n, _ => by simp [bnd]
  | .ipt cs n, _ => by simp [bnd]
  | .any, h | .sl _ _ _ _, h | .pt _ _, h | .mp _, h | .yl _, h | .agg _, h | .tup _, h | .fn _ _, h => by simp [AV.plain] at h
theorem Cells.cl {α : Type} {w : Nat} [C : Cells α w] (a : α) (x : AV) (hx : x ∈ Cells.cells a) : bnd 0 x := plain_bnd x (List.all_eq_true.1 (C.pl a) x hx)
section
variable {α : Type} {w : Nat} [C : Cells α w] [Inhabited α] {l m : List α} {j k i : Nat}
theorem cR_cons {a : α} : cR (a :: l) = Cells.cells a ++ cR l := by simp [cR]
theorem cR_nil : cR ([] : List α) = [] := rfl
theorem cR_len : (cR l).length = l.length * w := by
  induction l with
  | nil => simp [cR]
  | cons a l ih => rw [cR_cons, List.length_append, ih, C.len, List.length_cons, Nat.add_mul]; omega
theorem cR_app : cR l ++ cR m = cR (l ++ m) := by simp [cR]
theorem cR_snoc' {a : α} : cR l ++ Cells.cells a = cR (l ++ [a]) := by simp [cR]
theorem cR_drop : (cR l).drop (k * w) = cR (l.drop k) := by
  induction l generalizing k with
  | nil => simp [cR]
  | cons a l ih =>
    cases k with
    | zero => simp
    | succ k => rw [cR_cons, List.drop_append, C.len, List.drop_eq_nil_of_le (by rw [C.len, Nat.add_mul]; omega), List.nil_append, show (k + 1) * w - w = k * w by rw [Nat.add_mul]; omega, ih, List.drop_succ_cons]
theorem cR_take : (cR l).take (k * w) = cR (l.take k) := by
  induction l generalizing k with
  | nil => simp [cR]
  | cons a l ih =>
    cases k with
    | zero => simp [cR]
    | succ k => rw [cR_cons, List.take_append, C.len, List.take_of_length_le (by rw [C.len, Nat.add_mul]; omega), show (k + 1) * w - w = k * w by rw [Nat.add_mul]; omega, ih, List.take_succ_cons, cR_cons]
theorem cR_drop1 : (cR l).drop w = cR (l.drop 1) := by have := cR_drop (l := l) (k := 1); rwa [Nat.one_mul] at this
theorem cR_take1 (h : 0 < l.length) : (cR l).take w = Cells.cells (l.getD 0 default) := by
  cases l with
  | nil => simp at h
  | cons a l => rw [cR_cons, List.take_append, C.len, List.take_of_length_le (by rw [C.len]; exact Nat.le_refl _)]; simp
theorem cR_load (h : j < l.length) : ((cR l).drop (j * w)).take w = Cells.cells (l.getD j default) := by
  rw [cR_drop, cR_take1 (by simp; omega)]
  simp [List.getD_eq_getElem?_getD]
theorem cR_get (h : j < l.length) (hi : i < w) : (cR l)[j * w + i]? = (Cells.cells (l.getD j default))[i]? := by
  rw [← cR_load h, List.getElem?_take, if_pos hi, List.getElem?_drop]
theorem cR_get' (h : j < l.length) (hi : 0 < w) : (cR l)[j * w]? = (Cells.cells (l.getD j default))[0]? := cR_get h hi
theorem cR_get0 (hi : i < w) (h : 0 < l.length) : (cR l)[i]? = (Cells.cells (l.getD 0 default))[i]? := by
  have := cR_get h hi; rwa [Nat.zero_mul, Nat.zero_add] at this
theorem cR_g0 (hi : 0 < w) (h : 0 < l.length) : (cR l)[0]? = (Cells.cells (l.getD 0 default))[0]? := cR_get0 hi h
theorem cR_g1 (hi : 1 < w) (h : 0 < l.length) : (cR l)[1]? = (Cells.cells (l.getD 0 default))[1]? := cR_get0 hi h
theorem cR_g2 (hi : 2 < w) (h : 0 < l.length) : (cR l)[2]? = (Cells.cells (l.getD 0 default))[2]? := cR_get0 hi h
theorem cR_g3 (hi : 3 < w) (h : 0 < l.length) : (cR l)[3]? = (Cells.cells (l.getD 0 default))[3]? := cR_get0 hi h
theorem cR_g4 (hi : 4 < w) (h : 0 < l.length) : (cR l)[4]? = (Cells.cells (l.getD 0 default))[4]? := cR_get0 hi h
theorem cR_g5 (hi : 5 < w) (h : 0 < l.length) : (cR l)[5]? = (Cells.cells (l.getD 0 default))[5]? := cR_get0 hi h
theorem cR_g6 (hi : 6 < w) (h : 0 < l.length) : (cR l)[6]? = (Cells.cells (l.getD 0 default))[6]? := cR_get0 hi h
theorem cR_g7 (hi : 7 < w) (h : 0 < l.length) : (cR l)[7]? = (Cells.cells (l.getD 0 default))[7]? := cR_get0 hi h
theorem cR_g8 (hi : 8 < w) (h : 0 < l.length) : (cR l)[8]? = (Cells.cells (l.getD 0 default))[8]? := cR_get0 hi h
theorem cR_g9 (hi : 9 < w) (h : 0 < l.length) : (cR l)[9]? = (Cells.cells (l.getD 0 default))[9]? := cR_get0 hi h
theorem cR_g10 (hi : 10 < w) (h : 0 < l.length) : (cR l)[10]? = (Cells.cells (l.getD 0 default))[10]? := cR_get0 hi h
theorem cR_g11 (hi : 11 < w) (h : 0 < l.length) : (cR l)[11]? = (Cells.cells (l.getD 0 default))[11]? := cR_get0 hi h
theorem cR_g12 (hi : 12 < w) (h : 0 < l.length) : (cR l)[12]? = (Cells.cells (l.getD 0 default))[12]? := cR_get0 hi h
theorem cR_g13 (hi : 13 < w) (h : 0 < l.length) : (cR l)[13]? = (Cells.cells (l.getD 0 default))[13]? := cR_get0 hi h
theorem cR_g14 (hi : 14 < w) (h : 0 < l.length) : (cR l)[14]? = (Cells.cells (l.getD 0 default))[14]? := cR_get0 hi h
theorem cR_g15 (hi : 15 < w) (h : 0 < l.length) : (cR l)[15]? = (Cells.cells (l.getD 0 default))[15]? := cR_get0 hi h
theorem cR_g16 (hi : 16 < w) (h : 0 < l.length) : (cR l)[16]? = (Cells.cells (l.getD 0 default))[16]? := cR_get0 hi h
theorem cR_g17 (hi : 17 < w) (h : 0 < l.length) : (cR l)[17]? = (Cells.cells (l.getD 0 default))[17]? := cR_get0 hi h
theorem cR_g18 (hi : 18 < w) (h : 0 < l.length) : (cR l)[18]? = (Cells.cells (l.getD 0 default))[18]? := cR_get0 hi h
theorem cR_g19 (hi : 19 < w) (h : 0 < l.length) : (cR l)[19]? = (Cells.cells (l.getD 0 default))[19]? := cR_get0 hi h
theorem cR_g20 (hi : 20 < w) (h : 0 < l.length) : (cR l)[20]? = (Cells.cells (l.getD 0 default))[20]? := cR_get0 hi h
theorem cR_g21 (hi : 21 < w) (h : 0 < l.length) : (cR l)[21]? = (Cells.cells (l.getD 0 default))[21]? := cR_get0 hi h
theorem cR_g22 (hi : 22 < w) (h : 0 < l.length) : (cR l)[22]? = (Cells.cells (l.getD 0 default))[22]? := cR_get0 hi h
theorem cR_g23 (hi : 23 < w) (h : 0 < l.length) : (cR l)[23]? = (Cells.cells (l.getD 0 default))[23]? := cR_get0 hi h
theorem cR_ren (τ : Nat → Nat) : (cR l).map (ren τ) = cR l := by
  refine (List.map_congr_left (fun x hx => closed_ren τ x ?_)).trans (List.map_id' _)
  obtain ⟨a, _, ha⟩ := List.mem_flatMap.1 hx
  exact Cells.cl a x ha
theorem cR_frz (id : Nat) (cs : List AV) : (cR l).map (frzV id cs) = cR l := by
  refine (List.map_congr_left (fun x hx => closed_frz id cs x ?_)).trans (List.map_id' _)
  obtain ⟨a, _, ha⟩ := List.mem_flatMap.1 hx
  exact Cells.cl a x ha
theorem cR_toA {st : St} {σ : List Nat} {fz : Bool} {n : Nat} (h : 0 < n) : (cR l).map (toA st σ fz n) = cR l := by
  refine (List.map_congr_left (fun x hx => ?_)).trans (List.map_id' _)
  obtain ⟨a, _, ha⟩ := List.mem_flatMap.1 hx
  exact plain_toA h x (List.all_eq_true.1 (C.pl a) x ha)
theorem cR_dfz {st : St} {σ : List Nat} {n : Nat} (h : 0 < n) : (cR l).map (dfz st σ n) = cR l := by
  refine (List.map_congr_left (fun x hx => ?_)).trans (List.map_id' _)
  obtain ⟨a, _, ha⟩ := List.mem_flatMap.1 hx
  exact plain_dfz h x (List.all_eq_true.1 (C.pl a) x ha)
theorem cR_bnd (n : Nat) : (∀ x ∈ cR l, bnd n x) = True := by
  refine eq_true (fun x hx => closed_bnd n x ?_)
  obtain ⟨a, _, ha⟩ := List.mem_flatMap.1 hx
  exact Cells.cl a x ha
theorem cR_all : (cR l).all AV.scalar = true := by
  rw [List.all_eq_true]
  intro x hx
  obtain ⟨a, _, ha⟩ := List.mem_flatMap.1 hx
  exact List.all_eq_true.1 (C.sc a) x ha
theorem cR_one {a : α} : cR [a] = Cells.cells a := by simp [cR]
def splR (l : List α) (k : Nat) (m : List α) : List α := l.take k ++ (m ++ l.drop (k + m.length))
theorem cR_splR : spl (cR l) (k * w) (cR m) = cR (splR l k m) := by
  unfold spl splR
  rw [cR_len, ← Nat.add_mul, cR_take, cR_drop, cR_app, cR_app]
theorem drop_getD {d : α} : (l.drop k).getD i d = l.getD (k + i) d := by simp [List.getD_eq_getElem?_getD]
end
theorem splR_len {α : Type} {l m : List α} {k : Nat} (h : k + m.length ≤ l.length) : (splR l k m).length = l.length := by
  unfold splR; simp; omega
theorem splR_length {α : Type} {l m : List α} {k : Nat} : (splR l k m).length = min k l.length + (m.length + (l.length - (k + m.length))) := by
  unfold splR; simp
theorem take_splR {α : Type} {l m : List α} {k j : Nat} (h : j ≤ k) (hk : k ≤ l.length) : (splR l k m).take j = l.take j := by
  unfold splR
  rw [List.take_append, List.take_take, Nat.min_eq_left h, List.length_take, show j - min k l.length = 0 by omega, List.take_zero, List.append_nil]
theorem take_splR2 {α : Type} {l m : List α} {k j : Nat} (hk : k ≤ l.length) (h : j = k + m.length) : (splR l k m).take j = l.take k ++ m := by
  subst h
  unfold splR
  rw [List.take_append, List.take_take, List.length_take, Nat.min_eq_right (by omega), Nat.min_eq_left hk, show k + m.length - k = m.length by omega, List.take_append, List.take_length, Nat.sub_self, List.take_zero, List.append_nil]
theorem tn_1 {a b c : Nat} (h : c ≤ b) : ((a : Int) + ((b : Int) - (c : Int))).toNat = a + (b - c) := by omega
theorem tn_2 {b c : Nat} : ((b : Int) - (c : Int)).toNat = b - c := by omega
theorem tn_3 {a b : Nat} : ((a : Int) + (b : Int)).toNat = a + b := by omega
theorem tn_4 {a : Nat} : ((a : Int) + 1).toNat = a + 1 := by omega
theorem tn_5 {a : Nat} : ((a : Int) - 1).toNat = a - 1 := by omega
theorem tn_6 {a b : Nat} : ((a : Int) + (b : Int) + 1).toNat = a + b + 1 := by omega
theorem tn_7 {a b c : Nat} (h : c ≤ a + b) : ((a : Int) + (b : Int) - (c : Int)).toNat = a + b - c := by omega
theorem tn_8 {a c : Nat} (h : c ≤ a + 1) : ((a : Int) + 1 - (c : Int)).toNat = a + 1 - c := by omega
theorem ax_1 {a b : Int} : a + (b - a) = b := by omega
theorem ax_2 {a b : Nat} (h : a ≤ b) : a + (b - a) = b := by omega
theorem ax_3 {a : Nat} {α : Type} {x : α} : List.replicate (a - a) x = [] := by simp
theorem ax_4 {a b : Nat} (h : a ≤ b) : min a b = a := Nat.min_eq_left h
theorem ax_5 {a b : Nat} (h : b ≤ a) : min a b = b := Nat.min_eq_right h
theorem zrow_1 {zs : List Value} : zrow zs 1 = zs.map ofV ++ zrow zs 0 := rfl
theorem zrow_2 {zs : List Value} : zrow zs 2 = zs.map ofV ++ zrow zs 1 := rfl
theorem zrow_3 {zs : List Value} : zrow zs 3 = zs.map ofV ++ zrow zs 2 := rfl
theorem zrow_4 {zs : List Value} : zrow zs 4 = zs.map ofV ++ zrow zs 3 := rfl
theorem zrow_5 {zs : List Value} : zrow zs 5 = zs.map ofV ++ zrow zs 4 := rfl
theorem zrow_6 {zs : List Value} : zrow zs 6 = zs.map ofV ++ zrow zs 5 := rfl
theorem zrow_7 {zs : List Value} : zrow zs 7 = zs.map ofV ++ zrow zs 6 := rfl
theorem zrow_8 {zs : List Value} : zrow zs 8 = zs.map ofV ++ zrow zs 7 := rfl
theorem zrow_9 {zs : List Value} : zrow zs 9 = zs.map ofV ++ zrow zs 8 := rfl
theorem zrow_10 {zs : List Value} : zrow zs 10 = zs.map ofV ++ zrow zs 9 := rfl
theorem zrow_11 {zs : List Value} : zrow zs 11 = zs.map ofV ++ zrow zs 10 := rfl
theorem zrow_12 {zs : List Value} : zrow zs 12 = zs.map ofV ++ zrow zs 11 := rfl
theorem zrow_zero {zs : List Value} : zrow zs 0 = [] := rfl
theorem ACall.le {P : Program} {f : FuncId} {args : List AV} {objs objs' : List AObj} {m k : Nat} {r : AV} (h : ACall P f args objs m r objs') (hk : k ≤ m) : ACall P f args objs k r objs' := by
  intro w A I ρ vs h1 h2 h3 h4 h5 h6 h7 h8 h9
  refine (h w A I ρ vs h1 h2 h3 h4 h5 h6 h7 h8 h9).mono ?_
  rintro e w' ⟨v, ρ', J', g1, g2, g3, g4, g5, g6⟩
  exact ⟨v, ρ', J', g1, g2, g3, g4, fun j hj => g5 j (by omega), g6⟩

def AV.isVal : AV → Bool
  | .val _ => true
  | _ => false
class CellsV (α : Type) {w : Nat} [Cells α w] : Prop where nv : ∀ a : α, (Cells.cells a).all AV.isVal = true
theorem cR_noImm {α : Type} {w : Nat} [Cells α w] [C : CellsV α] (l : List α) : (∀ x ∈ cR l, noImm x) = True := by
  refine eq_true (fun x hx => ?_)
  obtain ⟨a, _, ha⟩ := List.mem_flatMap.1 hx
  have := List.all_eq_true.1 (C.nv a) x ha
  cases x <;> simp [AV.isVal] at this
  simp [noImm]
theorem spl_nil {α : Type} {cs : List α} {off : Nat} : spl cs off [] = cs := by unfold spl; simp
attribute [push_cast] cR_noImm cR_one cR_len cR_app cR_drop cR_take cR_drop1 cR_take1 cR_get cR_get' cR_g0 cR_g1 cR_g2 cR_g3 cR_g4 cR_g5 cR_g6 cR_g7 cR_g8 cR_g9 cR_g10 cR_g11 cR_g12 cR_g13 cR_g14 cR_g15 cR_g16 cR_g17 cR_g18 cR_g19 cR_g20 cR_g21 cR_g22 cR_g23 cR_ren cR_frz cR_toA cR_dfz cR_bnd cR_all cR_nil cR_splR drop_getD spl_nil
attribute [push_cast] zrow_1 zrow_2 zrow_3 zrow_4 zrow_5 zrow_6 zrow_7 zrow_8 zrow_9 zrow_10 zrow_11 zrow_12
attribute [push_cast] ax_1 ax_2 ax_3 ax_4 ax_5 tn_1 tn_2 tn_3 tn_4 tn_5 tn_6 tn_7 tn_8 zrow_zero splR_len take_splR take_splR2
attribute [push_cast] cR_load
attribute [push_cast] List.length_drop List.length_take Nat.sub_zero Int.sub_zero
end Go.Sy
/- Sym23. -/
set_option linter.unusedVariables false
set_option linter.unusedSectionVars false
set_option linter.unusedSimpArgs false
namespace Go.Sy

def idxM : List (List Int × AV) → List Int → Nat
  | [], _ => 0
  | (k, _) :: l, x => if k = x then 0 else idxM l x + 1
def entM (l : List (List Int × AV)) (x : List Int) (z : AV) : List (List Int × AV) := if (assoc l x).isSome then l else l ++ [(x, z)]
def setM (l : List (List Int × AV)) (s : Nat) (v : AV) : List (List Int × AV) := l.modify s fun p => (p.1, v)

theorem idx_lt {l : List (List Int × AV)} {x : List Int} {z : AV} : (idxM l x < (entM l x z).length) = True := by
  refine eq_true ?_
  unfold entM
  induction l with
  | nil => simp [idxM, assoc]
  | cons p l ih =>
    obtain ⟨k, u⟩ := p
    rw [idxM, assoc]
    by_cases hk : k = x
    · rw [if_pos hk, if_pos hk]; simp
    · rw [if_neg hk, if_neg hk]
      split at ih
      · rename_i h; rw [if_pos h]; simp; exact ih
      · rename_i h; rw [if_neg h]; simp at ih ⊢; exact ih
theorem set_ent {l : List (List Int × AV)} {x : List Int} {z v : AV} : setM (entM l x z) (idxM l x) v = putM l x v := by
  unfold setM entM
  induction l with
  | nil => simp [idxM, assoc, putM]
  | cons p l ih =>
    obtain ⟨k, u⟩ := p
    rw [idxM, assoc, putM]
    by_cases hk : k = x
    · rw [if_pos hk, if_pos hk, if_pos hk]; simp
    · rw [if_neg hk, if_neg hk, if_neg hk, ← ih]
      split
      · simp
      · simp

section
variable {P : Program} {Q : Exit → Nat → St → Prop} {nid : Nat} {st : St} {dst : Option Nat} {ty : TypeId} {pos : String} {af : Array Edge} {g : Option (Nat × Bool)} {K : Nat → Eff → Prop}

end
attribute [push_cast] idx_lt set_ent Int.toNat_natCast

def vB (n : Nat) : List Value := List.replicate n (.bool false)
def fB (n : Nat) : List Bool := List.replicate n false
theorem vB_map {n : Nat} : (vB n).map ofV = cB (fB n) := by simp [vB, fB, cB, ofV]
theorem vB_len {n : Nat} : (vB n).length = n := by simp [vB]
theorem fB_len {n : Nat} : (fB n).length = n := by simp [fB]
theorem vB_all {n : Nat} : (vB n).all Value.oneCell' = true := by simp [vB, Value.oneCell']
attribute [push_cast] vB_map vB_len fB_len vB_all
def mixFields (P : Program) : Nat → List Field → Option (List (Option IntKind))
  | _, [] => some []
  | i, f :: fs => match mixFields P (i + 1) fs with
    | some ks => if f.offset = i ∧ f.name ≠ "_" then (match kindOf P f.type with
      | some k => some (some k :: ks)
      | none => if isStrB P f.type then some (none :: ks) else none) else none
    | none => none
def mixKs (P : Program) (t : TypeId) : Option (List (Option IntKind)) := match P.underlying t with
  | some (.struct fs) => if P.stoodInHeld t then none else mixFields P 0 fs.toList
  | _ => none
class TMix (P : Program) (t : TypeId) (ks : outParam (List (Option IntKind))) : Prop where
  out : mixKs P t = some ks
  gd : P.eqGuardType P.depth t = false
def okM : List (Option IntKind) → List AV → Bool
  | [], [] => true
  | some k :: ks, .val (.int k' _) :: l => k == k' && okM ks l
  | none :: ks, .val (.string _) :: l => okM ks l
  | _, _ => false
theorem okM_0 : okM [] [] = true := rfl
theorem okM_i {k k' : IntKind} {n : Int} {ks : List (Option IntKind)} {l : List AV} : okM (some k :: ks) (.val (.int k' n) :: l) = (k == k' && okM ks l) := rfl
theorem okM_s {s : ByteArray} {ks : List (Option IntKind)} {l : List AV} : okM (none :: ks) (.val (.string s) :: l) = okM ks l := rfl
theorem part_str {P : Program} {w : World} {t : TypeId} (h : isStrB P t = true) {cs : Array Value} {i : Nat} {v : Value} (hv : cs[i]? = some v) : (part t cs i).run P w = .ok v w := by
  have ha : isAggB P t = some false := by unfold isAggB; rw [run_isStrB h]; rfl
  obtain ⟨hlt, rfl⟩ := Array.getElem?_eq_some_iff.1 hv
  simp [part, run_isAggB ha, hlt]
theorem eqFields_self {P : Program} {d : Nat} {xs : Array Value} : ∀ (fs : List Field) (i : Nat) (ks : List (Option IntKind)) (cs : List AV) (w : World), mixFields P i fs = some ks → okM ks cs = true →
    (∀ j v, cs[j]? = some (.val v) → xs[i + j]? = some v) → (Op.eqFields (d + 1) xs xs fs).run P w = .ok true w := by
  intro fs
  induction fs with
  | nil => intro i ks cs w _ _ _; simp [Op.eqFields]
  | cons f fs ih =>
    intro i ks cs w h hc hx
    unfold mixFields at h
    split at h
    · rename_i ks' hks
      split at h
      · rename_i hcn
        split at h
        · rename_i k hk
          cases h
          match cs, hc, hx with
          | .val (.int k' n) :: cs, hc, hx =>
            rw [okM_i, Bool.and_eq_true] at hc
            have hkk : k = k' := by have := hc.1; cases k <;> cases k' <;> first | rfl | cases this
            subst hkk
            have e1 := part_int (w := w) hk (hx 0 _ rfl)
            simp only [Nat.add_zero] at e1
            have e3 := ih (i + 1) ks' cs w hks hc.2 (fun j v h2 => by have := hx (j + 1) v (by simpa using h2); rwa [show i + (j + 1) = i + 1 + j by omega] at this)
            have e4 : (Op.equalIn (d + 1) f.type (.int k n) (.int k n)).run P w = .ok (n == n) w := run_equalIn_int w d f.type k k n n (run_kindOf hk)
            simp only [Op.eqFields, if_pos hcn.2, Sem.run_bind, hcn.1, e1, Result.andThen_ok, e4]
            simp [e3]
        · split at h
          · rename_i hs
            cases h
            match cs, hc, hx with
            | .val (.string s) :: cs, hc, hx =>
              rw [okM_s] at hc
              have e1 := part_str (w := w) hs (hx 0 _ rfl)
              simp only [Nat.add_zero] at e1
              have e3 := ih (i + 1) ks' cs w hks hc (fun j v h2 => by have := hx (j + 1) v (by simpa using h2); rwa [show i + (j + 1) = i + 1 + j by omega] at this)
              have e4 : (Op.equalIn (d + 1) f.type (.string s) (.string s)).run P w = .ok (s.toList == s.toList) w := run_equalIn_string w d f.type s s (run_isStrB hs)
              simp only [Op.eqFields, if_pos hcn.2, Sem.run_bind, hcn.1, e1, Result.andThen_ok, e4]
              simp [e3]
          · cases h
      · cases h
    · cases h
section
variable {P : Program} {Q : Exit → Nat → St → Prop} {nid : Nat} {st : St} {dst : Option Nat} {ty : TypeId} {pos : String} {af : Array Edge} {g : Option (Nat × Bool)} {K : Nat → Eff → Prop}
theorem Q_neqSelf {ks : List (Option IntKind)} (t : TypeId) (x y : Operand) (t' : TypeId) [ht : TMix P t ks] (h : bindK (aggAV (st.op x)) fun cs => bindK (aggAV (st.op y)) fun ds => okM ks cs = true ∧ cs = ds ∧ K 0 ⟨.val (.bool false), []⟩) :
    AO P ⟨dst, .binOp .neq t x y t', ty, pos, af, g⟩ nid st K := by
  obtain ⟨cs, h1, ds, h2, h3, rfl, h5⟩ := h
  refine ⟨0, _, .pure fun c ρ D J a w hs => ?_, h5⟩
  have e1 := hs.op x; have e2 := hs.op y
  rw [aggAV_eq h1] at e1; rw [aggAV_eq h2] at e2
  have key : ∀ (ks : List (Option IntKind)) (cs : List AV), okM ks cs = true → ∀ j (h : j < cs.length), ∃ v, cs[j] = .val v := by
    intro ks
    induction ks with
    | nil => intro cs h j hj; cases cs with | nil => simp at hj | cons a l => cases h
    | cons k ks ih =>
      intro cs h j hj
      match k, cs, h with
      | some k, .val (.int k' n) :: cs, h =>
        rw [okM_i, Bool.and_eq_true] at h
        cases j with
        | zero => exact ⟨_, rfl⟩
        | succ j => exact ih cs h.2 j (by simpa using hj)
      | none, .val (.string s) :: cs, h =>
        rw [okM_s] at h
        cases j with
        | zero => exact ⟨_, rfl⟩
        | succ j => exact ih cs h j (by simpa using hj)
  have same : ∀ {u v : Value}, Rep w J ρ u (.agg cs) → Rep w J ρ v (.agg cs) → ∃ vs : Array Value, u = .agg vs ∧ v = .agg vs ∧ ∀ (j : Nat) (x : Value), cs[j]? = some (AV.val x) → vs[j]? = some x := by
    intro u v hu hv
    cases hu with
    | agg vs _ hs1 g1 =>
      cases hv with
      | agg us _ hs2 g2 =>
        have val : ∀ (vs : Array Value), vs.size = cs.length → (∀ j (h : j < cs.length), Rep w J ρ (vs.getD j undef) cs[j]) → ∀ (j : Nat) (x : Value), cs[j]? = some (AV.val x) → vs[j]? = some x := by
          intro vs hs g j x hj
          obtain ⟨hlt, he⟩ := List.getElem?_eq_some_iff.1 hj
          have := g j hlt
          rw [he] at this
          have e := rep_val_inv this
          have hj' : j < vs.size := by rw [hs]; exact hlt
          rw [Array.getElem?_eq_getElem hj', ← e]
          simp [Array.getD, hj']
        have h1 := val vs hs1 g1
        have h2 := val us hs2 g2
        refine ⟨vs, rfl, ?_, h1⟩
        congr 1
        apply Array.ext_getElem?
        intro j
        by_cases hj : j < cs.length
        · obtain ⟨x, hx⟩ := key ks cs h3 j hj
          have hx' : cs[j]? = some (.val x) := by rw [List.getElem?_eq_getElem hj, hx]
          rw [h1 j x hx', h2 j x hx']
        · rw [Array.getElem?_eq_none (by omega), Array.getElem?_eq_none (by omega)]
  obtain ⟨vs, k1, k2, k3⟩ := same e1 e2
  refine ⟨_, ?_, .val _⟩
  have heq : (Op.equalIn (9998 + 1 + 1) t (.agg vs) (.agg vs)).run P w = .ok true w := by
    have ho := ht.out
    unfold mixKs at ho
    split at ho
    · rename_i fs hu
      split at ho
      · cases ho
      · rename_i hst
        have hst' : P.stoodInHeld t = false := by simpa using hst
        have hf : P.fieldsOf t = fs := by unfold Program.fieldsOf; rw [hu]
        rw [run_equalIn_struct w (9998 + 1) t _ _ (by rw [hf]; exact hu) hst', hf]
        exact eqFields_self fs.toList 0 ks cs w ho h3 (fun j v hj => by rw [Nat.zero_add]; exact k3 j v hj)
    · cases ho
  have heq' : (Op.equalIn Op.maxDepth t (.agg vs) (.agg vs)).run P w = .ok true w := heq
  simp only [execOp, k1, k2, Sem.run_bind, run_eqGuard_agg w _ t x y _ _ ht.gd, Result.andThen_ok, binOp, Op.equal]
  simp [heq']
end
attribute [push_cast] okM_0 okM_i okM_s

section
variable {P : Program} {Q : Exit → Nat → St → Prop} {nid : Nat} {st : St} {dst : Option Nat} {ty : TypeId} {pos : String} {af : Array Edge} {g : Option (Nat × Bool)} {K : Nat → Eff → Prop}
theorem opT_buildArr (t : TypeId) (ps : Array (Nat × Operand)) (zs : List Value) (n : Nat) (e : TypeId) (es : Nat) (out : List AV) (hz : zcells P t = some zs) (ha : arrOf P t = some (n, e)) (hs : siz P e = some es)
    (hf : fillAV (fun i => some (i * es, es)) (zs.map ofV) (ps.toList.map fun p => (p.1, st.op p.2)) = some out) : OpT P ⟨dst, .build t ps, ty, pos, af, g⟩ nid 0 st ⟨.agg out, []⟩ := .pure fun c ρ D J a w h => by
  obtain ⟨z, hr, hc⟩ := run_zcells (w := w) hz
  have hu := run_arrOf ha
  have h0 : VRep w J ρ z.cells (zs.map ofV) := by
    rw [hc]
    refine ⟨by simp, fun j hj => ?_⟩
    have hj' : j < zs.length := by simpa using hj
    simpa [Array.getD, hj'] using rep_ofV zs[j]
  obtain ⟨c', hfill, hv⟩ := fill_rep (w := w) (J := J) (ρ := ρ) (fun i => some (i * es, es)) (ps.toList.map fun p => (p.1, st.op p.2)) (ps.toList.map fun p => (p.1, a.eval p.2)) z.cells _ out h0 hf (by simp) (fun j hj => by
    have hj' : j < ps.toList.length := by simpa using hj
    have := h.op ps.toList[j].2
    simpa [List.getD_eq_getElem?_getD, List.getElem?_map, List.getElem?_eq_getElem hj'] using this)
  refine ⟨.agg c', ?_, .agg _ _ hv.1 hv.2⟩
  simp only [execOp, Instr.build, Sem.run_bind, hr, Result.andThen_ok, run_underlying hu, run_siz hs]
  have e1 : (Array.map (fun x => (x.1, a.eval x.2)) ps).toList = List.map (fun p => (p.1, a.eval p.2)) ps.toList := by simp
  simp [e1, hfill]
theorem Q_buildArr {zs : List Value} {n es : Nat} {e : TypeId} (t : TypeId) (ps : Array (Nat × Operand)) [hz : TZero P t zs] [ha : TArr P t n e] [hs : TSiz P e es]
    (h : bindK (fillAV (fun i => some (i * es, es)) (zs.map ofV) (ps.toList.map fun p => (p.1, st.op p.2))) fun out => K 0 ⟨.agg out, []⟩) : AO P ⟨dst, .build t ps, ty, pos, af, g⟩ nid st K := by
  obtain ⟨out, h1, h2⟩ := h
  exact ⟨_, _, opT_buildArr t ps zs n e es out hz.out ha.out hs.out h1, h2⟩
end
theorem renO_map {ag : Bool} {n : Nat} {l : List (List Int × AV)} {τ : Nat → Nat} : renO τ (.map ag n l) = .map ag n (l.map fun x => (x.1, ren τ x.2)) := rfl
theorem frzO_map {ag : Bool} {n id : Nat} {cs : List AV} {l : List (List Int × AV)} : frzO id cs (.map ag n l) = .map ag n (l.map fun x => (x.1, frzV id cs x.2)) := rfl
attribute [push_cast] renO_map frzO_map
theorem lnz : (∀ {α : Type} {a : α} {l : List α}, (a :: l).length = l.length + 1) ∧ (∀ {α : Type}, ([] : List α).length = 0) ∧ (∀ l, (cS l).length = l.length) ∧ (∀ l, (cB l).length = l.length) ∧ (∀ k l, (cI k l).length = l.length) ∧
    (∀ {α : Type} {n : Nat} {a : α}, (List.replicate n a).length = n) ∧ (∀ {α β : Type} {f : α → β} {l : List α}, (l.map f).length = l.length) ∧ (∀ {α : Type} {l m : List α}, (l ++ m).length = l.length + m.length) ∧
    (∀ {α : Type} {l : List α} {i : Nat} {a : α}, (l.set i a).length = l.length) ∧ (∀ {α : Type} {l : List α} {i : Nat}, (l.take i).length = min i l.length) ∧ (∀ {α : Type} {l : List α} {i : Nat}, (l.drop i).length = l.length - i) ∧
    (∀ {α : Type} {l m : List α} {k : Nat}, (splR l k m).length = min k l.length + (m.length + (l.length - (k + m.length)))) :=
  ⟨rfl, rfl, cS_len, cB_len, fun _ => cI_len, List.length_replicate, List.length_map _, List.length_append, List.length_set, List.length_take, List.length_drop, splR_length⟩
theorem vI {a : Prop} (h : a := by (first | omega | assumption | ((try clear hK); first | (simp; done) | (simp; omega) | (simp_all; done) | ((try simp); split <;> first | omega | (simp_all; done) | (simp_all; omega))))) : a := h
theorem aI {a b : Prop} (k : b) (h : a := by (first | omega | assumption | ((try clear hK); first | (simp; done) | (simp; omega) | (simp_all; done) | ((try simp); split <;> first | omega | (simp_all; done) | (simp_all; omega))))) : a ∧ b := ⟨h, k⟩
theorem vD {a : Prop} (h : a := by first | omega | assumption | (simp only [lnz]; done) | (simp only [lnz]; omega)) : a := h
end Go.Sy
/- Sym24. -/
set_option linter.unusedVariables false
set_option linter.unusedSectionVars false
set_option linter.unusedSimpArgs false
namespace Go.Sy
variable {x y j : Nat}
theorem u_wrap (h : x < 65536) : IntKind.u16.wrap (x : Int) = x := w_u16 (by omega)
theorem u_of (h : x < 65536) : BitVec.ofInt 16 (x : Int) = BitVec.ofNat 16 x := by
  simp [BitVec.ofInt_natCast]
theorem u_and (hx : x < 65536) (hy : y < 65536) : IntKind.wrap .u16 ((BitVec.ofInt (IntKind.bits .u16) (x : Int) &&& BitVec.ofInt (IntKind.bits .u16) (y : Int)).toNat : Int) = ((x &&& y : Nat) : Int) := by
  show IntKind.wrap .u16 ((BitVec.ofInt 16 (x : Int) &&& BitVec.ofInt 16 (y : Int)).toNat : Int) = _
  rw [u_of hx, u_of hy, BitVec.toNat_and, BitVec.toNat_ofNat, BitVec.toNat_ofNat, Nat.mod_eq_of_lt (by simpa using hx), Nat.mod_eq_of_lt (by simpa using hy)]
  exact u_wrap (Nat.lt_of_le_of_lt Nat.and_le_left hx)
def nand (x y : Nat) : Nat := x &&& (65535 - y % 65536)
theorem u_shr (h : j ≤ 16) : Int.fdiv (x : Int) (2 ^ min j (IntKind.bits .u16)) = ((x >>> j : Nat) : Int) := by
  rw [show IntKind.bits .u16 = 16 from rfl, Nat.min_eq_left h, Nat.shiftRight_eq_div_pow]
  rw [Int.fdiv_eq_ediv_of_nonneg _ (Int.le_of_lt (Int.pow_pos (by decide)))]
  rw [show (2 : Int) ^ j = ((2 ^ j : Nat) : Int) by simp]
  rfl
theorem bit_and : ((x >>> j &&& 1 : Nat) : Int) = 1 ↔ x.testBit j = true := by
  rw [Nat.testBit, Nat.and_comm 1]
  have : x >>> j &&& 1 < 2 := Nat.lt_of_le_of_lt Nat.and_le_right (by decide)
  simp only [bne_iff_ne, ne_eq]
  omega
theorem nand_bit (hx : x < 65536) : (nand x y).testBit j = (x.testBit j && !y.testBit j) := by
  unfold nand
  rw [Nat.testBit_and]
  by_cases hj : j < 16
  · have e : 65535 - y % 65536 = 2 ^ 16 - (y % 65536 + 1) := by omega
    rw [e, Nat.testBit_two_pow_sub_succ (by have := Nat.mod_lt y (show 65536 > 0 by decide); simpa using this)]
    have : (y % 65536).testBit j = y.testBit j := by
      rw [show (65536 : Nat) = 2 ^ 16 by rfl, Nat.testBit_mod_two_pow]; simp [hj]
    rw [this]; simp [hj]
  · have : x.testBit j = false := Nat.testBit_lt_two_pow (Nat.lt_of_lt_of_le hx (by
      rw [show (65536 : Nat) = 2 ^ 16 by rfl]; exact Nat.pow_le_pow_right (by decide) (by omega)))
    simp [this]
end Go.Sy
/- Sym25. -/
set_option linter.unusedVariables false
set_option linter.unusedSectionVars false
set_option linter.unusedSimpArgs false
namespace Go.Sy
section
variable {P : Program} {Q : Exit → Nat → St → Prop} {nid : Nat}
theorem AC_frzR {r : Nat} {ops : Array Oper} {d : Bool} {n m : Nat} {env : List (Nat × AV)} {objs : List (Nat × Option AObj)} (id : Nat)
    (h : ∃ cs e, (look objs id).join = some (.cells cs e) ∧ (∀ x ∈ cs, bnd 0 x) ∧ ∀ K : List (Nat × AV) → List (Nat × Option AObj) → Prop, (∀ env' objs', AC P (.region r ops d) Q nid ⟨n, m, env', objs'⟩ → K env' objs') →
      K (env.map fun p => (p.1, frzV id cs p.2)) ((id, none) :: objs.map fun p => (p.1, p.2.map (frzO id cs)))) : AC P (.region r ops d) Q nid ⟨n, m, env, objs⟩ := AC_frz id h
theorem AC_frzS {r : Nat} {ops : Array Oper} {d : Bool} {y : Code} {n m : Nat} {env : List (Nat × AV)} {objs : List (Nat × Option AObj)} (id : Nat)
    (h : ∃ cs e, (look objs id).join = some (.cells cs e) ∧ (∀ x ∈ cs, bnd 0 x) ∧ ∀ K : List (Nat × AV) → List (Nat × Option AObj) → Prop, (∀ env' objs', AC P (.seq (.region r ops d) y) Q nid ⟨n, m, env', objs'⟩ → K env' objs') →
      K (env.map fun p => (p.1, frzV id cs p.2)) ((id, none) :: objs.map fun p => (p.1, p.2.map (frzO id cs)))) : AC P (.seq (.region r ops d) y) Q nid ⟨n, m, env, objs⟩ := AC_frz id h
end
attribute [push_cast] Option.map_none
theorem sel_ndt {α : Type} {p : Prop} [Decidable p] {x y : α} (h : ¬ p) : sel (!decide p) x y = x := by rw [decide_eq_false h]; rfl
theorem sel_ndf {α : Type} {p : Prop} [Decidable p] {x y : α} (h : p) : sel (!decide p) x y = y := by rw [decide_eq_true h]; rfl
theorem e_opf {st : St} {f : Nat} : st.op (.func f) = .fn f [] := rfl
attribute [push_cast] sel_ndt sel_ndf e_opf
theorem fill_spl {vs : List AV} : ∀ {cs : List AV} {off : Nat}, off + vs.length ≤ cs.length → fillOne cs off vs = spl cs off vs := by
  induction vs with
  | nil => intro cs off _; simp [fillOne, spl]
  | cons v vs ih =>
    intro cs off h
    rw [List.length_cons] at h
    rw [fillOne, ih (by rw [List.length_set]; omega)]
    have e : cs.set off v = cs.take off ++ v :: cs.drop (off + 1) := by rw [List.set_eq_take_append_cons_drop, if_pos (by omega)]
    unfold spl
    have hl : (cs.take off).length = off := by rw [List.length_take]; omega
    have h1 : (cs.take off).take (off + 1) = cs.take off := List.take_of_length_le (by omega)
    have h2 : (cs.take off).drop (off + 1 + vs.length) = [] := List.drop_eq_nil_of_le (by omega)
    rw [e, List.take_append, List.drop_append, hl, h1, h2, show off + 1 - off = 1 by omega, show off + 1 + vs.length - off = vs.length + 1 by omega, List.nil_append, List.drop_succ_cons, List.drop_drop, List.length_cons, show off + 1 + vs.length = off + (vs.length + 1) by omega]
    simp
section
variable {α : Type} {w : Nat} [C : Cells α w] {a : α} {l : List α}
theorem cc_len : (Cells.cells a).length = w := C.len a
theorem cc_all : (Cells.cells a).all AV.scalar = true := C.sc a
theorem cc_ren (τ : Nat → Nat) : (Cells.cells a).map (ren τ) = Cells.cells a := (List.map_congr_left (fun x hx => closed_ren τ x (Cells.cl a x hx))).trans (List.map_id' _)
theorem cc_frz (id : Nat) (cs : List AV) : (Cells.cells a).map (frzV id cs) = Cells.cells a := (List.map_congr_left (fun x hx => closed_frz id cs x (Cells.cl a x hx))).trans (List.map_id' _)
theorem cc_toA {st : St} {σ : List Nat} {fz : Bool} {n : Nat} (h : 0 < n) : (Cells.cells a).map (toA st σ fz n) = Cells.cells a := (List.map_congr_left (fun x hx => plain_toA h x (List.all_eq_true.1 (C.pl a) x hx))).trans (List.map_id' _)
theorem cc_dfz {st : St} {σ : List Nat} {n : Nat} (h : 0 < n) : (Cells.cells a).map (dfz st σ n) = Cells.cells a := (List.map_congr_left (fun x hx => plain_dfz h x (List.all_eq_true.1 (C.pl a) x hx))).trans (List.map_id' _)
theorem cc_bnd (n : Nat) : (∀ x ∈ Cells.cells a, bnd n x) = True := eq_true (fun x hx => closed_bnd n x (Cells.cl a x hx))
theorem cc_take : (Cells.cells a).take w = Cells.cells a := List.take_of_length_le (by rw [C.len]; exact Nat.le_refl _)
theorem cc_spl {cs : List AV} (h : cs.length = w) : spl cs 0 (Cells.cells a) = Cells.cells a := spl_full (by rw [C.len, h])
theorem cc_put {cs : List AV} {off : Nat} (h : w ≠ 1) : putAV cs off (Cells.cells a) = spl cs off (Cells.cells a) := by
  have hl := C.len a
  generalize Cells.cells a = vs at hl
  match vs, hl with
  | [], _ => rfl
  | [v], hl => exact absurd hl.symm h
  | _ :: _ :: _, _ => rfl
theorem cc_fill {cs : List AV} (h : cs.length = w) : fillOne cs 0 (Cells.cells a) = Cells.cells a := by
  rw [fill_spl (by rw [C.len]; omega), spl_full (by rw [C.len, h])]
theorem cc_snoc [Inhabited α] : cR l ++ Cells.cells a = cR (l ++ [a]) := cR_snoc'
end
attribute [push_cast] cc_len cc_all cc_ren cc_frz cc_toA cc_dfz cc_bnd cc_take cc_spl cc_put cc_fill cc_snoc
end Go.Sy
/- Sym26. -/
set_option linter.unusedVariables false
set_option linter.unusedSectionVars false
set_option linter.unusedSimpArgs false
namespace Go.Sy
theorem ACall.own {P : Program} {f : FuncId} {args args' : List AV} {cs : List AV} {e : TypeId} {r : AV} {objs' : List AObj} (hc : ∀ x ∈ cs, bnd 0 x) (he : args' = args.map (frzV 0 cs)) (hb : ∀ x ∈ args', bnd 0 x)
    (h : ACall P f args' [] 0 r objs') (ht : trs objs' = [] := by rfl) : ACall P f args [.cells cs e] 0 r objs' := by
  subst he
  intro w A I ρ vs hsz hrep hA hI hobj hdom hinj _ hlaid
  obtain ⟨b, s, k1, k2, k3⟩ := hobj 0 (by simp)
  simp only [List.getElem_cons_zero] at k3
  obtain ⟨u, hu⟩ := cell_obj k3
  let A' : Nat → Prop := fun b' => A b' ∨ b' = b
  have hJ : ∀ b, A b → A' b := fun _ h => .inl h
  have mono : ∀ {ρ : Rho} {v : Value} {x : AV}, Rep w A ρ v x → Rep w A' ρ v x := fun h => h.mono (fun b hb _ => ⟨hJ b hb, rfl⟩) (Nat.le_refl _) (fun _ _ h => h)
  have rep : ∀ {v : Value} {x : AV}, Rep w A ρ v x → Rep w A' ρ v (frzV 0 cs x) := fun h =>
    Rep.frz (u := u) hJ (.inr rfl) k1 k3.lt (fun j hj => (hu j hj).2.1) (fun j hj => (hu j hj).1) (fun j hj => mono ((hu j hj).2.2.closed (hc _ (List.getElem_mem hj)))) h
  refine (h w A' (fun b' => I b' ∧ b' ≠ b) (fun _ => none) vs (by simpa using hsz) (fun j hj => ?_) (fun b' hb' => ?_) (fun b' hb' => hI b' hb'.1) (fun j hj => by simp at hj) (fun j p hp => by cases hp) (fun i j b s s' h1 _ => by cases h1) (Hid.none (fun _ _ _ => by simp)) (hlaid.mono (fun b h _ => ⟨.inl h, rfl⟩) (Nat.le_refl _))).mono ?_
  · have hj' : j < args.length := by simpa using hj
    have := (rep (hrep j hj')).closed (ρ' := fun _ => none) (hb _ (by simpa using List.mem_map.2 ⟨_, List.getElem_mem hj', rfl⟩))
    simpa using this
  · rcases hb' with hb' | hb'
    · exact ⟨(hA b' hb').1, fun hn => (hA b' hb').2 hn.1⟩
    · subst hb'; exact ⟨hI _ k2, fun hn => hn.2 rfl⟩
  · rintro ex w' ⟨v, ρ', J', h1, h2, h3, h4, h5, h6, h7, h8, _⟩
    refine ⟨v, ρ', J', h1, h2, fun b' hb' => ?_, ?_, fun j hj => by omega, h6, fun j hj => ?_, h8, Hid.none fun id H j k => ?_⟩
    · obtain ⟨g1, g2⟩ := h3 b' hb'
      refine ⟨g1, ?_⟩
      rcases g2 with (g2 | g2) | g2 | g2
      · exact .inl g2
      · subst g2; exact .inr (.inl k2)
      · exact .inr (.inl g2.1)
      · exact .inr (.inr g2)
    · exact ⟨h4.size, h4.os, h4.tape, h4.output, fun b' hb' hn => h4.block b' hb' (fun hh => hn hh.1)⟩
    · obtain ⟨b', s', g1, g2, g3, g4⟩ := h7 j hj
      exact ⟨b', s', g1, g2, g3.imp (fun h => h.1) id, g4⟩
    · obtain ⟨hlt, e⟩ := List.getElem?_eq_some_iff.1 k
      have : H ∈ trs objs' := mem_trs.2 ⟨j, e ▸ List.getElem_mem hlt⟩
      rw [ht] at this; cases this
end Go.Sy
/- Sym27. -/
set_option linter.unusedVariables false
set_option linter.unusedSectionVars false
set_option linter.unusedSimpArgs false
namespace Go.Sy
class Cell1 (α : Type) where
  c : α → AV
  sc : ∀ a, (c a).scalar = true
  pl : ∀ a, (c a).plain = true
def cX {α : Type} [Cell1 α] (l : List α) : List AV := l.map Cell1.c
section
variable {α : Type} [C : Cell1 α] {l m : List α} {a : α} {i n : Nat}
theorem cX_len : (cX l).length = l.length := by simp [cX]
theorem cX_get : (cX l)[i]? = l[i]?.map Cell1.c := by simp [cX]
theorem cX_app : cX l ++ cX m = cX (l ++ m) := by simp [cX]
theorem cX_take : (cX l).take n = cX (l.take n) := by simp [cX, List.map_take]
theorem cX_drop : (cX l).drop n = cX (l.drop n) := by simp [cX, List.map_drop]
theorem cX_ren (τ : Nat → Nat) : (cX l).map (ren τ) = cX l := (List.map_congr_left (fun x hx => by
  obtain ⟨a, _, rfl⟩ := List.mem_map.1 hx; exact closed_ren τ _ (plain_bnd _ (C.pl a)))).trans (List.map_id' _)
theorem cX_frz (id : Nat) (cs : List AV) : (cX l).map (frzV id cs) = cX l := (List.map_congr_left (fun x hx => by
  obtain ⟨a, _, rfl⟩ := List.mem_map.1 hx; exact closed_frz id cs _ (plain_bnd _ (C.pl a)))).trans (List.map_id' _)
theorem cX_toA {st : St} {σ : List Nat} {fz : Bool} {n : Nat} (h : 0 < n) : (cX l).map (toA st σ fz n) = cX l := (List.map_congr_left (fun x hx => by
  obtain ⟨a, _, rfl⟩ := List.mem_map.1 hx; exact plain_toA h _ (C.pl a))).trans (List.map_id' _)
theorem cX_dfz {st : St} {σ : List Nat} {n : Nat} (h : 0 < n) : (cX l).map (dfz st σ n) = cX l := (List.map_congr_left (fun x hx => by
  obtain ⟨a, _, rfl⟩ := List.mem_map.1 hx; exact plain_dfz h _ (C.pl a))).trans (List.map_id' _)
theorem cX_bnd (n : Nat) : (∀ x ∈ cX l, bnd n x) = True := eq_true (fun x hx => by
  obtain ⟨a, _, rfl⟩ := List.mem_map.1 hx; exact closed_bnd n _ (plain_bnd _ (C.pl a)))
theorem cX_all : (cX l).all AV.scalar = true := by
  rw [List.all_eq_true]
  intro x hx
  obtain ⟨a, _, rfl⟩ := List.mem_map.1 hx
  exact C.sc a
theorem cX_nil : cX ([] : List α) = [] := rfl
theorem cX_snoc : cX l ++ [Cell1.c a] = cX (l ++ [a]) := by simp [cX]
end
attribute [push_cast] cX_len cX_get cX_app cX_take cX_drop cX_ren cX_frz cX_toA cX_dfz cX_bnd cX_all cX_nil cX_snoc
end Go.Sy
/- Sym28. -/
set_option linter.unusedVariables false
set_option linter.unusedSectionVars false
set_option linter.unusedSimpArgs false
namespace Go.Sy
variable {s i : Nat}
def sN (s i : Nat) : Int := ((s >>> i : Nat) : Int)
def bN (s i : Nat) : Int := ((s >>> i &&& 1 : Nat) : Int)
theorem s_shr (h : i ≤ 16) : Int.fdiv (s : Int) (2 ^ min i (IntKind.bits .u16)) = sN s i := u_shr h
theorem shr_lt (hs : s < 65536) : s >>> i < 65536 := Nat.lt_of_le_of_lt (by rw [Nat.shiftRight_eq_div_pow]; exact Nat.div_le_self _ _) hs
theorem s_and1 (hs : s < 65536) : IntKind.wrap .u16 ((BitVec.ofInt (IntKind.bits .u16) (sN s i) &&& BitVec.ofInt (IntKind.bits .u16) (1 : Int)).toNat : Int) = bN s i := u_and (y := 1) (shr_lt hs) (by omega)
theorem bN_1 : (bN s i = 1) = (s.testBit i = true) := propext bit_and
theorem bN_0 : (bN s i = 0) = (s.testBit i = false) := by
  have this := bit_and (x := s) (j := i)
  have h2 : s >>> i &&& 1 < 2 := Nat.lt_of_le_of_lt Nat.and_le_right (by decide)
  unfold bN
  refine propext ⟨fun h => ?_, fun h => ?_⟩
  · cases e : s.testBit i with
    | false => rfl
    | true => have := this.2 e; omega
  · have h3 : ¬ ((s >>> i &&& 1 : Nat) : Int) = 1 := fun hh => by rw [this.1 hh] at h; cases h
    omega
theorem dec_tb {b : Bool} : decide (b = true) = b := by cases b <;> rfl
theorem dec_fb {b : Bool} : decide (b = false) = !b := by cases b <;> rfl
attribute [push_cast] s_shr s_and1 bN_1 bN_0 bindK_if' dec_tb dec_fb
end Go.Sy
/- Sym29. -/
set_option linter.unusedVariables false
set_option linter.unusedSectionVars false
set_option linter.unusedSimpArgs false
namespace Go.Sy
open Go.ChangeShapes Go.WideShapes Go.ChangeAt Go.RowKit
theorem arg_repS {H : Type} {enc : TypeId × Value → H} {P : Program} {W : World} (K : Kids P (· < P.types.size)) (hz : ∀ t e, t < P.types.size → P.underlying t = some (.slice e) → 0 < P.cellsOf e) {r : Reach} {b : Nat} {m : Nat} {t : TypeId} {fs : Array Field} {v : Value} {d : DataW H} {ps : List MemPlace} {held : Bool} (ht : t < P.types.size) (hp : plainT P m t = true)
    (hu : P.underlying t = some (.struct fs)) (hval : Value.okWide P W r b t v) (h : DataW.Trod enc P W 0 (fun _ => true) held t v d ps) (hw : ∀ k ∈ d.weights P t, k ≤ reachBytes) :
    ∃ as, fitsT P m t as ∧ Rep W (fun b => b < W.heap.size) (fun _ => none) v (.agg as) := by
  obtain ⟨fuel, hf⟩ := h
  obtain ⟨as, h1, h2⟩ := good_trod K hz m t _ _ fuel ht hp hf hw
  unfold Value.okWide at hval
  rw [hu] at hval
  obtain ⟨cs, rfl, _, _⟩ := hval
  obtain ⟨g1, g2⟩ := h2
  have hcells : (Value.agg cs).cells.toList = cs.toList := rfl
  rw [hcells] at g1 g2
  refine ⟨as, h1, .agg cs as (by simpa using g1.symm) (fun j hj => ?_)⟩
  have := (g2 j as[j] (List.getElem?_eq_getElem hj)).2
  simpa [Array.getD_eq_getD_getElem?, List.getD_eq_getElem?_getD] using this
end Go.Sy
