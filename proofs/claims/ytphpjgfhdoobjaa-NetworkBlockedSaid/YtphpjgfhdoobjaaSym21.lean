/-
  The symbolic walk: maps whose keys are whole numbers, or structs or arrays of whole numbers. No condition.
-/
import Derived.Test.YtphpjgfhdoobjaaSym20
set_option linter.unusedVariables false
set_option linter.unusedSectionVars false
set_option linter.unusedSimpArgs false
namespace Go.Sy

/-- Keys of 64-bit numbers: the number of numbers; is it a struct or array? -/
def keyForm (P : Program) (k : TypeId) : Option (Bool × Nat) := match P.underlying k with
  | some (.int .i64) => some (false, 1)
  | _ => match flatKs P k with
    | some ks => if ks.all (fun x => x == .i64)  then some (true, ks.length) else none
    | none => none

def mapOf (P : Program) (t : TypeId) : Option (TypeId × TypeId) := match P.underlying t with
  | some (.map k e) => some (k, e)
  | _ => none
theorem run_mapOf {P : Program} {t k e : TypeId} (h : mapOf P t = some (k, e)) : P.underlying t = some (.map k e) := by
  unfold mapOf at h
  split at h
  · cases h; assumption
  · cases h

def keyA (ag : Bool) (ks : List Int) : AV := if ag then .agg (ks.map fun n => .val (.int .i64 n)) else .val (.int .i64 (ks.headD 0))

theorem keyV_inj {ag : Bool} {a b : List Int} {n : Nat} (hn : ag = false → n = 1) (ha : a.length = n) (hb : b.length = n) : keyV ag a = keyV ag b ↔ a = b := by
  constructor
  · intro h
    cases ag with
    | true =>
      simp only [keyV, if_true, Value.agg.injEq] at h
      have h2 := congrArg Array.toList h
      simp only [List.toList_toArray] at h2
      exact List.map_inj_right (fun x y hxy => by simpa using hxy) |>.1 h2
    | false =>
      have := hn rfl
      match a, b with
      | [x], [y] => simpa [keyV] using h
      | [], _ => simp at ha; omega
      | _ :: _ :: _, _ => simp at ha; omega
      | [_], [] => simp at hb; omega
      | [_], _ :: _ :: _ => simp at hb; omega
  · intro h; rw [h]

theorem rep_key {w : World} {J : Nat → Prop} {ρ : Rho} {v : Value} {ag : Bool} {ks : List Int} (h : Rep w J ρ v (keyA ag ks)) : v = keyV ag ks := by
  cases ag with
  | false => simp only [keyA, keyV, Bool.false_eq_true, if_false] at h ⊢; exact rep_val_inv h
  | true =>
    simp only [keyA, keyV, if_true] at h ⊢
    have := rep_ints (ps := ks.map fun n => (IntKind.i64, n)) (ks := ks.map fun _ => IntKind.i64) (v := v) (w := w) (J := J) (ρ := ρ) (by rw [List.map_map]; exact h) (by simp)
    rw [this]
    congr 2
    simp [mkInts]
theorem key_rep {w : World} {J : Nat → Prop} {ρ : Rho} (ag : Bool) (ks : List Int) : Rep w J ρ (keyV ag ks) (keyA ag ks) := by
  cases ag with
  | false => exact .val _
  | true =>
    simp only [keyV, keyA, if_true]
    refine .agg _ _ (by simp) (fun j hj => ?_)
    have hj' : j < ks.length := by simpa using hj
    simp [Array.getD, hj']
    exact .val _

/-- What a map holds at a key; behind a store. -/
def assoc : List (List Int × AV) → List Int → Option AV
  | [], _ => none
  | (k, v) :: l, x => if k = x then some v else assoc l x
def putM : List (List Int × AV) → List Int → AV → List (List Int × AV)
  | [], x, v => [(x, v)]
  | (k, u) :: l, x, v => if k = x then (k, v) :: l else (k, u) :: putM l x v

section
variable {P : Program} {w : World}

theorem checkKey_int {k : TypeId} (h : P.underlying k = some (.int .i64)) (em : Bool) (n : Nat) (m : Int) : (Instr.checkKey em (n + 1) k (.int .i64 m)).run P w = .ok () w := by
  rw [Instr.checkKey]; simp [run_underlying h]

theorem checkKey_elem {e : TypeId} {kk : IntKind} (h : kindOf P e = some kk) (em : Bool) (n : Nat) (m : Int) : (Instr.checkKey em (n + 1) e (.int kk m)).run P w = .ok () w := by
  rw [Instr.checkKey]; simp [run_underlying (run_kindOf h)]

theorem checkFields {d : Nat} {em : Bool} {cs : Array Value} : ∀ (fs : List Field) (i : Nat) (ks : List IntKind), flatFields P i fs = some ks → (∀ j k, ks[j]? = some k → ∃ n, cs[i + j]? = some (.int k n)) →
    (forIn (m := Sem) fs () (fun f _ => if f.name ≠ "_" then do
        let x ← part f.type cs f.offset
        Instr.checkKey em (d + 1) f.type x
        pure (ForInStep.yield ())
      else pure (ForInStep.yield ()))).run P w = .ok () w := by
  intro fs
  induction fs with
  | nil => intro i ks _ _; simp
  | cons f fs ih =>
    intro i ks h hc
    unfold flatFields at h
    split at h
    · rename_i k ks' hk hks
      split at h
      · rename_i hcond
        cases h
        obtain ⟨n, hn⟩ := hc 0 k rfl
        have e1 := part_int (w := w) hk hn
        simp only [Nat.add_zero] at e1
        have e2 := ih (i + 1) ks' hks (fun j k h => by have := hc (j + 1) k (by simpa using h); rwa [show i + (j + 1) = i + 1 + j by omega] at this)
        rw [List.forIn_cons]
        simp only [if_pos hcond.2, Sem.run_bind, hcond.1, e1, Result.andThen_ok, checkKey_elem hk, Sem.run_pure, e2]
      · cases h
    · cases h

theorem checkElems {d : Nat} {em : Bool} {e : TypeId} {kk : IntKind} (hz : siz P e = some 1) (hk : kindOf P e = some kk) {cs : Array Value} : ∀ (n i : Nat), (∀ j, i ≤ j → j < i + n → ∃ m, cs[j]? = some (.int kk m)) →
    (forIn (m := Sem) (List.range' i n 1) () (fun i _ => do
        let z ← sizeOf e
        let x ← part e cs (i * z)
        Instr.checkKey em (d + 1) e x
        pure (ForInStep.yield ()))).run P w = .ok () w := by
  intro n
  induction n with
  | zero => intro i _; simp [List.range']
  | succ n ih =>
    intro i hc
    obtain ⟨m, hm⟩ := hc i (Nat.le_refl _) (by omega)
    have e1 := part_int (w := w) hk hm
    have e2 := ih (i + 1) (fun j h1 h2 => hc j (by omega) (by omega))
    rw [List.range', List.forIn_cons]
    simp only [Sem.run_bind, run_siz hz, Nat.mul_one, e1, Result.andThen_ok, checkKey_elem hk, Sem.run_pure, e2]

theorem keys_all {ks : List IntKind} (h : ks.all (fun x => x == .i64) = true) : ks = List.replicate ks.length .i64 := by
  rw [List.eq_replicate_iff]
  exact ⟨rfl, fun b hb => by have := List.all_eq_true.1 h b hb; cases b <;> first | rfl | cases this⟩

theorem keyForm_flat {k : TypeId} {n : Nat} (h : keyForm P k = some (true, n)) : ∃ ks, flatKs P k = some ks ∧ ks = List.replicate n .i64 := by
  unfold keyForm at h
  split at h
  · cases h
  · split at h
    · rename_i ks hks
      split at h
      · rename_i hc
        cases h
        exact ⟨ks, hks, keys_all hc⟩
      · cases h
    · cases h
theorem keyForm_int {k : TypeId} {n : Nat} (h : keyForm P k = some (false, n)) : P.underlying k = some (.int .i64) ∧ n = 1 := by
  unfold keyForm at h
  split at h
  · cases h; exact ⟨by assumption, rfl⟩
  · split at h
    · split at h <;> cases h
    · cases h

theorem keyV_mk {n : Nat} {a : List Int} (ha : a.length = n) : keyV true a = .agg (mkInts (List.replicate n .i64) a).toArray := by
  simp only [keyV, if_true, mkInts]
  congr 2
  subst ha
  induction a with
  | nil => rfl
  | cons x a ih => simp [List.replicate_succ, ih]

theorem checkKey_ok {k : TypeId} {ag : Bool} {n : Nat} (h : keyForm P k = some (ag, n)) {a : List Int} (ha : a.length = n) (em : Bool) : (Instr.checkKey em 10000 k (keyV ag a)).run P w = .ok () w := by
  cases ag with
  | false =>
    obtain ⟨hu, rfl⟩ := keyForm_int h
    simp only [keyV, Bool.false_eq_true, if_false]
    exact checkKey_int hu em 9999 _
  | true =>
    obtain ⟨ks, hks, rfl⟩ := keyForm_flat h
    rw [keyV_mk ha]
    have hget : ∀ j k', (List.replicate n IntKind.i64)[j]? = some k' → ∃ m, (mkInts (List.replicate n .i64) a).toArray[0 + j]? = some (.int k' m) := by
      intro j k' hj
      have hjn : j < n := by have := (List.getElem?_eq_some_iff.1 hj).1; simpa using this
      exact ⟨a[j], ints_get (by simpa using ha) j k' _ hj (List.getElem?_eq_getElem (by omega))⟩
    rw [show (10000 : Nat) = 9998 + 1 + 1 from rfl, Instr.checkKey]
    unfold flatKs at hks
    split at hks
    · rename_i fs hu
      split at hks
      · cases hks
      · have := checkFields (w := w) (d := 9998) (em := em) (cs := (mkInts (List.replicate n .i64) a).toArray) fs.toList 0 _ hks hget
        simp only [Sem.run_bind, run_underlying hu, Result.andThen_ok]
        rw [← Array.forIn_toList]
        exact Eq.trans (congrArg (fun r => Result.andThen r fun _ w' => Sem.run P (pure ()) w') this) rfl
    · rename_i m e hu
      split at hks
      · rename_i kk hk hz
        simp only [Option.some.injEq] at hks
        have hmn : m = n := by have := congrArg List.length hks; simpa using this
        subst hmn
        have := checkElems (w := w) (d := 9998) (em := em) hz hk (cs := (mkInts (List.replicate m .i64) a).toArray) m 0 (fun j _ hj => by
          obtain ⟨v, hv⟩ := hget j .i64 (by rw [List.getElem?_replicate, if_pos (by omega)])
          have : kk = .i64 := by
            have := congrArg (·[j]?) hks
            simp only [List.getElem?_replicate] at this
            rw [if_pos (by omega), if_pos (by omega)] at this
            exact Option.some.inj this
          subst this
          exact ⟨v, by rwa [Nat.zero_add] at hv⟩)
        simp only [Sem.run_bind, run_underlying hu, Result.andThen_ok, run_siz hz, Std.Legacy.Range.forIn_eq_forIn_range', Std.Legacy.Range.size, Nat.sub_zero, Nat.add_sub_cancel, Nat.div_one]
        exact Eq.trans (congrArg (fun r => Result.andThen r fun _ w' => Sem.run P (pure ()) w') this) rfl
      · cases hks
    · cases hks

theorem equal_key {k : TypeId} {ag : Bool} {n : Nat} (h : keyForm P k = some (ag, n)) {a b : List Int} (ha : a.length = n) (hb : b.length = n) : (Op.equal k (keyV ag a) (keyV ag b)).run P w = .ok (decide (a = b)) w := by
  cases ag with
  | false =>
    obtain ⟨hu, rfl⟩ := keyForm_int h
    match a, b with
    | [x], [y] =>
      show (Op.equalIn (9999 + 1) k (.int .i64 x) (.int .i64 y)).run P w = _
      rw [run_equalIn_int w 9999 k .i64 .i64 x y hu]; simp [BEq.beq]
    | [], _ => simp at ha
    | _ :: _ :: _, _ => simp at ha
    | [_], [] => simp at hb
    | [_], _ :: _ :: _ => simp at hb
  | true =>
    obtain ⟨ks, hks, rfl⟩ := keyForm_flat h
    rw [keyV_mk ha, keyV_mk hb]
    exact equal_flat hks (by simpa using ha) (by simpa using hb) w

/-- Where a key stands among the entries. -/
def findM (ag : Bool) (x : List Int) : List (List Int × Value) → Nat → Option (Nat × Value)
  | [], _ => none
  | (k, v) :: l, i => if x = k then some (i, v) else findM ag x l (i + 1)

theorem findAsking_ok {k : TypeId} {ag : Bool} {n : Nat} (h : keyForm P k = some (ag, n)) {x : List Int} (hx : x.length = n) : ∀ (es : List MapEntry) (l : List (List Int × Value)) (i : Nat), es.map (fun e => (e.key, e.val)) = l.map (fun p => (keyV ag p.1, p.2)) → (∀ p ∈ l, p.1.length = n) →
    (Instr.findAsking k (keyV ag x) es i).run P w = .ok (findM ag x l i) w := by
  intro es
  induction es with
  | nil => intro l i he _; cases l with
           | nil => simp [Instr.findAsking, findM]
           | cons _ _ => simp at he
  | cons e es ih =>
    intro l i he hl
    cases l with
    | nil => simp at he
    | cons p l =>
      simp only [List.map_cons, List.cons.injEq, Prod.mk.injEq] at he
      obtain ⟨⟨h1, h2⟩, h3⟩ := he
      rw [Instr.findAsking]
      simp only [Sem.run_bind, h1, equal_key h hx (hl p List.mem_cons_self), Result.andThen_ok]
      rw [findM]
      by_cases hc : x = p.1
      · simp [hc, h2]
      · simp only [hc, decide_false, Bool.false_eq_true, if_false]
        exact ih l (i + 1) h3 (fun q hq => hl q (List.mem_cons_of_mem _ hq))

theorem findNow_int {x : Int} : ∀ (es : List MapEntry) (l : List (List Int × Value)) (i : Nat), es.map (fun e => (e.key, e.val)) = l.map (fun p => (keyV false p.1, p.2)) → (∀ p ∈ l, p.1.length = 1) →
    Instr.findNow (.int .i64) (.int .i64 x) es i = some (findM false [x] l i) := by
  intro es
  induction es with
  | nil => intro l i he _; cases l with
           | nil => simp [Instr.findNow, findM]
           | cons _ _ => simp at he
  | cons e es ih =>
    intro l i he hl
    cases l with
    | nil => simp at he
    | cons p l =>
      simp only [List.map_cons, List.cons.injEq, Prod.mk.injEq] at he
      obtain ⟨⟨h1, h2⟩, h3⟩ := he
      obtain ⟨k, v⟩ := p
      have hk := hl (k, v) List.mem_cons_self
      match k, hk with
      | [y], _ =>
        have hs : Instr.sameNow (.int .i64) (.int .i64 x) e.key = some (x == y) := by
          rw [h1]; simp [keyV, Instr.sameNow]
        rw [Instr.findNow, hs, findM]
        by_cases hc : x = y
        · simp [hc, h2]
        · have : (x == y) = false := by simpa using hc
          rw [this]
          simp only [List.cons.injEq, and_true, hc, if_false]
          exact ih l (i + 1) h3 (fun q hq => hl q (List.mem_cons_of_mem _ hq))

theorem findKey_ok {k : TypeId} {ag : Bool} {n : Nat} (h : keyForm P k = some (ag, n)) {x : List Int} (hx : x.length = n) (es : List MapEntry) (l : List (List Int × Value)) (he : es.map (fun e => (e.key, e.val)) = l.map (fun p => (keyV ag p.1, p.2))) (hl : ∀ p ∈ l, p.1.length = n) :
    (Instr.findKey k (keyV ag x) es).run P w = .ok (findM ag x l 0) w := by
  unfold Instr.findKey
  cases ag with
  | false =>
    obtain ⟨hu, rfl⟩ := keyForm_int h
    match x, hx with
    | [y], _ =>
      simp only [Sem.run_bind, run_underlying hu, Result.andThen_ok, keyV, Bool.false_eq_true, if_false, List.headD_cons]
      rw [findNow_int es l 0 he hl]
      rfl
  | true =>
    obtain ⟨ks, hks, _⟩ := keyForm_flat h
    have hu : ∃ d, P.underlying k = some d ∧ ∀ a b, Instr.sameNow d (.agg a) b = none := by
      unfold flatKs at hks
      split at hks
      · rename_i fs hu; exact ⟨_, hu, fun a b => by simp [Instr.sameNow]⟩
      · rename_i m e hu; exact ⟨_, hu, fun a b => by simp [Instr.sameNow]⟩
      · cases hks
    obtain ⟨d, hu, hd⟩ := hu
    simp only [Sem.run_bind, run_underlying hu, Result.andThen_ok]
    cases es with
    | nil =>
      cases l with
      | nil => simp [Instr.findNow, findM]
      | cons _ _ => simp at he
    | cons e es =>
      have : Instr.findNow d (keyV true x) (e :: es) 0 = none := by
        simp only [keyV, if_true]
        rw [Instr.findNow, hd]
      rw [this]
      exact findAsking_ok h hx (e :: es) l 0 he hl

/-! ### the operations -/
def mapOb : Option AObj → Option (Bool × Nat × List (List Int × AV))
  | some (.map ag n l) => some (ag, n, l)
  | _ => none
def mpAV : AV → Option Nat
  | .mp id => some id
  | _ => none
theorem e_mapOb {ag : Bool} {n : Nat} {l : List (List Int × AV)} : mapOb (some (.map ag n l)) = some (ag, n, l) := rfl
theorem e_mp {id : Nat} : mpAV (.mp id) = some id := rfl
theorem mpAV_eq {x : AV} {id : Nat} (h : mpAV x = some id) : x = .mp id := by cases x <;> simp [mpAV] at h; subst h; rfl
theorem mapOb_eq {o : Option AObj} {p : Bool × Nat × List (List Int × AV)} (h : mapOb o = some p) : o = some (.map p.1 p.2.1 p.2.2) := by
  unfold mapOb at h
  split at h
  · cases h; rfl
  · cases h

/-- A key as numbers. -/
def keyInts (ag : Bool) (x : AV) : Option (List Int) := if ag then (intsAV x).bind fun ps => if ps.all (fun p => p.1 == .i64) then some (ps.map (·.2)) else none
  else (intkAV x).bind fun p => if p.1 = .i64 then some [p.2] else none
theorem keyInts_eq {ag : Bool} {x : AV} {ks : List Int} (h : keyInts ag x = some ks) : x = keyA ag ks := by
  unfold keyInts at h
  cases ag with
  | true =>
    simp only [if_true] at h
    obtain ⟨ps, h1, h2⟩ := Option.bind_eq_some_iff.1 h
    split at h2
    · rename_i hc
      cases h2
      rw [intsAV_eq h1]
      simp only [keyA, if_true, List.map_map]
      congr 1
      refine List.map_congr_left (fun p hp => ?_)
      have := List.all_eq_true.1 hc p hp
      have e : p.1 = .i64 := by cases hq : p.1 <;> rw [hq] at this <;> first | rfl | cases this
      simp [e]
    · cases h2
  | false =>
    simp only [Bool.false_eq_true, if_false] at h
    obtain ⟨p, h1, h2⟩ := Option.bind_eq_some_iff.1 h
    split at h2
    · rename_i hc
      cases h2
      rw [intkAV_eq h1, hc]; rfl
    · cases h2
theorem e_keyInts1 {n : Int} : keyInts false (.val (.int .i64 n)) = some [n] := rfl
theorem e_keyInts2 {a b : Int} : keyInts true (.agg [.val (.int .i64 a), .val (.int .i64 b)]) = some [a, b] := rfl
theorem e_keyInts3 {a b c : Int} : keyInts true (.agg [.val (.int .i64 a), .val (.int .i64 b), .val (.int .i64 c)]) = some [a, b, c] := rfl

def zeroAV (P : Program) (e : TypeId) : Option AV := ((P.info? e).bind (·.zero)).map fun
  | .agg cs => .agg (cs.toList.map ofV)
  | v => ofV v
theorem run_zeroAV {e : TypeId} {z : AV} (h : zeroAV P e = some z) : ∃ v, (zeroValue e).run P w = .ok v w ∧ ∀ (J : Nat → Prop) (ρ : Rho), Rep w J ρ v z := by
  unfold zeroAV at h
  cases hi : P.info? e with
  | none => simp [hi] at h
  | some i =>
    cases hz : i.zero with
    | none => simp [hi, hz] at h
    | some v =>
      simp only [hi, Option.bind_some, hz, Option.map_some, Option.some.injEq] at h
      refine ⟨v, by simp [zeroValue, typeInfo, hi, hz], fun J ρ => ?_⟩
      subst h
      split
      · rename_i cs
        refine .agg _ _ (by simp) (fun j hj => ?_)
        have hj' : j < cs.size := by simpa using hj
        simp only [Array.getD, hj', dif_pos, List.getElem_map, Array.getElem_toList]
        exact rep_ofV _
      · exact rep_ofV _

class TMap (P : Program) (t : TypeId) (k e : outParam TypeId) : Prop where out : mapOf P t = some (k, e)
class TKey (P : Program) (k : TypeId) (ag : outParam Bool) (n : outParam Nat) : Prop where out : keyForm P k = some (ag, n)
class TZeroV (P : Program) (e : TypeId) (z : outParam AV) : Prop where out : zeroAV P e = some z

/-- The entries of a map as keys and values. -/
theorem map_list {J : Nat → Prop} {ρ : Rho} {ag : Bool} {n : Nat} {ms : Array MapEntry} {l : List (List Int × AV)} (h1 : ms.size = l.length)
    (h2 : ∀ j (h : j < l.length), ((ms.getD j default).key = keyV ag l[j].1 ∧ l[j].1.length = n ∧ (ms.getD j default).born = j) ∧ Rep w J ρ ((ms.getD j default).val) l[j].2) :
    ∃ lv : List (List Int × Value), ms.toList.map (fun e => (e.key, e.val)) = lv.map (fun p => (keyV ag p.1, p.2)) ∧ (∀ p ∈ lv, p.1.length = n) ∧ lv.length = l.length ∧ ∀ j (h : j < l.length) (h' : j < lv.length), lv[j].1 = l[j].1 ∧ Rep w J ρ lv[j].2 l[j].2 := by
  refine ⟨(List.range l.length).map fun j => ((l.getD j ([], .any)).1, (ms.getD j default).val), ?_, ?_, by simp, fun j h h' => ?_⟩
  · apply List.ext_getElem
    · simp [h1]
    · intro j hj hj'
      have hjl : j < l.length := by simpa [h1] using hj
      have := (h2 j hjl).1.1
      have hjm : j < ms.size := by omega
      simp [Array.getD, hjm, List.getD_eq_getElem?_getD, hjl] at this ⊢
      exact this
  · intro p hp
    obtain ⟨j, hj, rfl⟩ := List.mem_map.1 hp
    have hjl : j < l.length := by simpa using hj
    simpa [List.getD_eq_getElem?_getD, hjl] using (h2 j hjl).1.2.1
  · simp only [List.getElem_map, List.getElem_range, List.getD_eq_getElem?_getD, List.getElem?_eq_getElem h, Option.getD_some]
    exact ⟨trivial, (h2 j h).2⟩

theorem find_assoc {J : Nat → Prop} {ρ : Rho} {ag : Bool} {x : List Int} : ∀ (lv : List (List Int × Value)) (l : List (List Int × AV)) (i : Nat), lv.length = l.length → (∀ j (h : j < l.length) (h' : j < lv.length), lv[j].1 = l[j].1 ∧ Rep w J ρ lv[j].2 l[j].2) →
    (findM ag x lv i = none ∧ assoc l x = none) ∨ ∃ j v a, findM ag x lv i = some (i + j, v) ∧ assoc l x = some a ∧ Rep w J ρ v a ∧ (∃ h : j < l.length, l[j].1 = x) ∧ (∀ q (h : q < l.length), q < j → l[q].1 ≠ x)
  | [], [], i, _, _ => .inl ⟨rfl, rfl⟩
  | (k, v) :: lv, (k', a) :: l, i, hl, h => by
    have h0 := h 0 (by simp) (by simp)
    simp only [List.getElem_cons_zero] at h0
    obtain ⟨rfl, hr⟩ := h0
    by_cases hx : x = k
    · subst hx
      exact .inr ⟨0, v, a, by simp [findM], by simp [assoc], hr, ⟨by simp, rfl⟩, fun q _ hq => absurd hq (by omega)⟩
    · rcases find_assoc lv l (i + 1) (by simpa using hl) (fun j h1 h2 => by have := h (j + 1) (by simpa using h1) (by simpa using h2); exact this) with ⟨h1, h2⟩ | ⟨j, v', a', h1, h2, h3, ⟨h4, h5⟩, h6⟩
      · exact .inl ⟨by rw [findM, if_neg hx]; exact h1, by rw [assoc, if_neg (Ne.symm hx)]; exact h2⟩
      · refine .inr ⟨j + 1, v', a', by rw [findM, if_neg hx, h1]; congr 2; omega, by rw [assoc, if_neg (Ne.symm hx)]; exact h2, h3, ⟨by simpa using h4, by simpa using h5⟩, fun q hq hlt => ?_⟩
        cases q with
        | zero => simpa using Ne.symm hx
        | succ q => simpa using h6 q (by simpa using hq) (by omega)
  | [], _ :: _, _, hl, _ => by simp at hl
  | _ :: _, [], _, hl, _ => by simp at hl

theorem put_new : ∀ (l : List (List Int × AV)) (x : List Int) (v : AV), assoc l x = none → putM l x v = l ++ [(x, v)]
  | [], _, _, _ => rfl
  | (k, u) :: l, x, v, h => by
    rw [assoc] at h
    split at h
    · cases h
    · rename_i hk; rw [putM, if_neg hk, put_new l x v h]; rfl
theorem put_old : ∀ (l : List (List Int × AV)) (x : List Int) (v : AV) (j : Nat), (∃ h : j < l.length, l[j].1 = x) → (∀ q (h : q < l.length), q < j → l[q].1 ≠ x) → putM l x v = l.set j (x, v)
  | [], _, _, _, ⟨h, _⟩, _ => by simp at h
  | (k, u) :: l, x, v, 0, ⟨_, h⟩, _ => by simp at h; subst h; simp [putM]
  | (k, u) :: l, x, v, j + 1, ⟨h1, h2⟩, h3 => by
    have h0 := h3 0 (by simp) (by omega)
    simp only [List.getElem_cons_zero] at h0
    rw [putM, if_neg h0, put_old l x v j ⟨by simpa using h1, by simpa using h2⟩ (fun q hq hlt => by have := h3 (q + 1) (by simpa using hq) (by omega); exact this)]
    rfl
theorem put_some {l : List (List Int × AV)} {x : List Int} {v : AV} : ∀ {y : List Int}, assoc (putM l x v) y = if x = y then some v else assoc l y := by
  intro y
  induction l with
  | nil => simp [putM, assoc]
  | cons p l ih =>
    obtain ⟨k, u⟩ := p
    rw [putM]
    split
    · rename_i hk; subst hk
      simp only [assoc]
      split <;> rfl
    · rename_i hk
      simp only [assoc]
      split
      · rename_i hky; subst hky; rw [if_neg (Ne.symm hk)]
      · exact ih
end

section
variable {P : Program} {Q : Exit → Nat → St → Prop} {nid : Nat} {st : St} {dst : Option Nat} {ty : TypeId} {pos : String} {af : Array Edge} {g : Option (Nat × Bool)} {K : Nat → Eff → Prop}

theorem Q_makeMap {k e : TypeId} {ag : Bool} {n : Nat} (t : TypeId) [hm : TMap P t k e] [hk : TKey P k ag n] (h : K 1 ⟨.mp nid, [(nid, some (.map ag n []))]⟩) : AO P ⟨dst, .makeMap t none, ty, pos, af, g⟩ nid st K := by
  refine ⟨1, _, .alloc fun c ρ D J a w hs => ?_, h⟩
  refine ⟨.map (some w.heap.size), w.alloc (.map #[] 0), .map #[] 0, 0, by rfl, Grew.alloc w _, fun ρ' h1 h2 => ⟨.mp _ _ nid h1, #[], 0, (Grew.alloc w _).new, ⟨rfl, rfl⟩, fun j hj => by simp at hj⟩⟩

theorem opT_lookup {k e : TypeId} {ag : Bool} {n : Nat} {z : AV} (t : TypeId) (m x : Operand) (ok : Bool) (hm : mapOf P t = some (k, e)) (hk : keyForm P k = some (ag, n)) (hz : zeroAV P e = some z) {id : Nat} {l : List (List Int × AV)} {ks : List Int}
    (h1 : st.op m = .mp id) (h2 : st.ob id = some (.map ag n l)) (h3 : st.op x = keyA ag ks) (h4 : ks.length = n) :
    OpT P ⟨dst, .lookup t m x ok, ty, pos, af, g⟩ nid 0 st ⟨if ok then .tup [(assoc l ks).getD z, .val (.bool (assoc l ks).isSome)] else (assoc l ks).getD z, []⟩ := .pure fun c ρ D J a w hs => by
  obtain ⟨b, s, k1, ⟨ms, clock, k2, k3, k4⟩, _⟩ := hs.obj _ _ h2
  have r1 := hs.op m; rw [h1] at r1
  have r2 := hs.op x; rw [h3] at r2
  have r2 := rep_key r2
  generalize hv : a.eval m = mv at r1
  cases r1 with
  | mp b' s' _ hρ =>
    rw [k1] at hρ; cases hρ
    obtain ⟨lv, g1, g2, g3, g4⟩ := map_list k3.1 k4
    obtain ⟨zv, z1, z2⟩ := run_zeroAV (w := w) hz
    have hfk := findKey_ok (w := w) hk h4 ms.toList lv g1 g2
    have hck := checkKey_ok (w := w) hk h4 ms.isEmpty
    have hget : (getObj b).run P w = .ok (.map ms clock) w := by simp [getObj, Sem.run, k2]
    have hrun : ∀ (v : Value) (o : Bool), (match findM ag ks lv 0 with | some (_, v) => (v, true) | none => (zv, false)) = (v, o) →
        (execOp a.eval ⟨dst, .lookup t m x ok, ty, pos, af, g⟩).run P w = .ok (.value (if ok then .tuple #[v, .bool o] else v)) w := by
      intro v o hvo
      simp only [execOp, Instr.lookup, hv, r2, Sem.run_bind, run_underlying (run_mapOf hm), Result.andThen_ok, hget, Sem.run_pure, hck, hfk]
      cases hf : findM ag ks lv 0 with
      | none => rw [hf] at hvo; simp only [Prod.mk.injEq] at hvo; obtain ⟨rfl, rfl⟩ := hvo; simp [z1]
      | some p => rw [hf] at hvo; simp only [Prod.mk.injEq] at hvo; obtain ⟨rfl, rfl⟩ := hvo; simp
    rcases find_assoc (ag := ag) (x := ks) lv l 0 g3 g4 with ⟨f1, f2⟩ | ⟨j, v, av, f1, f2, f3, _⟩
    · refine ⟨_, hrun zv false (by rw [f1]), ?_⟩
      rw [f2]
      cases ok with
      | true => exact .tup _ _ rfl (fun j hj => match j, hj with | 0, _ => z2 _ _ | 1, _ => .val _)
      | false => exact z2 _ _
    · refine ⟨_, hrun v true (by rw [f1]), ?_⟩
      rw [f2]
      cases ok with
      | true => exact .tup _ _ rfl (fun j hj => match j, hj with | 0, _ => f3 | 1, _ => .val _)
      | false => exact f3

theorem Q_lookup {k e : TypeId} {ag : Bool} {n : Nat} {z : AV} (t : TypeId) (m x : Operand) [hm : TMap P t k e] [hk : TKey P k ag n] [hz : TZeroV P e z]
    (h : bindK (mpAV (st.op m)) fun id => bindK (mapOb (st.ob id)) fun q => bindK (keyInts ag (st.op x)) fun ks => q.1 = ag ∧ q.2.1 = n ∧ ks.length = n ∧ K 0 ⟨(assoc q.2.2 ks).getD z, []⟩) :
    AO P ⟨dst, .lookup t m x false, ty, pos, af, g⟩ nid st K := by
  obtain ⟨id, h1, ⟨ag', n', l⟩, h2, ks, h3, h4, h5, h6, h7⟩ := h
  dsimp only at h4 h5 h7
  subst h4; subst h5
  exact ⟨0, _, opT_lookup t m x false hm.out hk.out hz.out (mpAV_eq h1) (mapOb_eq h2) (keyInts_eq h3) h6, h7⟩
theorem Q_lookupOk {k e : TypeId} {ag : Bool} {n : Nat} {z : AV} (t : TypeId) (m x : Operand) [hm : TMap P t k e] [hk : TKey P k ag n] [hz : TZeroV P e z]
    (h : bindK (mpAV (st.op m)) fun id => bindK (mapOb (st.ob id)) fun q => bindK (keyInts ag (st.op x)) fun ks => q.1 = ag ∧ q.2.1 = n ∧ ks.length = n ∧ K 0 ⟨.tup [(assoc q.2.2 ks).getD z, .val (.bool (assoc q.2.2 ks).isSome)], []⟩) :
    AO P ⟨dst, .lookup t m x true, ty, pos, af, g⟩ nid st K := by
  obtain ⟨id, h1, ⟨ag', n', l⟩, h2, ks, h3, h4, h5, h6, h7⟩ := h
  dsimp only at h4 h5 h7
  subst h4; subst h5
  exact ⟨0, _, opT_lookup t m x true hm.out hk.out hz.out (mpAV_eq h1) (mapOb_eq h2) (keyInts_eq h3) h6, h7⟩

theorem sameBits_key {ag : Bool} {ks : List Int} : Instr.sameBits 10000 (keyV ag ks) (keyV ag ks) = true := by
  cases ag with
  | false => simp [keyV, Instr.sameBits]
  | true =>
    simp only [keyV, if_true]
    rw [Instr.sameBits]
    simp only [beq_self_eq_true, Bool.true_and, List.all_eq_true]
    intro p hp
    obtain ⟨a, b⟩ := p
    have : a = b ∧ ∃ n, a = .int .i64 n := by
      rw [List.mem_iff_getElem] at hp
      obtain ⟨j, hj, he⟩ := hp
      simp only [List.getElem_zip, Prod.mk.injEq] at he
      obtain ⟨rfl, rfl⟩ := he
      exact ⟨rfl, ks[j]'(by simpa using hj), by simp⟩
    obtain ⟨rfl, n, rfl⟩ := this
    simp [Instr.sameBits]

theorem opT_mapUpdate {k e : TypeId} {ag : Bool} {n : Nat} (t : TypeId) (m x y : Operand) (hm : mapOf P t = some (k, e)) (hk : keyForm P k = some (ag, n)) {id : Nat} {l : List (List Int × AV)} {ks : List Int}
    (h1 : st.op m = .mp id) (h2 : st.ob id = some (.map ag n l)) (h3 : st.op x = keyA ag ks) (h4 : ks.length = n) :
    OpT P ⟨dst, .mapUpdate t m x y, ty, pos, af, g⟩ nid 0 st ⟨.any, [(id, some (.map ag n (putM l ks (st.op y))))]⟩ := OpT.modify h2 fun c ρ D J a w b s hs hρ hob hJ => by
  obtain ⟨ms, clock, k2, k3, k4⟩ := hob
  have r1 := hs.op m; rw [h1] at r1
  have r2 := hs.op x; rw [h3] at r2
  have r2 := rep_key r2
  generalize hv : a.eval m = mv at r1
  cases r1 with
  | mp b' s' _ hρ' =>
    rw [hρ] at hρ'; cases hρ'
    obtain ⟨lv, g1, g2, g3, g4⟩ := map_list k3.1 k4
    have hfk := findKey_ok (w := w) hk h4 ms.toList lv g1 g2
    have hck := checkKey_ok (w := w) hk h4 false
    have hget : (getObj b).run P w = .ok (.map ms clock) w := by simp [getObj, Sem.run, k2]
    have hlt : b < w.heap.size := (Array.getElem?_eq_some_iff.1 k2).1
    have hset : ∀ o : Obj, (setObj b o).run P w = .ok () { w with heap := w.heap.setIfInBounds b o } := fun o => by simp [setObj, Sem.run, k2]
    have other : ∀ (o : Obj) k, k ≠ b → ({ w with heap := w.heap.setIfInBounds b o } : World).heap[k]? = w.heap[k]? := fun o k hk => by simp [Array.getElem?_setIfInBounds, Ne.symm hk]
    have here : ∀ (o : Obj), ({ w with heap := w.heap.setIfInBounds b o } : World).heap[b]? = some o := fun o => by simp [Array.getElem?_setIfInBounds, hlt]
    rcases find_assoc (ag := ag) (x := ks) lv l 0 g3 g4 with ⟨f1, f2⟩ | ⟨j, v, av, f1, f2, f3, ⟨f4, f5⟩, f6⟩
    · refine ⟨.skip, { w with heap := w.heap.setIfInBounds b (.map (ms.push { key := keyV ag ks, val := a.eval y, born := clock }) (clock + 1)) }, undef, ?_, .inr ⟨rfl, rfl⟩, ?_, rfl, rfl, rfl, other (.map (ms.push { key := keyV ag ks, val := a.eval y, born := clock }) (clock + 1)), fun hi => ⟨.any _, _, _, here _, ?_, ?_⟩⟩
      · simp only [execOp, Instr.mapUpdate, hv, r2, Sem.run_bind, run_underlying (run_mapOf hm), Result.andThen_ok, hget, hck, hfk, f1, hset, Sem.run_pure]
      · simp
      · rw [put_new _ _ _ f2]; exact ⟨by simp [k3.1], by rw [k3.2]; simp⟩
      · rw [put_new _ _ _ f2]
        intro j hj
        by_cases hjl : j < l.length
        · rw [List.getElem_append_left hjl]
          have := k4 j hjl
          have e1 : (ms.push { key := keyV ag ks, val := a.eval y, born := clock }).getD j default = ms.getD j default := by
            have hjm : j < ms.size := by omega
            simp [Array.getD_eq_getD_getElem?, Array.getElem?_push, show ¬ j = ms.size by omega]
          rw [e1]; exact ⟨this.1, hi _ _ this.2⟩
        · have hje : j = ms.size := by rw [List.length_append] at hj; simp at hj; omega
          rw [List.getElem_append_right (by omega)]
          have e1 : (ms.push { key := keyV ag ks, val := a.eval y, born := clock }).getD j default = { key := keyV ag ks, val := a.eval y, born := clock } := by
            simp [Array.getD_eq_getD_getElem?, Array.getElem?_push, hje]
          rw [e1]
          simp only [show j - l.length = 0 by omega, List.getElem_cons_zero]
          exact ⟨⟨trivial, h4, by rw [k3.2]; rw [hje, k3.1]⟩, hi _ _ (hs.op y)⟩
    · have hjm : j < ms.size := by omega
      have hkey : ((ms[j]?).map (·.key)).getD (keyV ag ks) = keyV ag ks := by
        have := (k4 j f4).1.1
        rw [f5] at this
        simpa [Array.getD, hjm] using this
      have hst : (Instr.keyThatStays (keyV ag ks) (keyV ag ks)).run P w = .ok (keyV ag ks) w := by
        unfold Instr.keyThatStays; rw [if_pos sameBits_key]; rfl
      refine ⟨.skip, { w with heap := w.heap.setIfInBounds b (.map (ms.modify j fun e => { e with key := keyV ag ks, val := a.eval y }) clock) }, undef, ?_, .inr ⟨rfl, rfl⟩, ?_, rfl, rfl, rfl, other (.map (ms.modify j fun e => { e with key := keyV ag ks, val := a.eval y }) clock), fun hi => ⟨.any _, _, _, here _, ?_, ?_⟩⟩
      · simp only [execOp, Instr.mapUpdate, hv, r2, Sem.run_bind, run_underlying (run_mapOf hm), Result.andThen_ok, hget, hck, hfk, f1, Nat.zero_add, hkey, hst, hset, Sem.run_pure]
      · simp
      · rw [put_old _ _ _ j ⟨f4, f5⟩ f6]; exact ⟨by simp [k3.1], by rw [k3.2]; simp⟩
      · rw [put_old _ _ _ j ⟨f4, f5⟩ f6]
        intro q hq
        have hql : q < l.length := by simpa using hq
        have hqm : q < ms.size := by omega
        by_cases hqj : q = j
        · subst hqj
          simp only [List.getElem_set_self]
          have e1 : (ms.modify q fun e => { e with key := keyV ag ks, val := a.eval y }).getD q default = { ms[q] with key := keyV ag ks, val := a.eval y } := by
            simp [Array.getD, hqm, Array.getElem_modify]
          rw [e1]
          exact ⟨⟨rfl, h4, by have hb := (k4 q f4).1.2.2; simpa [Array.getD, hqm] using hb⟩, hi _ _ (hs.op y)⟩
        · rw [List.getElem_set_ne (Ne.symm hqj)]
          have e1 : (ms.modify j fun e => { e with key := keyV ag ks, val := a.eval y }).getD q default = ms.getD q default := by
            simp [Array.getD, hqm, Array.getElem_modify, Ne.symm hqj]
          rw [e1]
          have := k4 q hql
          exact ⟨this.1, hi _ _ this.2⟩

theorem Q_mapUpdate {k e : TypeId} {ag : Bool} {n : Nat} (t : TypeId) (m x y : Operand) [hm : TMap P t k e] [hk : TKey P k ag n]
    (h : bindK (mpAV (st.op m)) fun id => bindK (mapOb (st.ob id)) fun q => bindK (keyInts ag (st.op x)) fun ks => q.1 = ag ∧ q.2.1 = n ∧ ks.length = n ∧ K 0 ⟨.any, [(id, some (.map ag n (putM q.2.2 ks (st.op y))))]⟩) :
    AO P ⟨dst, .mapUpdate t m x y, ty, pos, af, g⟩ nid st K := by
  obtain ⟨id, h1, ⟨ag', n', l⟩, h2, ks, h3, h4, h5, h6, h7⟩ := h
  dsimp only at h4 h5 h7
  subst h4; subst h5
  exact ⟨0, _, opT_mapUpdate t m x y hm.out hk.out (mpAV_eq h1) (mapOb_eq h2) (keyInts_eq h3) h6, h7⟩
end
attribute [push_cast] e_mapOb e_mp e_keyInts1 e_keyInts2 e_keyInts3 bndO_map noImmO_map
end Go.Sy
