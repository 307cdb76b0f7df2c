/-
  Operations of the symbolic walk that read and reckon: each gives its value, the world stays. No condition.
-/
import Derived.Test.YtphpjgfhdoobjaaSym1
import Derived.WalkSpells
import Derived.WalkLawsBesides
set_option linter.unusedVariables false
set_option linter.unusedSectionVars false
set_option linter.unusedSimpArgs false
namespace Go.Sy

def siz (P : Program) (t : TypeId) : Option Nat := (P.info? t).map (·.size)
def byt (P : Program) (t : TypeId) : Option Nat := (P.info? t).map (·.bytes)
def isAggB (P : Program) (t : TypeId) : Option Bool := (P.underlying t).map fun | .struct _ | .array _ _ => true | _ => false
def fieldOf (P : Program) (t i : Nat) : Option (Nat × TypeId) := match P.underlying t with
  | some (.struct fs) => (fs[i]?).map fun f => (f.offset, f.type)
  | _ => none
def elemOf (P : Program) (t : TypeId) : Option TypeId := match P.underlying t with | some (.slice e) => some e | _ => none
def arrOf (P : Program) (t : TypeId) : Option (Nat × TypeId) := match P.underlying t with | some (.array n e) => some (n, e) | _ => none
def kindOf (P : Program) (t : TypeId) : Option IntKind := match P.underlying t with | some (.int k) => some k | _ => none
def isBoolB (P : Program) (t : TypeId) : Bool := match P.underlying t with | some .bool => true | _ => false
def isPtrB (P : Program) (t : TypeId) : Bool := match P.underlying t with | some (.pointer _) => true | _ => false
def isStrB (P : Program) (t : TypeId) : Bool := match P.underlying t with | some .string => true | _ => false

section
variable {P : Program} {w : World} {t : TypeId}
theorem run_siz {n : Nat} (h : siz P t = some n) : (sizeOf t).run P w = .ok n w := by
  unfold siz at h
  cases hi : P.info? t with
  | none => simp [hi] at h
  | some i => simp [hi] at h; simp [sizeOf, typeInfo, hi, h]
theorem run_isAggB {b : Bool} (h : isAggB P t = some b) : (isAgg t).run P w = .ok b w := by
  unfold isAggB at h
  cases hi : P.underlying t with
  | none => simp [hi] at h
  | some d =>
    simp [hi] at h
    unfold isAgg
    rw [Sem.run_bind, run_underlying hi]
    cases d <;> simp_all
theorem run_fieldOf {i off : Nat} {ft : TypeId} (h : fieldOf P t i = some (off, ft)) : ∃ fs f, P.underlying t = some (.struct fs) ∧ fs[i]? = some f ∧ f.offset = off ∧ f.type = ft := by
  unfold fieldOf at h
  split at h
  · rename_i fs hu
    cases hf : fs[i]? with
    | none => simp [hf] at h
    | some f => simp [hf] at h; exact ⟨fs, f, hu, hf, h.1, h.2⟩
  · cases h
theorem run_elemOf {e : TypeId} (h : elemOf P t = some e) : P.underlying t = some (.slice e) := by
  unfold elemOf at h; split at h
  · rename_i u hu; cases h; exact hu
  · cases h
theorem run_arrOf {n : Nat} {e : TypeId} (h : arrOf P t = some (n, e)) : P.underlying t = some (.array n e) := by
  unfold arrOf at h; split at h
  · rename_i u hu; cases h; assumption
  · cases h
theorem run_kindOf {k : IntKind} (h : kindOf P t = some k) : P.underlying t = some (.int k) := by
  unfold kindOf at h; split at h
  · rename_i u hu; cases h; assumption
  · cases h
theorem run_isBoolB (h : isBoolB P t = true) : P.underlying t = some .bool := by
  unfold isBoolB at h; split at h
  · assumption
  · cases h
theorem run_isPtrB (h : isPtrB P t = true) : ∃ e, P.underlying t = some (.pointer e) := by
  unfold isPtrB at h; split at h
  · exact ⟨_, by assumption⟩
  · cases h
theorem run_isStrB (h : isStrB P t = true) : P.underlying t = some .string := by
  unfold isStrB at h; split at h
  · assumption
  · cases h
end

theorem Sim.op {c : Ctx} {ρ : Rho} {D J : Nat → Prop} {st : St} {a : Act} {w : World} (h : Sim c ρ D J st a w) (x : Operand) : Rep w J ρ (a.eval x) (st.op x) := by
  cases x with
  | tmp t => exact h.env t
  | const v => exact rep_ofV v
  | global g => exact .val _
  | func f => exact .fn f #[] [] rfl (fun j hj => by simp at hj)

/-- An operation that only gives a value. -/
theorem OpT.pure {P : Program} {o : Oper} {nid : Nat} {st : St} {x : AV}
    (h : ∀ (c : Ctx) (ρ : Rho) (D J : Nat → Prop) (a : Act) (w : World), Sim c ρ D J st a w → ∃ v, (execOp a.eval o).run P w = .ok (.value v) w ∧ Rep w J ρ v x) : OpT P o nid 0 st ⟨x, []⟩ := by
  intro c ρ D J a w hs _ K Q hK
  obtain ⟨v, hr, hv⟩ := h c ρ D J a w hs
  unfold Oper.wp; rw [hr]
  exact hK v w ρ J ⟨Nat.le_refl _, rfl, rfl, rfl, fun _ _ _ => rfl, fun _ _ h => h, fun _ _ h => .inl h, fun _ h => h, fun _ h => .inl h, hv, fun id o h => by simp [look] at h, fun id id' o o' b s s' h => by simp [look] at h⟩

/-- The same, where the value may hang on the world's draws: the world may have drawn. -/
theorem rep_val_inv {w : World} {J : Nat → Prop} {ρ : Rho} {v u : Value} (h : Rep w J ρ v (.val u)) : v = u := by cases h; rfl

/-- Two numbers, strings, truth values. -/
def pbin (P : Program) (op : BinOp) (t : TypeId) (x y : Value) : Option Value :=
  match op, x, y with
  | .shl, .int k a, .int _ b => if b < 0 then none else some (.int k (k.wrap (a * 2 ^ (min b.toNat k.bits))))
  | .shr, .int k a, .int _ b => if b < 0 then none else some (.int k (a.fdiv (2 ^ (min b.toNat k.bits))))
  | .add, .int k a, .int k' b => if k = k' then some (.int k (k.wrap (a + b))) else none
  | .sub, .int k a, .int k' b => if k = k' then some (.int k (k.wrap (a - b))) else none
  | .mul, .int k a, .int k' b => if k = k' then some (.int k (k.wrap (a * b))) else none
  | .quo, .int k a, .int k' b => if k = k' ∧ b ≠ 0 then some (.int k (k.wrap (a.tdiv b))) else none
  | .rem, .int k a, .int k' b => if k = k' ∧ b ≠ 0 then some (.int k (a.tmod b)) else none
  | .and, .int k a, .int k' b => if k = k' then some (.int k (k.wrap (BitVec.ofInt k.bits a &&& BitVec.ofInt k.bits b).toNat)) else none
  | .or, .int k a, .int k' b => if k = k' then some (.int k (k.wrap (BitVec.ofInt k.bits a ||| BitVec.ofInt k.bits b).toNat)) else none
  | .xor, .int k a, .int k' b => if k = k' then some (.int k (k.wrap (BitVec.ofInt k.bits a ^^^ BitVec.ofInt k.bits b).toNat)) else none
  | .andNot, .int k a, .int k' b => if k = k' then some (.int k (k.wrap (BitVec.ofInt k.bits a &&& ~~~ BitVec.ofInt k.bits b).toNat)) else none
  | .eql, .int k a, .int k' b => if k = k' then some (.bool (decide (a = b))) else none
  | .neq, .int k a, .int k' b => if k = k' then some (.bool (decide (a ≠ b))) else none
  | .lss, .int k a, .int k' b => if k = k' then some (.bool (decide (a < b))) else none
  | .leq, .int k a, .int k' b => if k = k' then some (.bool (decide (a ≤ b))) else none
  | .gtr, .int k a, .int k' b => if k = k' then some (.bool (decide (b < a))) else none
  | .geq, .int k a, .int k' b => if k = k' then some (.bool (decide (b ≤ a))) else none
  | .eql, .bool a, .bool b => if isBoolB P t then some (.bool (a == b)) else none
  | .neq, .bool a, .bool b => if isBoolB P t then some (.bool (a != b)) else none
  | .eql, .string a, .string b => some (.bool (decide (a = b)))
  | .neq, .string a, .string b => some (.bool (decide (a ≠ b)))
  | .add, .string a, .string b => if ((a.size + b.size : Nat) : Int) ≤ 9223372036854775807 then some (.string (a ++ b)) else none
  | .eql, .pointer none, .pointer b => if isPtrB P t then some (.bool b.isNone) else none
  | .neq, .pointer none, .pointer b => if isPtrB P t then some (.bool !b.isNone) else none
  | _, _, _ => none

theorem toList_beq (a b : ByteArray) : (a.toList == b.toList) = decide (a = b) := by
  have h : a.toList = b.toList ↔ a = b := by
    constructor
    · intro h
      have h1 := congrArg List.toArray h
      have e : ∀ x : ByteArray, x.toList.toArray = x.data := fun x => by rw [ByteArray.toList_eq]
      rw [e, e] at h1
      cases a; cases b; simp at h1; simp [h1]
    · intro h; rw [h]
  rw [Bool.eq_iff_iff]
  simp [h]

theorem equal_bool {P : Program} {t : TypeId} (h : isBoolB P t = true) (a b : Bool) (w : World) : (Op.equal t (.bool a) (.bool b)).run P w = .ok (a == b) w := by
  have hu := run_isBoolB h
  show (Op.equalIn (9999 + 1) t _ _).run P w = _
  rw [Op.equalIn]
  simp [run_underlying hu]
theorem equal_nilptr {P : Program} {t : TypeId} (h : isPtrB P t = true) (b : Option Addr) (w : World) : (Op.equal t (.pointer none) (.pointer b)).run P w = .ok b.isNone w := by
  obtain ⟨e, hu⟩ := run_isPtrB h
  show (Op.equalIn (9999 + 1) t _ _).run P w = _
  rw [Op.equalIn]
  simp [run_underlying hu]

theorem pbin_run {P : Program} {op : BinOp} {t : TypeId} {x y v : Value} (h : pbin P op t x y = some v) (w : World) : (binOp op t x y).run P w = .ok v w := by
  unfold pbin at h
  split at h <;> (try (split at h)) <;> first
    | (cases h; done)
    | (cases h
       simp only [binOp]
       first
        | (simp_all [Op.shift, Op.intArith, Op.intDiv, Op.intBits, Op.intCmp, Op.stringOp, toList_beq, bne]; done)
        | (rename_i hb; simp [equal_bool hb, bne]; done)
        | (rename_i hb; simp [equal_nilptr hb]; done)
        | (rename_i hb; simp only [Op.shift, if_neg hb]; rfl)
        | (rename_i hk; subst hk; simp only [Op.intCmp, ne_eq, not_true, if_false, Sem.run_pure]; congr 2; try (rw [Bool.eq_iff_iff]; simp)))

end Go.Sy
