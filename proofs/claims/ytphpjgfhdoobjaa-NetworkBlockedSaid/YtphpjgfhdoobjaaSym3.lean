/-
  The operations of the symbolic walk, each with what it gives: those that only give a value. No condition.
-/
import Derived.Test.YtphpjgfhdoobjaaSym2
set_option linter.unusedVariables false
set_option linter.unusedSectionVars false
set_option linter.unusedSimpArgs false
namespace Go.Sy

/-- '==' between a slice or a pointer and nil. -/
def eqAV (P : Program) (t : TypeId) (x y : AV) : Option Bool :=
  match P.underlying t, x, y with
  | some (.slice _), .isl z _ _, .isl true [] 0 => some z
  | some (.slice _), .sl .., .isl true [] 0 => some false
  | some (.pointer _), .pt .., .val (.pointer none) => some false
  | some (.pointer _), .ipt .., .val (.pointer none) => some false
  | _, _, _ => none

theorem eqAV_run {P : Program} {t : TypeId} {x y : AV} {b : Bool} (h : eqAV P t x y = some b) {w : World} {J : Nat → Prop} {ρ : Rho} {u v : Value}
    (hu : Rep w J ρ u x) (hv : Rep w J ρ v y) : (Op.equal t u v).run P w = .ok b w ∧ (∃ a n c, u = .slice a n c) ∨ (Op.equal t u v).run P w = .ok b w ∧ ∃ a, u = .pointer a := by
  show (Op.equalIn (9999 + 1) t _ _).run P w = _ ∧ _ ∨ (Op.equalIn (9999 + 1) t _ _).run P w = _ ∧ _
  unfold eqAV at h
  split at h
  · rename_i hty
    refine .inl ?_
    cases hv; cases h
    rw [Op.equalIn]
    cases hu <;> simp [run_underlying hty]
  · rename_i hty
    refine .inl ?_
    cases hv; cases h
    rw [Op.equalIn]
    cases hu; simp [run_underlying hty]
  · rename_i hty
    refine .inr ?_
    cases hv; cases h
    rw [Op.equalIn]
    cases hu; simp [run_underlying hty]
  · rename_i hty
    refine .inr ?_
    cases hv; cases h
    rw [Op.equalIn]
    cases hu; simp [run_underlying hty]
  · cases h

def pickAV (t : Bool) : AV → AV → AV
  | .val (.bool u), .val (.bool v) => .val (.bool (if t then u else v))
  | x, y => if t then x else y

theorem rep_pick {w : World} {J : Nat → Prop} {ρ : Rho} {t : Bool} {x y : AV} {u v : Value} (hx : Rep w J ρ u x) (hy : Rep w J ρ v y) : Rep w J ρ (if t then u else v) (pickAV t x y) := by
  cases t
  · have : pickAV false x y = y := by unfold pickAV; split <;> simp
    rw [this]; exact hy
  · have : pickAV true x y = x := by unfold pickAV; split <;> simp
    rw [this]; exact hx

section
variable {P : Program} {dst : Option Nat} {ty : TypeId} {pos : String} {af : Array Edge} {g : Option (Nat × Bool)} {nid : Nat} {st : St}

theorem opT_move (x : Operand) : OpT P ⟨dst, .move x, ty, pos, af, g⟩ nid 0 st ⟨st.op x, []⟩ := .pure fun c ρ D J a w h => ⟨_, rfl, h.op x⟩
theorem opT_assign (x : Operand) : OpT P ⟨dst, .assign x, ty, pos, af, g⟩ nid 0 st ⟨st.op x, []⟩ := .pure fun c ρ D J a w h => ⟨_, rfl, h.op x⟩

theorem opT_pick (x y z : Operand) (b : Bool) (hx : st.op x = .val (.bool b)) : OpT P ⟨dst, .pick x y z, ty, pos, af, g⟩ nid 0 st ⟨pickAV b (st.op y) (st.op z), []⟩ := .pure fun c ρ D J a w h => by
  have h1 := h.op x
  rw [hx] at h1
  have e := rep_val_inv h1
  exact ⟨if b then a.eval y else a.eval z, by simp [execOp, e, asBool], rep_pick (h.op y) (h.op z)⟩

theorem opT_binOp (op : BinOp) (t : TypeId) (x y : Operand) (t' : TypeId) (u v r : Value) (hx : st.op x = .val u) (hy : st.op y = .val v) (hr : pbin P op t u v = some r)
    (hg : ∀ w : World, (eqGuard op t x y u v).run P w = .ok () w) :
    OpT P ⟨dst, .binOp op t x y t', ty, pos, af, g⟩ nid 0 st ⟨ofV r, []⟩ := .pure fun c ρ D J a w h => by
  have h1 := h.op x; have h2 := h.op y
  rw [hx] at h1; rw [hy] at h2
  have e1 := rep_val_inv h1; have e2 := rep_val_inv h2
  exact ⟨r, by simp [execOp, e1, e2, hg w, pbin_run hr w], rep_ofV r⟩

theorem opT_eqnil (t : TypeId) (x y : Operand) (t' : TypeId) (b : Bool) (h : eqAV P t (st.op x) (st.op y) = some b) : OpT P ⟨dst, .binOp .eql t x y t', ty, pos, af, g⟩ nid 0 st ⟨.val (.bool b), []⟩ := .pure fun c ρ D J a w hs => by
  refine ⟨.bool b, ?_, .val _⟩
  rcases eqAV_run h (hs.op x) (hs.op y) with ⟨hr, a1, n1, c1, e1⟩ | ⟨hr, a1, e1⟩
  · rw [e1] at hr; simp [execOp, e1, eqGuard, binOp, hr]
  · rw [e1] at hr; simp [execOp, e1, eqGuard, binOp, hr]
theorem opT_neqnil (t : TypeId) (x y : Operand) (t' : TypeId) (b : Bool) (h : eqAV P t (st.op x) (st.op y) = some b) : OpT P ⟨dst, .binOp .neq t x y t', ty, pos, af, g⟩ nid 0 st ⟨.val (.bool !b), []⟩ := .pure fun c ρ D J a w hs => by
  refine ⟨.bool !b, ?_, .val _⟩
  rcases eqAV_run h (hs.op x) (hs.op y) with ⟨hr, a1, n1, c1, e1⟩ | ⟨hr, a1, e1⟩
  · rw [e1] at hr; simp [execOp, e1, eqGuard, binOp, hr]
  · rw [e1] at hr; simp [execOp, e1, eqGuard, binOp, hr]

theorem opT_unOp_not (t : TypeId) (x : Operand) (b : Bool) (hx : st.op x = .val (.bool b)) : OpT P ⟨dst, .unOp .not t x, ty, pos, af, g⟩ nid 0 st ⟨.val (.bool !b), []⟩ := .pure fun c ρ D J a w h => by
  have h1 := h.op x
  rw [hx] at h1
  have e := rep_val_inv h1
  exact ⟨.bool !b, by simp [execOp, e, Op.unary], .val _⟩
theorem opT_unOp_neg (t : TypeId) (x : Operand) (k : IntKind) (n : Int) (hx : st.op x = .val (.int k n)) : OpT P ⟨dst, .unOp .neg t x, ty, pos, af, g⟩ nid 0 st ⟨.val (.int k (k.wrap (0 - n))), []⟩ := .pure fun c ρ D J a w h => by
  have h1 := h.op x
  rw [hx] at h1
  have e := rep_val_inv h1
  exact ⟨_, by simp [execOp, e, Op.unary, Op.intArith]; rfl, by first | exact .val _ | (simp; exact .val _)⟩

theorem opT_convert_int (s t : TypeId) (x : Operand) (k k' : IntKind) (n : Int) (ks : IntKind) (hs : kindOf P s = some ks) (hk : kindOf P t = some k) (hx : st.op x = .val (.int k' n)) :
    OpT P ⟨dst, .convert s t x, ty, pos, af, g⟩ nid 0 st ⟨.val (.int k (k.wrap n)), []⟩ := .pure fun c ρ D J a w h => by
  have h1 := h.op x
  rw [hx] at h1
  have e := rep_val_inv h1
  exact ⟨.int k (k.wrap n), by simp [execOp, e, convert, run_underlying (run_kindOf hk), run_underlying (run_kindOf hs), Conv.intToInt], .val _⟩

/-- What a nil check lets by. -/
def AV.notNil : AV → Bool
  | .pt .. | .ipt .. | .fn .. | .mp _ => true
  | _ => false

theorem opT_nilCheck (x : Operand) (hx : (st.op x).notNil = true) : OpT P ⟨dst, .nilCheck x, ty, pos, af, g⟩ nid 0 st ⟨st.op x, []⟩ := .pure fun c ρ D J a w h => by
  have h1 := h.op x
  refine ⟨a.eval x, ?_, h1⟩
  generalize st.op x = y at h1 hx
  generalize hv : a.eval x = v at h1
  cases h1 <;> simp_all [execOp, AV.notNil]

theorem opT_fieldAddr_pt (s : TypeId) (x : Operand) (f : Nat) (id off fo n : Nat) (ft : TypeId) (hx : st.op x = .pt id off) (hf : fieldOf P s f = some (fo, ft)) (hz : siz P ft = some (n + 1)) :
    OpT P ⟨dst, .fieldAddr s x f, ty, pos, af, g⟩ nid 0 st ⟨.pt id (off + fo), []⟩ := .pure fun c ρ D J a w h => by
  have h1 := h.op x
  rw [hx] at h1
  obtain ⟨fs, fd, hu, hfs, rfl, rfl⟩ := run_fieldOf hf
  generalize hv : a.eval x = v at h1
  cases h1 with
  | pt b s' _ _ hr => exact ⟨.pointer (some ⟨b, off + fd.offset, none⟩), by simp [execOp, hv, Instr.fieldAt, run_underlying hu, hfs, Instr.sureAddr, fieldPlace, run_siz hz, Addr.add_lit], .pt b s' id _ hr⟩

theorem opT_fieldAddr_ipt (s : TypeId) (x : Operand) (f : Nat) (cells : List AV) (off fo n : Nat) (ft : TypeId) (hx : st.op x = .ipt cells off) (hf : fieldOf P s f = some (fo, ft)) (hz : siz P ft = some (n + 1)) :
    OpT P ⟨dst, .fieldAddr s x f, ty, pos, af, g⟩ nid 0 st ⟨.ipt cells (off + fo), []⟩ := .pure fun c ρ D J a w h => by
  have h1 := h.op x
  rw [hx] at h1
  obtain ⟨fs, fd, hu, hfs, rfl, rfl⟩ := run_fieldOf hf
  generalize hv : a.eval x = v at h1
  cases h1 with
  | ipt b o _ _ u hb h0 h1 h2 => exact ⟨.pointer (some ⟨b, o + (off + fd.offset), none⟩), by simp [execOp, hv, Instr.fieldAt, run_underlying hu, hfs, Instr.sureAddr, fieldPlace, run_siz hz, Addr.add_lit, Nat.add_assoc], .ipt b o _ cells u hb h0 h1 h2⟩

theorem opT_indexAddr_sl (t : TypeId) (x ix : Operand) (id off len es : Nat) (k : IntKind) (i : Int) (e : TypeId) (hx : st.op x = .sl id off len es) (hi : st.op ix = .val (.int k i))
    (he : elemOf P t = some e) (hz : siz P e = some es) (hr : 0 ≤ i ∧ i < len) :
    OpT P ⟨dst, .indexAddr t x ix, ty, pos, af, g⟩ nid 0 st ⟨.pt id (off + i.toNat * es), []⟩ := .pure fun c ρ D J a w h => by
  have h1 := h.op x; have h2 := h.op ix
  rw [hx] at h1; rw [hi] at h2
  have e2 := rep_val_inv h2
  have hu := run_elemOf he
  generalize hv : a.eval x = v at h1
  cases h1 with
  | sl b s _ _ _ _ cap hρ hc hs => exact ⟨.pointer (some ⟨b, off + i.toNat * es, none⟩), by simp [execOp, hv, e2, Instr.indexAt, asIntOf, run_underlying hu, hr, run_siz hz, Addr.add_lit], .pt b s id _ hρ⟩

theorem opT_indexAddr_sl' (t : TypeId) (x ix : Operand) (id off len es es' : Nat) (k : IntKind) (i : Int) (e : TypeId) (hx : st.op x = .sl id off len es') (hi : st.op ix = .val (.int k i))
    (he : elemOf P t = some e) (hz : siz P e = some es) (hr : 0 ≤ i ∧ i < len) :
    OpT P ⟨dst, .indexAddr t x ix, ty, pos, af, g⟩ nid 0 st ⟨.pt id (off + i.toNat * es), []⟩ := .pure fun c ρ D J a w h => by
  have h1 := h.op x; have h2 := h.op ix
  rw [hx] at h1; rw [hi] at h2
  have e2 := rep_val_inv h2
  have hu := run_elemOf he
  generalize hv : a.eval x = v at h1
  cases h1 with
  | sl b s _ _ _ _ cap hρ hc hs => exact ⟨.pointer (some ⟨b, off + i.toNat * es, none⟩), by simp [execOp, hv, e2, Instr.indexAt, asIntOf, run_underlying hu, hr, run_siz hz, Addr.add_lit], .pt b s id _ hρ⟩

theorem opT_indexAddr_isl (t : TypeId) (x ix : Operand) (z : Bool) (cells : List AV) (len es : Nat) (k : IntKind) (i : Int) (e : TypeId) (hx : st.op x = .isl z cells len) (hi : st.op ix = .val (.int k i))
    (he : elemOf P t = some e) (hz : siz P e = some es) (hr : 0 ≤ i ∧ i < len) :
    OpT P ⟨dst, .indexAddr t x ix, ty, pos, af, g⟩ nid 0 st ⟨.ipt cells (i.toNat * es), []⟩ := .pure fun c ρ D J a w h => by
  have h1 := h.op x; have h2 := h.op ix
  rw [hx] at h1; rw [hi] at h2
  have e2 := rep_val_inv h2
  have hu := run_elemOf he
  generalize hv : a.eval x = v at h1
  cases h1 with
  | inil => exfalso; simp at hr; omega
  | iemp => exfalso; simp at hr; omega
  | isl b off _ cap _ u hb hc h0 h1 h2 => exact ⟨.pointer (some ⟨b, off + i.toNat * es, none⟩), by simp [execOp, hv, e2, Instr.indexAt, asIntOf, run_underlying hu, hr, run_siz hz, Addr.add_lit], .ipt b off _ cells u hb h0 h1 h2⟩

theorem opT_indexAddr_arr (t : TypeId) (x ix : Operand) (id off n es : Nat) (k : IntKind) (i : Int) (e : TypeId) (hx : st.op x = .pt id off) (hi : st.op ix = .val (.int k i))
    (he : arrOf P t = some (n, e)) (hz : siz P e = some es) (hr : 0 ≤ i ∧ i < n) :
    OpT P ⟨dst, .indexAddr t x ix, ty, pos, af, g⟩ nid 0 st ⟨.pt id (off + i.toNat * es), []⟩ := .pure fun c ρ D J a w h => by
  have h1 := h.op x; have h2 := h.op ix
  rw [hx] at h1; rw [hi] at h2
  have e2 := rep_val_inv h2
  have hu := run_arrOf he
  generalize hv : a.eval x = v at h1
  cases h1 with
  | pt b s _ _ hρ => exact ⟨.pointer (some ⟨b, off + i.toNat * es, none⟩), by simp [execOp, hv, e2, Instr.indexAt, asIntOf, run_underlying hu, hr, run_siz hz, Addr.add_lit, Instr.sureAddr], .pt b s id _ hρ⟩

theorem opT_indexAddr_iarr (t : TypeId) (x ix : Operand) (cells : List AV) (off n es : Nat) (k : IntKind) (i : Int) (e : TypeId) (hx : st.op x = .ipt cells off) (hi : st.op ix = .val (.int k i))
    (he : arrOf P t = some (n, e)) (hz : siz P e = some es) (hr : 0 ≤ i ∧ i < n) :
    OpT P ⟨dst, .indexAddr t x ix, ty, pos, af, g⟩ nid 0 st ⟨.ipt cells (off + i.toNat * es), []⟩ := .pure fun c ρ D J a w h => by
  have h1 := h.op x; have h2 := h.op ix
  rw [hx] at h1; rw [hi] at h2
  have e2 := rep_val_inv h2
  have hu := run_arrOf he
  generalize hv : a.eval x = v at h1
  cases h1 with
  | ipt b o _ _ u hb h0 h1 h2 => exact ⟨.pointer (some ⟨b, o + (off + i.toNat * es), none⟩), by simp [execOp, hv, e2, Instr.indexAt, asIntOf, run_underlying hu, hr, run_siz hz, Addr.add_lit, Instr.sureAddr, Nat.add_assoc], .ipt b o _ cells u hb h0 h1 h2⟩

/-- The cells of an object, read as a value. -/
theorem cell_obj {w : World} {J : Nat → Prop} {ρ : Rho} {b s : Nat} {cs : List AV} {e : TypeId} (h : ObjRep w J ρ b s (.cells cs e)) : ∃ u : Nat → Value, ∀ j (hj : j < cs.length),
    w.cell? ⟨b, j, none⟩ = some (u j) ∧ (u j).oneCell' = true ∧ Rep w J ρ (u j) cs[j] := by
  obtain ⟨c, hc, hs, hl, hr, _⟩ := h
  refine ⟨fun j => c.getD j undef, fun j hj => ⟨?_, (hr j hj).1, (hr j hj).2⟩⟩
  rw [cell_of_row w b j c e (0, 0) hc]
  have : j < c.size := by omega
  simp [Array.getD, this]

theorem run_loadCells_rep {w : World} {J : Nat → Prop} {ρ : Rho} {b off n : Nat} {cs : List AV} (u : Nat → Value) (h : ∀ j (hj : j < cs.length), w.cell? ⟨b, off + j, none⟩ = some (u j) ∧ Rep w J ρ (u j) cs[j]) (hn : cs.length = n) :
    ∃ vs : Array Value, (loadCells ⟨b, off, none⟩ n).run P w = .ok vs w ∧ Rep w J ρ (.agg vs) (.agg cs) := by
  have h1 := run_loadCells (P := P) w ⟨b, off, none⟩ n u (fun j hj => by rw [Addr.add_lit]; exact (h j (by omega)).1)
  refine ⟨_, h1, .agg _ _ (by simp [hn]) (fun j hj => ?_)⟩
  have : ((List.range n).map u).toArray.getD j undef = u j := by simp [Array.getD, hn ▸ hj]
  rw [this]; exact (h j hj).2

theorem opT_load_pt (t : TypeId) (x : Operand) (id off : Nat) (cs : List AV) (e : TypeId) (y : AV) (hx : st.op x = .pt id off) (ho : st.ob id = some (.cells cs e)) (ha : isAggB P t = some false) (hy : cs[off]? = some y) :
    OpT P ⟨dst, .load t x, ty, pos, af, g⟩ nid 0 st ⟨y, []⟩ := .pure fun c ρ D J a w h => by
  have h1 := h.op x
  rw [hx] at h1
  obtain ⟨b, s, hρ, hob, _⟩ := h.obj id _ ho
  obtain ⟨u, hu⟩ := cell_obj hob
  generalize hv : a.eval x = v at h1
  cases h1 with
  | pt b' s' _ _ hρ' =>
    rw [hρ] at hρ'; cases hρ'
    obtain ⟨hlt, rfl⟩ := List.getElem?_eq_some_iff.1 hy
    exact ⟨u off, by simp [execOp, hv, Instr.loadAt, Instr.sureAddr, loadVar, run_isAggB ha, (hu off hlt).1], (hu off hlt).2.2⟩

theorem opT_load_ipt (t : TypeId) (x : Operand) (cells : List AV) (off : Nat) (y : AV) (hx : st.op x = .ipt cells off) (ha : isAggB P t = some false) (hy : cells[off]? = some y) :
    OpT P ⟨dst, .load t x, ty, pos, af, g⟩ nid 0 st ⟨y, []⟩ := .pure fun c ρ D J a w h => by
  have h1 := h.op x
  rw [hx] at h1
  generalize hv : a.eval x = v at h1
  cases h1 with
  | ipt b o _ _ u hb h0 h1 h2 =>
    obtain ⟨hlt, rfl⟩ := List.getElem?_eq_some_iff.1 hy
    exact ⟨u off, by simp [execOp, hv, Instr.loadAt, Instr.sureAddr, loadVar, run_isAggB ha, h1 off hlt], (h2 off hlt).up⟩

theorem opT_load_pt_agg (t : TypeId) (x : Operand) (id off n : Nat) (cs : List AV) (e : TypeId) (hx : st.op x = .pt id off) (ho : st.ob id = some (.cells cs e)) (ha : isAggB P t = some true) (hz : siz P t = some n) (hy : off + n ≤ cs.length) :
    OpT P ⟨dst, .load t x, ty, pos, af, g⟩ nid 0 st ⟨.agg ((cs.drop off).take n), []⟩ := .pure fun c ρ D J a w h => by
  have h1 := h.op x
  rw [hx] at h1
  obtain ⟨b, s, hρ, hob, _⟩ := h.obj id _ ho
  obtain ⟨u, hu⟩ := cell_obj hob
  generalize hv : a.eval x = v at h1
  cases h1 with
  | pt b' s' _ _ hρ' =>
    rw [hρ] at hρ'; cases hρ'
    obtain ⟨vs, hr, hrep⟩ := run_loadCells_rep (P := P) (w := w) (J := J) (ρ := ρ) (b := b) (off := off) (n := n) (cs := (cs.drop off).take n) (fun j => u (off + j)) (fun j hj => by
      simp at hj
      have := hu (off + j) (by omega)
      exact ⟨this.1, by simpa using this.2.2⟩) (by simp; omega)
    exact ⟨.agg vs, by simp [execOp, hv, Instr.loadAt, Instr.sureAddr, loadVar, run_isAggB ha, run_siz hz, hr], hrep⟩

theorem opT_load_ipt_agg (t : TypeId) (x : Operand) (off n : Nat) (cs : List AV) (hx : st.op x = .ipt cs off) (ha : isAggB P t = some true) (hz : siz P t = some n) (hy : off + n ≤ cs.length) :
    OpT P ⟨dst, .load t x, ty, pos, af, g⟩ nid 0 st ⟨.agg ((cs.drop off).take n), []⟩ := .pure fun c ρ D J a w h => by
  have h1 := h.op x
  rw [hx] at h1
  generalize hv : a.eval x = v at h1
  cases h1 with
  | ipt b o _ _ u hb h0 h1 h2 =>
    obtain ⟨vs, hr, hrep⟩ := run_loadCells_rep (P := P) (w := w) (J := J) (ρ := ρ) (b := b) (off := o + off) (n := n) (cs := (cs.drop off).take n) (fun j => u (off + j)) (fun j hj => by
      simp at hj
      exact ⟨by rw [Nat.add_assoc]; exact h1 (off + j) (by omega), by simpa using (h2 (off + j) (by omega)).up⟩) (by simp; omega)
    exact ⟨.agg vs, by simp [execOp, hv, Instr.loadAt, Instr.sureAddr, loadVar, run_isAggB ha, run_siz hz, hr], hrep⟩

theorem opT_field (s : TypeId) (x : Operand) (f : Nat) (cs : List AV) (fo : Nat) (ft : TypeId) (y : AV) (hx : st.op x = .agg cs) (hf : fieldOf P s f = some (fo, ft)) (ha : isAggB P ft = some false) (hy : cs[fo]? = some y) :
    OpT P ⟨dst, .field s x f, ty, pos, af, g⟩ nid 0 st ⟨y, []⟩ := .pure fun c ρ D J a w h => by
  have h1 := h.op x
  rw [hx] at h1
  obtain ⟨fs, fd, hu, hfs, rfl, rfl⟩ := run_fieldOf hf
  generalize hv : a.eval x = v at h1
  cases h1 with
  | agg vs _ hs h1 =>
    obtain ⟨hlt, rfl⟩ := List.getElem?_eq_some_iff.1 hy
    have hlt' : fd.offset < vs.size := by omega
    exact ⟨vs.getD fd.offset undef, by simp [execOp, hv, Instr.field, run_underlying hu, hfs, asAgg, part, run_isAggB ha, hlt', Array.getD], h1 _ hlt⟩

theorem opT_extract (x : Operand) (i : Nat) (cs : List AV) (y : AV) (hx : st.op x = .tup cs) (hy : cs[i]? = some y) : OpT P ⟨dst, .extract x i, ty, pos, af, g⟩ nid 0 st ⟨y, []⟩ := .pure fun c ρ D J a w h => by
  have h1 := h.op x
  rw [hx] at h1
  generalize hv : a.eval x = v at h1
  cases h1 with
  | tup vs _ hs h1 =>
    obtain ⟨hlt, rfl⟩ := List.getElem?_eq_some_iff.1 hy
    have hlt' : i < vs.size := by omega
    exact ⟨vs.getD i undef, by simp [execOp, hv, Instr.extract, hlt', Array.getD], h1 _ hlt⟩

/-- len of a slice or a string. -/
def lenAV : AV → Option Nat
  | .isl _ _ n => some n
  | .sl _ _ n _ => some n
  | .val (.string s) => some s.size
  | _ => none

def lenType (P : Program) (t : TypeId) (x : AV) : Bool := match P.underlying t, x with
  | some .string, .val _ => true
  | some (.slice _), .isl .. => true
  | some (.slice _), .sl .. => true
  | _, _ => false

theorem opT_len (t : TypeId) (x : Operand) (n : Nat) (hn : lenAV (st.op x) = some n) (ht : lenType P t (st.op x) = true) :
    OpT P ⟨dst, .call ⟨.builtin .len, #[x], #[t]⟩, ty, pos, af, g⟩ nid 0 st ⟨.val (.int .i64 n), []⟩ := .pure fun c ρ D J a w h => by
  have h1 := h.op x
  refine ⟨.int .i64 n, ?_, .val _⟩
  generalize st.op x = y at h1 hn ht
  generalize hv : a.eval x = v at h1
  unfold lenType at ht
  split at ht
  · rename_i hu
    cases h1
    unfold lenAV at hn
    split at hn <;> simp_all [execOp, resolve, invoke, builtin, Builtin.len_, run_underlying hu, goInt]
  · rename_i hu
    cases h1 <;> simp [lenAV] at hn <;> subst hn <;> simp [execOp, resolve, invoke, builtin, hv, Builtin.len_, run_underlying hu, goInt]
  · rename_i hu
    cases h1; simp [lenAV] at hn; subst hn; simp [execOp, resolve, invoke, builtin, hv, Builtin.len_, run_underlying hu, goInt]
  · cases ht

end
end Go.Sy
