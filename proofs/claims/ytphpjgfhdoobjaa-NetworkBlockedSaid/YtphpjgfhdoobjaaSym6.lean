/-
  The operations of the symbolic walk that cut slices, append, copy, clear. No condition.
-/
import Derived.Test.YtphpjgfhdoobjaaSym5
set_option linter.unusedVariables false
set_option linter.unusedSectionVars false
set_option linter.unusedSimpArgs false
namespace Go.Sy

def intAV : AV → Option Int
  | .val (.int _ n) => some n
  | _ => none
def boundAV (st : St) (d : Nat) : Option Operand → Option Int
  | none => some d
  | some x => intAV (st.op x)

section
variable {P : Program} {dst : Option Nat} {ty : TypeId} {pos : String} {af : Array Edge} {g : Option (Nat × Bool)} {nid : Nat} {st : St}

/-- The bounds of a cut, where they are in order. -/
theorem run_bounds {c : Ctx} {ρ : Rho} {D J : Nat → Prop} {a : Act} {w : World} (h : Sim c ρ D J st a w) (sl : Bool) (len cap : Nat) (lo hi : Option Operand) (l u : Int) (hl : boundAV st 0 lo = some l) (hu : boundAV st len hi = some u)
    (h1 : 0 ≤ l) (h2 : l ≤ u) (h3 : u ≤ cap) : (Instr.sliceBounds sl len cap (lo.map a.eval) (hi.map a.eval) none).run P w = .ok (l.toNat, u.toNat, cap) w := by
  have hv : ∀ x : Operand, ∀ n : Int, boundAV st len (some x) = some n → ∃ k, a.eval x = .int k n := by
    intro x n hx
    have hr := h.op x
    simp only [boundAV] at hx
    unfold intAV at hx
    split at hx
    · rename_i k m hm; cases hx; rw [hm] at hr; exact ⟨k, rep_val_inv hr⟩
    · cases hx
  have hv0 : ∀ x : Operand, ∀ n : Int, boundAV st 0 (some x) = some n → ∃ k, a.eval x = .int k n := fun x n hx => hv x n hx
  cases lo with
  | none =>
    simp [boundAV] at hl
    subst hl
    cases hi with
    | none => simp [boundAV] at hu; subst hu; simp [Instr.sliceBounds]
    | some y =>
      obtain ⟨k, hk⟩ := hv y u hu
      simp [Instr.sliceBounds, Instr.sliceBound, hk, asIntOf, show 0 ≤ u by omega, h3]
  | some x =>
    obtain ⟨k, hk⟩ := hv0 x l hl
    cases hi with
    | none => simp [boundAV] at hu; subst hu; simp [Instr.sliceBounds, Instr.sliceBound, hk, asIntOf, h1, h2]
    | some y =>
      obtain ⟨k', hk'⟩ := hv y u hu
      obtain ⟨n, rfl⟩ : ∃ n : Nat, u = n := ⟨u.toNat, by omega⟩
      have h3' : n ≤ cap := by omega
      simp [Instr.sliceBounds, Instr.sliceBound, hk, hk', asIntOf, h1, h2, h3']

theorem opT_slice_str (t : TypeId) (x : Operand) (lo hi : Option Operand) (s : ByteArray) (l u : Int) (ht : isStrB P t = true) (hx : st.op x = .val (.string s)) (hl : boundAV st 0 lo = some l) (hu : boundAV st s.size hi = some u)
    (h1 : 0 ≤ l) (h2 : l ≤ u) (h3 : u ≤ s.size) : OpT P ⟨dst, .slice t x lo hi none, ty, pos, af, g⟩ nid 0 st ⟨.val (.string (s.extract l.toNat u.toNat)), []⟩ := .pure fun c ρ D J a w h => by
  have e := h.op x; rw [hx] at e
  have e := rep_val_inv e
  have hb := run_bounds (P := P) h false s.size s.size lo hi l u hl hu h1 h2 h3
  have hty := run_isStrB ht
  refine ⟨.string (s.extract l.toNat u.toNat), ?_, .val _⟩
  simp only [execOp, e, Instr.sliceAt, Sem.run_bind, run_underlying hty, Result.andThen_ok, Instr.slice, Option.map_none, Option.isSome_none, Bool.false_eq_true, if_false, hb, Sem.run_pure]

theorem opT_slice_isl (t e : TypeId) (x : Operand) (lo hi : Option Operand) (z : Bool) (cells : List AV) (len es : Nat) (l u : Int) (ht : elemOf P t = some e) (hs : siz P e = some es) (hx : st.op x = .isl z cells len) (hl : boundAV st 0 lo = some l) (hu : boundAV st len hi = some u)
    (h1 : 0 ≤ l) (h2 : l ≤ u) (h3 : u ≤ len) :
    OpT P ⟨dst, .slice t x lo hi none, ty, pos, af, g⟩ nid 0 st ⟨.isl z ((cells.drop (l.toNat * es)).take ((u.toNat - l.toNat) * es)) (u.toNat - l.toNat), []⟩ := .pure fun c ρ D J a w h => by
  have hr := h.op x; rw [hx] at hr
  have hty := run_elemOf ht
  generalize hv : a.eval x = v at hr
  cases hr with
  | inil =>
    have hl0 : l = 0 := by have : u ≤ ((0 : Nat) : Int) := h3; omega
    have hu0 : u = 0 := by have : u ≤ ((0 : Nat) : Int) := h3; omega
    subst hl0; subst hu0
    have hb := run_bounds (P := P) h true 0 0 lo hi 0 0 hl hu h1 h2 h3
    refine ⟨.slice none 0 0, ?_, by simpa using Rep.inil⟩
    simp only [execOp, hv, Instr.sliceAt, Sem.run_bind, run_underlying hty, Result.andThen_ok, Instr.slice, Option.map_none, hb, Sem.run_pure, run_siz hs]
    rfl
  | iemp ad cap =>
    have hl0 : l = 0 := by have : u ≤ ((0 : Nat) : Int) := h3; omega
    have hu0 : u = 0 := by have : u ≤ ((0 : Nat) : Int) := h3; omega
    subst hl0; subst hu0
    have hb := run_bounds (P := P) h true 0 cap lo hi 0 0 hl hu h1 h2 (by omega)
    have e1 : ([].drop ((0 : Int).toNat * es)).take (((0 : Int).toNat - (0 : Int).toNat) * es) = ([] : List AV) := by simp
    rw [e1]
    by_cases hcl : cap = (0 : Int).toNat
    · refine ⟨.slice (some ad) 0 (cap - (0 : Int).toNat), ?_, .iemp _ _⟩
      simp only [execOp, hv, Instr.sliceAt, Sem.run_bind, run_underlying hty, Result.andThen_ok, Instr.slice, Option.map_none, hb, Sem.run_pure, run_siz hs, if_pos hcl]
      rfl
    · refine ⟨.slice (some (ad.add ((0 : Int).toNat * es))) 0 (cap - (0 : Int).toNat), ?_, .iemp _ _⟩
      simp only [execOp, hv, Instr.sliceAt, Sem.run_bind, run_underlying hty, Result.andThen_ok, Instr.slice, Option.map_none, hb, Sem.run_pure, run_siz hs, if_neg hcl, Option.map_some]
      rfl
  | isl b off _ cap _ f hb0 hc h0 h1' h2' =>
    have hb := run_bounds (P := P) h true len cap lo hi l u hl hu h1 h2 (by omega)
    have hlen : ((cells.drop (l.toNat * es)).take ((u.toNat - l.toNat) * es)).length ≤ cells.length - l.toNat * es := by simp; omega
    have hget : ∀ j (hj : j < ((cells.drop (l.toNat * es)).take ((u.toNat - l.toNat) * es)).length), ((cells.drop (l.toNat * es)).take ((u.toNat - l.toNat) * es))[j] = cells[l.toNat * es + j]'(by omega) := by
      intro j hj; simp
    by_cases hcl : cap = l.toNat
    · have hul : u.toNat - l.toNat = 0 := by omega
      refine ⟨.slice (some ⟨b, off, none⟩) (u.toNat - l.toNat) (cap - l.toNat), ?_, ?_⟩
      · simp only [execOp, hv, Instr.sliceAt, Sem.run_bind, run_underlying hty, Result.andThen_ok, Instr.slice, Option.map_none, hb, Sem.run_pure, run_siz hs, if_pos hcl]
      · rw [hul]
        exact .isl b off 0 _ _ f (fun hne => absurd (by simp) hne) (by omega) (fun j hj => by simp at hj) (fun j hj => by simp at hj) (fun j hj => by simp at hj)
    · refine ⟨.slice (some ⟨b, off + l.toNat * es, none⟩) (u.toNat - l.toNat) (cap - l.toNat), ?_, ?_⟩
      · simp only [execOp, hv, Instr.sliceAt, Sem.run_bind, run_underlying hty, Result.andThen_ok, Instr.slice, Option.map_none, hb, Sem.run_pure, run_siz hs, if_neg hcl, Option.map_some, Addr.add_lit]
      · refine .isl b (off + l.toNat * es) _ _ _ (fun j => f (l.toNat * es + j)) (fun hne => hb0 (fun e => hne (by rw [e]; simp))) (by omega) (fun j hj => h0 _ (by omega)) (fun j hj => ?_) (fun j hj => ?_)
        · rw [Nat.add_assoc]; exact h1' _ (by omega)
        · rw [hget j hj]; exact h2' _ (by omega)

theorem opT_slice_sl (t e : TypeId) (x : Operand) (lo hi : Option Operand) (id off len es : Nat) (l u : Int) (ht : elemOf P t = some e) (hs : siz P e = some es) (hx : st.op x = .sl id off len es) (hl : boundAV st 0 lo = some l) (hu : boundAV st len hi = some u)
    (h1 : 0 ≤ l) (h2 : l ≤ u) (h3 : u ≤ len) (h4 : l < len ∨ l = 0) :
    OpT P ⟨dst, .slice t x lo hi none, ty, pos, af, g⟩ nid 0 st ⟨.sl id (off + l.toNat * es) (u.toNat - l.toNat) es, []⟩ := .pure fun c ρ D J a w h => by
  have hr := h.op x; rw [hx] at hr
  have hty := run_elemOf ht
  generalize hv : a.eval x = v at hr
  cases hr with
  | sl b s _ _ _ _ cap hρ hc hsz =>
    have hb := run_bounds (P := P) h true len cap lo hi l u hl hu h1 h2 (by omega)
    refine ⟨.slice (some ⟨b, off + l.toNat * es, none⟩) (u.toNat - l.toNat) (cap - l.toNat), ?_, .sl b s id _ _ es (cap - l.toNat) hρ (by omega) ?_⟩
    · simp only [execOp, hv, Instr.sliceAt, Sem.run_bind, run_underlying hty, Result.andThen_ok, Instr.slice, Option.map_none, hb, Sem.run_pure, run_siz hs]
      by_cases hcl : cap = l.toNat
      · have : l.toNat = 0 := by omega
        rw [if_pos hcl, this]; simp
      · rw [if_neg hcl]; simp [Addr.add_lit]
    · rw [Nat.add_assoc, ← Nat.add_mul, show l.toNat + (cap - l.toNat) = cap by omega]; exact hsz

/-- The empty end of a slice of the call's own. -/
theorem opT_slice_end (t e : TypeId) (x : Operand) (lo hi : Option Operand) (id off len es : Nat) (l u : Int) (ht : elemOf P t = some e) (hs : siz P e = some es) (hx : st.op x = .sl id off len es) (hl : boundAV st 0 lo = some l) (hu : boundAV st len hi = some u)
    (h1 : 0 ≤ l) (h2 : l = u) (h3 : u ≤ len) :
    OpT P ⟨dst, .slice t x lo hi none, ty, pos, af, g⟩ nid 0 st ⟨.isl false [] 0, []⟩ := .pure fun c ρ D J a w h => by
  have hr := h.op x; rw [hx] at hr
  have hty := run_elemOf ht
  subst h2
  generalize hv : a.eval x = v at hr
  cases hr with
  | sl b s _ _ _ _ cap hρ hc hsz =>
    have hb := run_bounds (P := P) h true len cap lo hi l l hl hu h1 (Int.le_refl _) (by omega)
    refine ⟨.slice (some (if cap = l.toNat then ⟨b, off, none⟩ else ⟨b, off + l.toNat * es, none⟩)) 0 (cap - l.toNat), ?_, ?_⟩
    · simp only [execOp, hv, Instr.sliceAt, Sem.run_bind, run_underlying hty, Result.andThen_ok, Instr.slice, Option.map_none, hb, Sem.run_pure, run_siz hs]
      by_cases hcl : cap = l.toNat
      · simp [hcl]
      · simp [hcl, Addr.add_lit]
    · split <;> exact .isl b _ 0 _ [] (fun _ => undef) (fun hne => absurd rfl hne) (by omega) (fun j hj => by simp at hj) (fun j hj => by simp at hj) (fun j hj => by simp at hj)

/-! ### what is appended or copied -/

theorem ObjRep.unfull {w : World} {J : Nat → Prop} {ρ : Rho} {b s : Nat} {cs : List AV} {e : TypeId} (h : ObjRep w J ρ b s (.full cs e)) : ObjRep w J ρ b s (.cells cs e) := by
  obtain ⟨c, hc, h1, h2, h3, h4⟩ := h
  exact ⟨c, hc, h1, by omega, h3, h4⟩

def srcOb (off m es : Nat) : Option AObj → Option (List AV × Nat)
  | some (.cells cs _) => some ((cs.drop off).take (m * es), m)
  | some (.full cs _) => some ((cs.drop off).take (m * es), m)
  | _ => none
def srcOf (st : St) : AV → Option (List AV × Nat)
  | .isl _ cells m => some (cells, m)
  | .sl id off m es => srcOb off m es (st.ob id)
  | _ => none

theorem src_rep {c : Ctx} {ρ : Rho} {D J : Nat → Prop} {a : Act} {w : World} (h : Sim c ρ D J st a w) {x : AV} {v : Value} (hr : Rep w J ρ v x) {cells : List AV} {m es : Nat} (hs : srcOf st x = some (cells, m)) (hl : cells.length = m * es) :
    (v = .slice none 0 0 ∧ m = 0 ∧ cells = []) ∨ ∃ (ad : Addr) (cp : Nat) (news : List Value), v = .slice (some ad) m cp ∧ m ≤ cp ∧ news.length = m * es ∧ (∀ j u, news[j]? = some u → w.cell? (ad.add j) = some u) ∧ (∀ u ∈ news, Value.oneCell' u = true) ∧
      ∀ j (hj : j < cells.length), Rep w J ρ (news.getD j undef) cells[j] := by
  have mk : ∀ (b off : Nat) (f : Nat → Value), (∀ j, j < cells.length → w.cell? ⟨b, off + j, none⟩ = some (f j) ∧ (f j).oneCell' = true) → (∀ j (hj : j < cells.length), Rep w J ρ (f j) cells[j]) →
      ∃ news : List Value, news.length = m * es ∧ (∀ j u, news[j]? = some u → w.cell? ((⟨b, off, none⟩ : Addr).add j) = some u) ∧ (∀ u ∈ news, Value.oneCell' u = true) ∧ ∀ j (hj : j < cells.length), Rep w J ρ (news.getD j undef) cells[j] := by
    intro b off f h1 h2
    refine ⟨(List.range cells.length).map f, by simp [hl], fun j u hu => ?_, fun u hu => ?_, fun j hj => ?_⟩
    · obtain ⟨hj, rfl⟩ := List.getElem?_eq_some_iff.1 hu
      have hj' : j < cells.length := by simpa using hj
      rw [Addr.add_lit]; simpa using (h1 j hj').1
    · simp at hu; obtain ⟨j, hj, rfl⟩ := hu; exact (h1 j hj).2
    · have : ((List.range cells.length).map f).getD j undef = f j := by simp [List.getD_eq_getElem?_getD, hj]
      rw [this]; exact h2 j hj
  cases hr with
  | inil => simp [srcOf] at hs; exact .inl ⟨rfl, hs.2.symm, hs.1⟩
  | iemp ad cap =>
    simp only [srcOf, Option.some.injEq, Prod.mk.injEq] at hs
    obtain ⟨rfl, rfl⟩ := hs
    exact .inr ⟨ad, cap, [], rfl, Nat.zero_le _, by simp, by simp, by simp, by simp⟩
  | isl b off len cap cs f hb hc h0 h1 h2 =>
    simp only [srcOf, Option.some.injEq, Prod.mk.injEq] at hs
    obtain ⟨rfl, rfl⟩ := hs
    obtain ⟨news, k1, k2, k3, k4⟩ := mk b off f (fun j hj => ⟨h1 j hj, h0 j hj⟩) (fun j hj => (h2 j hj).up)
    exact .inr ⟨_, cap, news, rfl, hc, k1, k2, k3, k4⟩
  | sl b s id off len es' cap hρ hc hsz =>
    simp only [srcOf] at hs
    unfold srcOb at hs
    split at hs
    · rename_i cs e ho
      simp only [Option.some.injEq, Prod.mk.injEq] at hs
      obtain ⟨rfl, rfl⟩ := hs
      obtain ⟨b', s', hρ', hob, _⟩ := h.obj id _ ho
      rw [hρ] at hρ'; cases hρ'
      obtain ⟨f, hf⟩ := cell_obj hob
      obtain ⟨news, k1, k2, k3, k4⟩ := mk b off (fun j => f (off + j)) (fun j hj => by
        have := hf (off + j) (by simp at hj; omega); exact ⟨this.1, this.2.1⟩) (fun j hj => by
        have := hf (off + j) (by simp at hj; omega); simpa using this.2.2)
      exact .inr ⟨_, cap, news, rfl, hc, k1, k2, k3, k4⟩
    · rename_i cs e ho
      simp only [Option.some.injEq, Prod.mk.injEq] at hs
      obtain ⟨rfl, rfl⟩ := hs
      obtain ⟨b', s', hρ', hob, _⟩ := h.obj id _ ho
      rw [hρ] at hρ'; cases hρ'
      obtain ⟨f, hf⟩ := cell_obj hob.unfull
      obtain ⟨news, k1, k2, k3, k4⟩ := mk b off (fun j => f (off + j)) (fun j hj => by
        have := hf (off + j) (by simp at hj; omega); exact ⟨this.1, this.2.1⟩) (fun j hj => by
        have := hf (off + j) (by simp at hj; omega); simpa using this.2.2)
      exact .inr ⟨_, cap, news, rfl, hc, k1, k2, k3, k4⟩
    · cases hs
  | val v => simp [srcOf] at hs
  | any v => simp [srcOf] at hs
  | ipt => simp [srcOf] at hs
  | pt => simp [srcOf] at hs
  | mp => simp [srcOf] at hs
  | agg => simp [srcOf] at hs
  | tup => simp [srcOf] at hs
  | fn => simp [srcOf] at hs

theorem zeros_one {zs : List Value} (h1 : zs.all Value.oneCell' = true) {z : Array Value} (hz : z = zs.toArray) (n : Nat) : (Builtin.zeroCells z n).all Value.oneCell' = true := by
  subst hz
  rw [Array.all_eq_true_iff_forall_mem]
  intro u hu
  obtain ⟨j, hj, rfl⟩ := Array.getElem_of_mem hu
  rw [size_zeroCells] at hj
  have hpos : 0 < zs.length := by
    rcases Nat.eq_zero_or_pos zs.length with h | h
    · simp [h] at hj
    · exact h
  have hm : j % zs.length < zs.length := Nat.mod_lt _ hpos
  have := List.all_eq_true.1 h1 _ (List.getElem_mem hm)
  simpa [Builtin.zeroCells, hm] using this

theorem crep_front {w : World} {J : Nat → Prop} {ρ : Rho} {vs : List Value} {avs : List AV} (extra : Array Value) (hx : extra.all Value.oneCell' = true) (hl : vs.length = avs.length) (h1 : ∀ u ∈ vs, Value.oneCell' u = true) (h2 : ∀ j (hj : j < avs.length), Rep w J ρ (vs.getD j undef) avs[j]) :
    CRep w J ρ (vs.toArray ++ extra) avs := by
  have hall : (vs.toArray ++ extra).all Value.oneCell' = true := by
    rw [Array.all_eq_true_iff_forall_mem] at hx ⊢
    intro u hu
    rcases Array.mem_append.1 hu with hu | hu
    · exact h1 u (by simpa using hu)
    · exact hx u hu
  refine ⟨by simp; omega, fun j hj => ?_, hall⟩
  have hj' : j < vs.length := by omega
  have e : (vs.toArray ++ extra).getD j undef = vs.getD j undef := by
    simp [Array.getD_eq_getD_getElem?, List.getD_eq_getElem?_getD, Array.getElem?_append, hj']
  rw [e]
  refine ⟨?_, h2 j hj⟩
  have : vs.getD j undef = vs[j] := by simp [List.getD_eq_getElem?_getD, hj']
  rw [this]; exact h1 _ (List.getElem_mem hj')

/-- append onto nil: a new array. -/
theorem opT_append_nil (t : TypeId) (x y : Operand) (e : TypeId) (es by' m : Nat) (zs : List Value) (cells : List AV) (he : elemOf P t = some e) (hs : siz P e = some es) (hzs : zcells P e = some zs) (hzl : zs.length = es) (hz1 : zs.all Value.oneCell' = true) (hb : byt P e = some by')
    (hx : st.op x = .isl true [] 0) (hy : srcOf st (st.op y) = some (cells, m)) (hl : cells.length = m * es) (hm : 0 < m) (hbytes : m * by' ≤ 140737488355328) (hm63 : m ≤ 9223372036854775807) :
    OpT P ⟨dst, .call ⟨.builtin .append, #[x, y], #[t, t]⟩, ty, pos, af, g⟩ nid 1 st ⟨.sl nid 0 m es, [(nid, some (.cells cells e))]⟩ := .alloc fun c ρ D J a w h => by
  have e1 := h.op x; rw [hx] at e1
  obtain ⟨i, z, hi, his, hz, hzc⟩ := info_all hs hzs
  have hb' : i.bytes = by' := by unfold byt at hb; simpa [hi] using hb
  generalize hv : a.eval x = v at e1
  rcases src_rep h (h.op y) hy hl with ⟨_, h0, _⟩ | ⟨ad, cp, news, hyv, hmc, hnl, hnews, hone, hrep⟩
  · omega
  have hv0 : v = .slice none 0 0 := by
    generalize hxx : AV.isl true [] 0 = xx at e1
    cases e1 <;> simp at hxx
    rfl
  subst hv0
  have hr := run_append_nil (P := P) w t ty e i z (run_elemOf he) hi hz ad m cp news (by rw [his]; exact hnl) hnews hm (by omega) (by rw [hb']; omega)
  have hge := grownCap_ge w m 0 e
  obtain ⟨A, hA⟩ : ∃ A, A = news.toArray ++ Builtin.zeroCells z.cells (grownCap w m 0 e - m) := ⟨_, rfl⟩
  rw [← hA] at hr
  refine ⟨.slice (some ⟨w.heap.size, 0, none⟩) m (grownCap w m 0 e), w.drew.alloc (.cells A e), .cells A e, grownCap w m 0 e * es, ?_, Grew.drew w _, fun ρ' h1' h2' => ⟨.sl _ _ nid 0 m es _ h1' hge (by omega), A, (Grew.drew w _).new, ?_, ?_, ?_⟩⟩
  · simp [execOp, resolve, invoke, builtin, hv, hyv, hr]
  · rw [hA]
    simp only [Array.size_append, List.size_toArray, size_zeroCells, hnl, hzc, hzl, ← Nat.add_mul]
    congr 1; omega
  · rw [hl]; exact Nat.mul_le_mul_right _ hge
  · rw [hA] at *
    exact (crep_front (J := J) (ρ := ρ') _ (zeros_one hz1 hzc _) (by omega) hone (fun j hj => (hrep j hj).grew (Grew.drew w _) h2')).2

/-- append onto a slice that is all of its object: in place, or moved. -/
theorem opT_append_own (t : TypeId) (x y : Operand) (e : TypeId) (id n es by' m : Nat) (zs : List Value) (cs cells : List AV) (he : elemOf P t = some e) (hs : siz P e = some es) (hzs : zcells P e = some zs) (hzl : zs.length = es) (hz1 : zs.all Value.oneCell' = true) (hb : byt P e = some by')
    (hx : st.op x = .sl id 0 n es) (ho : st.ob id = some (.cells cs e)) (hcs : cs.length = n * es) (hy : srcOf st (st.op y) = some (cells, m)) (hl : cells.length = m * es) (hbytes : (n + m) * by' ≤ 140737488355328) (hm63 : n + m ≤ 9223372036854775807) :
    OpT P ⟨dst, .call ⟨.builtin .append, #[x, y], #[t, t]⟩, ty, pos, af, g⟩ nid 1 st ⟨.sl nid 0 (n + m) es, [(nid, some (.cells (cs ++ cells) e)), (id, none)]⟩ := OpT.regrow ho fun c ρ D J a w b s h hρ hob hJ => by
  have e1 := h.op x; rw [hx] at e1
  obtain ⟨i, z, hi, his, hz, hzc⟩ := info_all hs hzs
  have hb' : i.bytes = by' := by unfold byt at hb; simpa [hi] using hb
  generalize hv : a.eval x = v at e1
  cases e1 with
  | sl b' s' _ _ _ _ cap hρ' hc hsz =>
    rw [hρ] at hρ'; cases hρ'
    obtain ⟨arr, harr, has, hcr⟩ := hob
    have hcr' : CRep w J ρ arr cs := ⟨by have := hcr.1; omega, hcr.2⟩
    have hcl : (cs ++ cells).length = (n + m) * es := by rw [List.length_append, hcs, hl, Nat.add_mul]
    -- room
    have room : ∀ news : List Value, news.length = m * es → (∀ u ∈ news, Value.oneCell' u = true) → (∀ j (hj : j < cells.length), Rep w J ρ (news.getD j undef) cells[j]) → n + m ≤ cap →
        (execOp a.eval ⟨dst, .call ⟨.builtin .append, #[x, y], #[t, t]⟩, ty, pos, af, g⟩).run P w = .ok (.value (.slice (some ⟨b, 0, none⟩) (n + m) cap)) (w.setRow b (arr.toList.take (n * es) ++ news ++ arr.toList.drop (n * es + news.length)).toArray) →
        ∃ w' v b' s', (execOp a.eval ⟨dst, .call ⟨.builtin .append, #[x, y], #[t, t]⟩, ty, pos, af, g⟩).run P w = .ok (.value v) w' ∧ w.heap.size ≤ w'.heap.size ∧ w'.os = w.os ∧ w'.tape = w.tape ∧ w'.output = w.output ∧ (b' = b ∨ b' = w.heap.size) ∧
        (∀ k, k < w.heap.size → k ≠ b → w'.heap[k]? = w.heap[k]?) ∧
        ∀ ρ' : Rho, ρ' nid = some (b', s') → (∀ i p, ρ i = some p → ρ' i = some p) → (∀ u y, Rep w J ρ u y → Rep w' J ρ' u y) → Rep w' J ρ' v (.sl nid 0 (n + m) es) ∧ ObjRep w' J ρ' b' s' (.cells (cs ++ cells) e) := by
      intro news hnl hone hrep hroom hr
      have hfit : n * es + news.length ≤ arr.size := by
        rw [hnl, ← Nat.add_mul, has, ← hsz, Nat.zero_add]; exact Nat.mul_le_mul_right _ hroom
      have hsp := hcr'.splice (avs := cells) (vs := news) (off := n * es) (by omega) (fun j hj => ⟨by
        have hj' : j < news.length := by omega
        have : news.getD j undef = news[j] := by simp [List.getD_eq_getElem?_getD, hj']
        rw [this]; exact hone _ (List.getElem_mem hj'), hrep j hj⟩) (by omega) hfit
      have hspl : spl cs (n * es) cells = cs ++ cells := by
        unfold spl
        rw [← hcs, List.take_length, List.drop_eq_nil_of_le (by omega), List.append_nil]
      rw [hspl] at hsp
      refine ⟨_, _, b, s, hr, by simp, rfl, rfl, rfl, .inl rfl, fun k _ hk => setRow_other w b k _ hk, fun ρ' h1' h2' hi' => ⟨.sl b s nid 0 _ es cap h1' hroom hsz, _, setRow_heap w b arr _ e _ harr, ?_, ?_, ?_⟩⟩
      · rw [hsp.2]; exact has
      · have := (hsp.1.imp hi').1; rw [hsp.2, has] at this; exact this
      · exact (hsp.1.imp hi').2
    rcases src_rep h (h.op y) hy hl with ⟨hy0, h0, hc0⟩ | ⟨ad, cp, news, hyv, hmc, hnl, hnews, hone, hrep⟩
    · subst h0; subst hc0
      refine room [] (by simp) (by simp) (fun j hj => by simp at hj) (by omega) ?_
      have e2 : (arr.toList.take (n * es) ++ ([] : List Value) ++ arr.toList.drop (n * es + ([] : List Value).length)).toArray = arr := by simp
      rw [e2, setRow_self w b arr e (0, 0) harr]
      simp [execOp, resolve, invoke, builtin, hv, hy0, Builtin.append_, run_underlying (run_elemOf he), sizeOf, typeInfo, hi, Builtin.lenOf, hc, Builtin.firstCells, storeCells]
    · by_cases hroom : n + m ≤ cap
      · refine room news hnl hone hrep hroom ?_
        have hr := run_append_room (P := P) w t ty e i (run_elemOf he) hi b n cap arr harr ad m cp news (by rw [his]; exact hnl) hnews hone hroom (by rw [hnl, his, ← Nat.add_mul, has, ← hsz, Nat.zero_add]; exact Nat.mul_le_mul_right _ hroom)
        rw [his] at hr
        simp [execOp, resolve, invoke, builtin, hv, hyv, hr]
      · obtain ⟨f, hf⟩ := cell_obj (e := e) (b := b) (s := s) ⟨arr, harr, has, hcr⟩
        have holds : ∀ j u, ((List.range cs.length).map f)[j]? = some u → w.cell? ((⟨b, 0, none⟩ : Addr).add j) = some u := by
          intro j u hu
          obtain ⟨hj, rfl⟩ := List.getElem?_eq_some_iff.1 hu
          have hj' : j < cs.length := by simpa using hj
          rw [Addr.add_lit, Nat.zero_add]; simpa using (hf j hj').1
        have hr := run_append_grow (P := P) w t ty e i z (run_elemOf he) hi hz ⟨b, 0, none⟩ n cap ((List.range cs.length).map f) (by simp [hcs, his]) holds ad m cp news (by rw [his]; exact hnl) hnews (by omega) (by omega) (growslice_fits (by omega) (by rw [hb']; exact hbytes))
        have hge := grownCap_ge w (n + m) cap e
        obtain ⟨A, hA⟩ : ∃ A, A = ((List.range cs.length).map f).toArray ++ news.toArray ++ Builtin.zeroCells z.cells (grownCap w (n + m) cap e - (n + m)) := ⟨_, rfl⟩
        rw [← hA] at hr
        refine ⟨w.drew.alloc (.cells A e), .slice (some ⟨w.heap.size, 0, none⟩) (n + m) (grownCap w (n + m) cap e), w.heap.size, grownCap w (n + m) cap e * es, ?_, ?_, rfl, rfl, rfl, .inr rfl, fun k hk _ => (Grew.drew w _).old hk, fun ρ' h1' h2' hi' => ⟨.sl _ _ nid 0 _ es (grownCap w (n + m) cap e) h1' hge (by omega), A, (Grew.drew w _).new, ?_, ?_, ?_⟩⟩
        · simp [execOp, resolve, invoke, builtin, hv, hyv, hr]
        · simp
        · rw [hA]
          simp only [Array.size_append, List.size_toArray, size_zeroCells, hnl, hzc, hzl, List.length_map, List.length_range, hcs, ← Nat.add_mul]
          congr 1; omega
        · rw [hcl]; exact Nat.mul_le_mul_right _ hge
        · have hall : ((List.range cs.length).map f).toArray ++ news.toArray = (((List.range cs.length).map f) ++ news).toArray := by simp
          rw [hall] at hA
          rw [hA] at *
          refine (crep_front (J := J) (ρ := ρ') _ (zeros_one hz1 hzc _) (by simp; omega) (fun u hu => ?_) (fun j hj => ?_)).2
          · rcases List.mem_append.1 hu with hu | hu
            · simp at hu; obtain ⟨j, hj, rfl⟩ := hu; exact (hf j hj).2.1
            · exact hone u hu
          · refine hi' _ _ ?_
            by_cases hjc : j < cs.length
            · rw [List.getElem_append_left hjc]
              have : (((List.range cs.length).map f) ++ news).getD j undef = f j := by
                rw [List.getD_eq_getElem?_getD, List.getElem?_append_left (by simpa using hjc)]; simp [hjc]
              rw [this]; exact (hf j hjc).2.2
            · rw [List.getElem_append_right (by omega)]
              have : (((List.range cs.length).map f) ++ news).getD j undef = news.getD (j - cs.length) undef := by
                rw [List.getD_eq_getElem?_getD, List.getElem?_append_right (by simp; omega)]; simp [List.getD_eq_getElem?_getD]
              rw [this]; exact hrep _ (by rw [List.length_append] at hj; omega)

end
end Go.Sy
