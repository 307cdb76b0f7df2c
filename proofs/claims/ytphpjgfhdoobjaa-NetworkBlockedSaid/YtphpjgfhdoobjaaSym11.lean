/-
  The rules of the symbolic walk for operations that make or change memory, and for calls. No condition.
-/
import Derived.Test.YtphpjgfhdoobjaaSym10
set_option linter.unusedVariables false
set_option linter.unusedSectionVars false
set_option linter.unusedSimpArgs false
namespace Go.Sy

section
variable {P : Program} {Q : Exit → Nat → St → Prop} {nid : Nat} {st : St} {dst : Option Nat} {ty : TypeId} {pos : String} {af : Array Edge} {g : Option (Nat × Bool)} {K : Nat → Eff → Prop}

theorem R_alloc {zs : List Value} (e : TypeId) [hz : TZero P e zs] (h : zs.all Value.oneCell' = true ∧ K 1 ⟨.pt nid 0, [(nid, some (.cells (zs.map ofV) e))]⟩) : AO P ⟨dst, .alloc e, ty, pos, af, g⟩ nid st K :=
  ⟨_, _, opT_alloc e zs hz.out h.1, h.2⟩

theorem R_box (e : TypeId) (x : Operand) (h : ∃ cs, (st.op x).parts = some cs ∧ cs.all AV.scalar = true ∧ K 1 ⟨.pt nid 0, [(nid, some (.cells cs e))]⟩) : AO P ⟨dst, .box e x, ty, pos, af, g⟩ nid st K := by
  obtain ⟨cs, h1, h2, h3⟩ := h; exact ⟨_, _, opT_box e x cs h1 h2, h3⟩

/-- A store: of one cell; of several. -/
def putAV (cs : List AV) (off : Nat) (vs : List AV) : List AV := match vs with
  | [v] => cs.set off v
  | vs => spl cs off vs

theorem putAV_spl (cs : List AV) (off : Nat) (vs : List AV) (h : off + vs.length ≤ cs.length) : putAV cs off vs = spl cs off vs := by
  unfold putAV
  split
  · rw [spl_one]; simp at h; omega
  · rfl

theorem R_store {n : Nat} (t : TypeId) (x y : Operand) [hz : TSiz P t n] (h : ∃ id off cs e vs, st.op x = .pt id off ∧ st.ob id = some (.cells cs e) ∧ (st.op y).parts = some vs ∧ vs.all AV.scalar = true ∧ vs.length = n ∧ off + n ≤ cs.length ∧
      K 0 ⟨.any, [(id, some (.cells (putAV cs off vs) e))]⟩) : AO P ⟨dst, .store t x y, ty, pos, af, g⟩ nid st K := by
  obtain ⟨id, off, cs, e, vs, h1, h2, h3, h4, h5, h6, h7⟩ := h
  rw [putAV_spl _ _ _ (by omega)] at h7
  exact ⟨_, _, opT_store t x y id off n cs vs e h1 h2 h3 h4 hz.out h5 h6, h7⟩

theorem R_build {zs : List Value} {pl : List (Nat × Nat)} (t : TypeId) (ps : Array (Nat × Operand)) [hz : TZero P t zs] [hp : TPlaces P t pl]
    (h : ∃ out, fillAV (pl[·]?) (zs.map ofV) (ps.toList.map fun p => (p.1, st.op p.2)) = some out ∧ K 0 ⟨.agg out, []⟩) : AO P ⟨dst, .build t ps, ty, pos, af, g⟩ nid st K := by
  obtain ⟨out, h1, h2⟩ := h; exact ⟨_, _, opT_build t ps zs pl out hz.out hp.out h1, h2⟩

theorem R_buildSlice {e : TypeId} {es : Nat} {zs : List Value} (t : TypeId) (len : Nat) (ps : Array (Nat × Operand)) [he : TElem P t e] [hs : TSiz P e es] [hz : TZero P e zs]
    (h : ∃ out, fillAV (fun i => some (i * es, es)) (zrow zs len) (ps.toList.map fun p => (p.1, st.op p.2)) = some out ∧ zs.length = es ∧ zs.all Value.oneCell' = true ∧ len * es ≤ 16777216 ∧ out.all AV.scalar = true ∧ out.length = len * es ∧
      K 1 ⟨.sl nid 0 len es, [(nid, some (.cells out e))]⟩) : AO P ⟨dst, .buildSlice t len ps, ty, pos, af, g⟩ nid st K := by
  obtain ⟨out, h1, h2, h3, h4, h5, h6, h7⟩ := h; exact ⟨_, _, opT_buildSlice t len ps e es zs out he.out hs.out hz.out h2 h3 h4 h1 h5 h6, h7⟩

theorem R_makeSlice {e : TypeId} {es by' : Nat} {zs : List Value} (t : TypeId) (l c : Operand) [he : TElem P t e] [hs : TSiz P e es] [hb : TByt P e by'] [hz : TZero P e zs]
    (h : ∃ kl kc n, st.op l = .val (.int kl n) ∧ st.op c = .val (.int kc n) ∧ zs.length = es ∧ zs.all Value.oneCell' = true ∧ 0 ≤ n ∧ n ≤ 9223372036854775807 ∧ (by' : Int) * n ≤ 281474976710656 ∧
      K 1 ⟨.sl nid 0 n.toNat es, [(nid, some (.cells (zrow zs n.toNat) e))]⟩) : AO P ⟨dst, .makeSlice t l c, ty, pos, af, g⟩ nid st K := by
  obtain ⟨kl, kc, n, h1, h2, h3, h4, h5, h6, h7, h8⟩ := h
  exact ⟨_, _, opT_makeSlice t l c e es by' zs kl kc n he.out hs.out hz.out h3 h4 hb.out h1 h2 h5 h6 h7, h8⟩

theorem R_sliceStr (t : TypeId) (x : Operand) (lo hi : Option Operand) [ht : TStr P t] (h : ∃ s l u, st.op x = .val (.string s) ∧ boundAV st 0 lo = some l ∧ boundAV st s.size hi = some u ∧ (0 ≤ l ∧ l ≤ u ∧ u ≤ s.size) ∧ K 0 ⟨.val (.string (s.extract l.toNat u.toNat)), []⟩) :
    AO P ⟨dst, .slice t x lo hi none, ty, pos, af, g⟩ nid st K := by
  obtain ⟨s, l, u, h1, h2, h3, ⟨h4, h5, h6⟩, h7⟩ := h; exact ⟨_, _, opT_slice_str t x lo hi s l u ht.out h1 h2 h3 h4 h5 h6, h7⟩

theorem R_sliceI {e : TypeId} {es : Nat} (t : TypeId) (x : Operand) (lo hi : Option Operand) [ht : TElem P t e] [hs : TSiz P e es] (h : ∃ z cs len l u, st.op x = .isl z cs len ∧ boundAV st 0 lo = some l ∧ boundAV st len hi = some u ∧ (0 ≤ l ∧ l ≤ u ∧ u ≤ len) ∧
      K 0 ⟨.isl z ((cs.drop (l.toNat * es)).take ((u.toNat - l.toNat) * es)) (u.toNat - l.toNat), []⟩) : AO P ⟨dst, .slice t x lo hi none, ty, pos, af, g⟩ nid st K := by
  obtain ⟨z, cs, len, l, u, h1, h2, h3, ⟨h4, h5, h6⟩, h7⟩ := h; exact ⟨_, _, opT_slice_isl t e x lo hi z cs len es l u ht.out hs.out h1 h2 h3 h4 h5 h6, h7⟩

theorem R_slice {e : TypeId} {es : Nat} (t : TypeId) (x : Operand) (lo hi : Option Operand) [ht : TElem P t e] [hs : TSiz P e es] (h : ∃ id off len es' l u, st.op x = .sl id off len es' ∧ es' = es ∧ boundAV st 0 lo = some l ∧ boundAV st len hi = some u ∧ (0 ≤ l ∧ l ≤ u ∧ u ≤ len) ∧
      (l < len ∨ l = 0) ∧ K 0 ⟨.sl id (off + l.toNat * es) (u.toNat - l.toNat) es, []⟩) : AO P ⟨dst, .slice t x lo hi none, ty, pos, af, g⟩ nid st K := by
  obtain ⟨id, off, len, es', l, u, h1, rfl, h2, h3, ⟨h4, h5, h6⟩, h7, h8⟩ := h; exact ⟨_, _, opT_slice_sl t e x lo hi id off len es' l u ht.out hs.out h1 h2 h3 h4 h5 h6 h7, h8⟩

theorem R_sliceEnd {e : TypeId} {es : Nat} (t : TypeId) (x : Operand) (lo hi : Option Operand) [ht : TElem P t e] [hs : TSiz P e es] (h : ∃ id off len es' l u, st.op x = .sl id off len es' ∧ es' = es ∧ boundAV st 0 lo = some l ∧ boundAV st len hi = some u ∧ (0 ≤ l ∧ l = u ∧ u ≤ len) ∧
      K 0 ⟨.isl false [] 0, []⟩) : AO P ⟨dst, .slice t x lo hi none, ty, pos, af, g⟩ nid st K := by
  obtain ⟨id, off, len, es', l, u, h1, rfl, h2, h3, ⟨h4, h5, h6⟩, h7⟩ := h; exact ⟨_, _, opT_slice_end t e x lo hi id off len es' l u ht.out hs.out h1 h2 h3 h4 h5 h6, h7⟩

theorem R_appendNil {e : TypeId} {es by' : Nat} {zs : List Value} (t : TypeId) (x y : Operand) [he : TElem P t e] [hs : TSiz P e es] [hb : TByt P e by'] [hz : TZero P e zs]
    (h : ∃ cells m, st.op x = .isl true [] 0 ∧ srcOf st (st.op y) = some (cells, m) ∧ zs.length = es ∧ zs.all Value.oneCell' = true ∧ cells.length = m * es ∧ 0 < m ∧ m * by' ≤ 140737488355328 ∧ m ≤ 9223372036854775807 ∧ K 1 ⟨.sl nid 0 m es, [(nid, some (.cells cells e))]⟩) :
    AO P ⟨dst, .call ⟨.builtin .append, #[x, y], #[t, t]⟩, ty, pos, af, g⟩ nid st K := by
  obtain ⟨cells, m, h1, h2, h3, hz1, h4, h5, h6, h7, h8⟩ := h
  exact ⟨_, _, opT_append_nil t x y e es by' m zs cells he.out hs.out hz.out h3 hz1 hb.out h1 h2 h4 h5 h6 h7, h8⟩

theorem R_append {e : TypeId} {es by' : Nat} {zs : List Value} (t : TypeId) (x y : Operand) [he : TElem P t e] [hs : TSiz P e es] [hb : TByt P e by'] [hz : TZero P e zs]
    (h : ∃ id n cs cells m, st.op x = .sl id 0 n es ∧ st.ob id = some (.cells cs e) ∧ srcOf st (st.op y) = some (cells, m) ∧ zs.length = es ∧ zs.all Value.oneCell' = true ∧ cs.length = n * es ∧ cells.length = m * es ∧ (n + m) * by' ≤ 140737488355328 ∧ n + m ≤ 9223372036854775807 ∧
      K 1 ⟨.sl nid 0 (n + m) es, [(nid, some (.cells (cs ++ cells) e)), (id, none)]⟩) :
    AO P ⟨dst, .call ⟨.builtin .append, #[x, y], #[t, t]⟩, ty, pos, af, g⟩ nid st K := by
  obtain ⟨id, n, cs, cells, m, h1, h2, h3, h4, hz1, h5, h6, h7, h8, h9⟩ := h
  exact ⟨_, _, opT_append_own t x y e id n es by' m zs cs cells he.out hs.out hz.out h4 hz1 hb.out h1 h2 h5 h3 h6 h7 h8, h9⟩

theorem R_copy {e : TypeId} {es : Nat} (t : TypeId) (x y : Operand) [he : TElem P t e] [hs : TSiz P e es]
    (h : ∃ id off n cs e' cells m, st.op x = .sl id off n es ∧ st.ob id = some (.cells cs e') ∧ srcOf st (st.op y) = some (cells, m) ∧ e' = e ∧ cells.length = m * es ∧ off + n * es ≤ cs.length ∧
      K 0 ⟨.val (.int .i64 (min m n : Nat)), [(id, some (.cells (spl cs off (cells.take (min m n * es))) e))]⟩) :
    AO P ⟨dst, .call ⟨.builtin .copy, #[x, y], #[t, t]⟩, ty, pos, af, g⟩ nid st K := by
  obtain ⟨id, off, n, cs, e', cells, m, h1, h2, h3, rfl, h4, h5, h6⟩ := h
  exact ⟨_, _, opT_copy t x y _ id off n es m cs cells he.out hs.out h1 h2 h3 h4 h5, h6⟩

theorem R_clear {e : TypeId} {es : Nat} {zs : List Value} (t : TypeId) (x : Operand) [he : TElem P t e] [hs : TSiz P e es] [hz : TZero P e zs]
    (h : ∃ id off n cs e', st.op x = .sl id off n es ∧ st.ob id = some (.cells cs e') ∧ e' = e ∧ zs.length = es ∧ zs.all Value.oneCell' = true ∧ off + n * es ≤ cs.length ∧
      K 0 ⟨.any, [(id, some (.cells (spl cs off (zrow zs n)) e))]⟩) : AO P ⟨dst, .call ⟨.builtin .clear, #[x], #[t]⟩, ty, pos, af, g⟩ nid st K := by
  obtain ⟨id, off, n, cs, e', h1, h2, rfl, h4, h5, h6, h7⟩ := h
  exact ⟨_, _, opT_clear t x _ id off n es cs zs he.out hs.out hz.out h4 h5 h1 h2 h6, h7⟩

/-- A call by a contract: 'σ': the caller's names of the objects that are handed in. -/
theorem R_call {f : FuncId} {xs : Array Operand} {tys : Array TypeId} {cargs : List AV} {cobjs : List AObj} {m : Nat} {r : AV} {cobjs' : List AObj} [hp : TPlain P f] (hc : ACall P f cargs cobjs m r cobjs') (σ : List Nat) (fz : Bool)
    (hm : m ≤ cobjs.length ∧ m ≤ cobjs'.length ∧ σ.length = cobjs.length ∧ σ.Nodup ∧ (∀ i ∈ σ, i < nid))
    (hob : ∀ j (h : j < cobjs.length), ∃ o, st.ob (σ.getD j 0) = some o ∧ cobjs[j] = toO st σ fz o)
    (hargs : cargs = xs.toList.map fun x => toA st σ fz 8 (st.op x))
    (hfz : fz = true → noImm r ∧ ∀ j (h : j < cobjs'.length), noImmO cobjs'[j])
    (h : K (cobjs'.length - m) ⟨ren (outName σ m nid) r, callUpd σ m nid cobjs'⟩) : AO P ⟨dst, .call ⟨.value (.func f), xs, tys⟩, ty, pos, af, g⟩ nid st K :=
  ⟨_, _, opT_call hc σ fz hp.out hm.1 hm.2.1 hm.2.2.1 hm.2.2.2.1 hm.2.2.2.2 hob hargs hfz, h⟩

end
end Go.Sy
