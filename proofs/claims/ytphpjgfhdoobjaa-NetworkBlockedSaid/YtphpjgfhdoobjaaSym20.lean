/-
  The symbolic walk: capacities, cuts beyond the length, overlapping slices, what is appended onto nothing. No condition.
-/
import Derived.Test.YtphpjgfhdoobjaaSym19
import Derived.Lib.AppendZeros
set_option linter.unusedVariables false
set_option linter.unusedSectionVars false
set_option linter.unusedSimpArgs false
namespace Go.Sy

section
variable {P : Program} {Q : Exit → Nat → St → Prop} {nid : Nat} {st : St} {dst : Option Nat} {ty : TypeId} {pos : String} {af : Array Edge} {g : Option (Nat × Bool)} {K : Nat → Eff → Prop}

/-- The capacity: some number; the object's spare cells are told, too. -/
theorem AL_cap {ops : Array Oper} {rest : List Oper} {n m d : Nat} {env : List (Nat × AV)} {objs : List (Nat × Option AObj)} {e : TypeId} {es : Nat} (t : TypeId) (x : Operand) [ht : TElem P t e] [hsz : TSiz P e es] (hd : dstOk n (some d) = true)
    (h : bindK (slAV (St.op ⟨n, m, env, objs⟩ x)) fun p => bindK (clOb (St.ob ⟨n, m, env, objs⟩ p.1)) fun o => p.2.2.2 = es ∧ ∀ K : List (Nat × AV) → List (Nat × Option AObj) → Prop, (∀ env' objs', AL P ops Q rest nid ⟨n, m, env', objs'⟩ → K env' objs') →
      (K ((d, .val (.int .i64 p.2.2.1)) :: env) ((p.1, some (.full (o.1 ++ List.replicate (p.2.1 + p.2.2.1 * es - o.1.length) .any) o.2)) :: objs)) ∧
      ∀ c : Nat, p.2.2.1 < c → o.1.length ≤ p.2.1 + c * es → K ((d, .val (.int .i64 c)) :: env) ((p.1, some (.cells (o.1 ++ List.replicate (p.2.1 + c * es - o.1.length) .any) o.2)) :: objs)) :
    AL P ops Q (⟨some d, .call ⟨.builtin .cap, #[x], #[t]⟩, ty, pos, af, none⟩ :: rest) nid ⟨n, m, env, objs⟩ := fun c ρ J a w hs => by
  obtain ⟨⟨id, off, len, es'⟩, h1, ⟨cs, e'⟩, h2, h3, h4⟩ := h
  dsimp only at h2 h3 h4
  subst h3
  have hx := slAV_eq h1; dsimp only at hx
  have ho := clOb_eq h2; dsimp only at ho
  have e1 := hs.op x; rw [hx] at e1
  obtain ⟨b, s, k1, ⟨arr, k2, k3, k4, k5, k6⟩, k7, k8⟩ := hs.obj _ _ ho
  generalize hv : a.eval x = v at e1
  cases e1 with
  | sl b' s' _ _ _ _ cap hρ hc hs' =>
    rw [k1] at hρ; cases hρ
    have hrun : (execOp a.eval ⟨some d, .call ⟨.builtin .cap, #[x], #[t]⟩, ty, pos, af, none⟩).run P w = .ok (.value (.int .i64 cap)) w := by
      simp [execOp, resolve, invoke, builtin, hv, Builtin.cap_, run_underlying (run_elemOf ht.out), goInt]
    have hdn : d < n := by simpa [dstOk] using hd
    have hle : cs.length ≤ off + cap * es' := by omega
    -- the spare cells are told, as either kind of object
    have main : ∀ ob : AObj, (∀ (h : ObjRep w J ρ b s (.full (cs ++ List.replicate (off + cap * es' - cs.length) .any) e')), ObjRep w J ρ b s ob) →
        Sim c ρ (· < nid) J ⟨n, m, (d, .val (.int .i64 cap)) :: env, (id, some ob) :: objs⟩ (a.put (some d) (.int .i64 cap)) w := by
      intro ob hob0
      have hob : ∀ i o, (⟨n, m, (d, .val (.int .i64 cap)) :: env, (id, some ob) :: objs⟩ : St).ob i = some o → (i = id ∧ o = ob) ∨ (⟨n, m, env, objs⟩ : St).ob i = some o := by
        intro i o hi
        simp only [St.ob, look] at hi
        split at hi
        · rename_i hid; simp at hi; exact .inl ⟨hid, hi.symm⟩
        · exact .inr hi
      have hex : ∀ i o, (⟨n, m, (d, .val (.int .i64 cap)) :: env, (id, some ob) :: objs⟩ : St).ob i = some o → ∃ o', (⟨n, m, env, objs⟩ : St).ob i = some o' := by
        intro i o hi
        rcases hob i o hi with ⟨rfl, _⟩ | hi
        · exact ⟨_, ho⟩
        · exact ⟨_, hi⟩
      refine ⟨hs.defers, by simpa [Act.put] using hs.tmps, fun t => ?_, fun i o ho' => ?_, fun i i' o o' b s s' g1 g2 => ?_, hs.dom, hs.jok, hs.jlt, hs.ilt, hs.pin, hs.kept⟩
      · simp only [Act.put, St.ev, look]
        by_cases htd : t = d
        · subst htd
          rw [if_pos rfl]
          have hlt : t < a.tmps.size := by rw [hs.tmps]; exact hdn
          have : (a.tmps.setIfInBounds t (.int .i64 cap)).getD t undef = .int .i64 cap := by simp [Array.getD, hlt]
          rw [this]; exact .val _
        · rw [if_neg htd]
          have : (a.tmps.setIfInBounds d (.int .i64 cap)).getD t undef = a.tmps.getD t undef := by
            simp [Array.getD_eq_getD_getElem?, Array.getElem?_setIfInBounds, Ne.symm htd]
          rw [this]; exact hs.env t
      · rcases hob i o ho' with ⟨rfl, rfl⟩ | ho'
        · refine ⟨b, s, k1, hob0 ⟨arr, k2, k3, ?_, fun j hj => ?_, k6⟩, k7, k8⟩
          · simp; omega
          · by_cases hjc : j < cs.length
            · have := k5 j hjc
              simpa [List.getElem_append_left hjc] using this
            · refine ⟨?_, ?_⟩
              · rw [List.length_append, List.length_replicate] at hj
                have hja : j < arr.size := by omega
                rw [Array.all_eq_true_iff_forall_mem] at k6
                have := k6 _ (Array.getElem_mem hja)
                simpa [Array.getD, hja] using this
              · have : (cs ++ List.replicate (off + cap * es' - cs.length) AV.any)[j] = .any := by
                  rw [List.getElem_append_right (by omega)]; simp
                rw [this]; exact .any _
        · exact hs.obj i o ho'
      · obtain ⟨o1, q1⟩ := hex i o g1
        obtain ⟨o2, q2⟩ := hex i' o' g2
        exact hs.inj i i' o1 o2 b s s' q1 q2
    refine wpList_plain rfl (fun K hK => ?_)
    unfold Oper.wp
    rw [hrun]
    obtain ⟨h5, h6⟩ := h4 (fun env' objs' => AL P ops Q rest nid ⟨n, m, env', objs'⟩) (fun _ _ h => h)
    rcases Nat.eq_or_lt_of_le hc with hcl | hcl
    · subst hcl
      exact hK _ _ (h5 c ρ J (a.put (some d) (.int .i64 len)) w (main _ fun h => h))
    · exact hK _ _ (h6 cap hcl hle c ρ J (a.put (some d) (.int .i64 cap)) w (main _ ObjRep.unfull))

theorem Q_capNil (t : TypeId) (x : Operand) {e : TypeId} [ht : TElem P t e] (h : bindK (islAV (st.op x)) fun p => p = (true, [], 0) ∧ K 0 ⟨.val (.int .i64 0), []⟩) : AO P ⟨dst, .call ⟨.builtin .cap, #[x], #[t]⟩, ty, pos, af, g⟩ nid st K := by
  obtain ⟨p, h1, rfl, h2⟩ := h
  refine ⟨0, _, .pure fun c ρ D J a w hs => ?_, h2⟩
  have e1 := hs.op x; rw [islAV_eq h1] at e1
  have hv0 : a.eval x = .slice none 0 0 := by
    generalize hxx : AV.isl true [] 0 = xx at e1
    generalize a.eval x = v at e1
    cases e1 <;> simp at hxx
    rfl
  exact ⟨.int .i64 0, by simp [execOp, resolve, invoke, builtin, hv0, Builtin.cap_, run_underlying (run_elemOf ht.out), goInt], .val _⟩

theorem zeros_rep {w : World} {J : Nat → Prop} {ρ : Rho} {z : Array Value} {zs : List Value} (hz : z = zs.toArray) (h1 : zs.all Value.oneCell' = true) (n : Nat) :
    ∀ j (hj : j < (zrow zs n).length), Rep w J ρ ((Builtin.zeroCells z n).getD j undef) (zrow zs n)[j] := by
  intro j hj
  have hcr := crep_made (w := w) (J := J) (ρ := ρ) hz h1 n
  have := (hcr.2.1 j hj).2
  have hjm : j < n * zs.length := by rw [zrow_length] at hj; exact hj
  simpa [madeCells, Builtin.zeroCells, hz, Array.getD_eq_getD_getElem?, hjm] using this

/-- Zeros appended onto nothing. -/
theorem Q_appendMake0 {e : TypeId} {es by' : Nat} {zs : List Value} {kn : IntKind} (t tn : TypeId) (x y : Operand) [he : TElem P t e] [hsz : TSiz P e es] [hb : TByt P e by'] [hz : TZero P e zs] [htn : TKind P tn kn]
    (h : bindK (islAV (st.op x)) fun p => bindK (intAV (st.op y)) fun k => p = (true, [], 0) ∧ zs.length = es ∧ zs.all Value.oneCell' = true ∧ 0 < es ∧ 0 < k ∧ k ≤ 9223372036854775807 ∧ k.toNat * by' ≤ 281474976710656 ∧ K 1 ⟨.sl nid 0 k.toNat es, [(nid, some (.cells (zrow zs k.toNat) e))]⟩) :
    AO P ⟨dst, .call ⟨.builtin .append, #[x, y], #[t, tn]⟩, ty, pos, af, g⟩ nid st K := by
  obtain ⟨p, h1, k, h2, rfl, h3, h4, h5, h6, h7, h8, h9⟩ := h
  refine ⟨1, _, .alloc fun c ρ D J a w hs => ?_, h9⟩
  obtain ⟨i, z, hi, his, hzi, hzc⟩ := info_all hsz.out hz.out
  have hb' : i.bytes = by' := by have := hb.out; unfold byt at this; simpa [hi] using this
  have e1 := hs.op x; rw [islAV_eq h1] at e1
  obtain ⟨kk, hk⟩ := intAV_eq h2
  have e2 := hs.op y; rw [hk] at e2
  have e2 := rep_val_inv e2
  have hv0 : a.eval x = .slice none 0 0 := by
    generalize hxx : AV.isl true [] 0 = xx at e1
    generalize a.eval x = v at e1
    cases e1 <;> simp at hxx
    rfl
  obtain ⟨n, rfl⟩ : ∃ n : Nat, k = n := ⟨k.toNat, by omega⟩
  simp only [Int.toNat_natCast] at h8 ⊢
  have hr := Lib.run_append_nil_zeros (P := P) w t tn ty e i z kk kn (run_elemOf he.out) (run_kindOf htn.out) hi hzi n (by omega) (by omega) h7 (by rw [hb']; exact h8)
  have hge := grownCap_ge w n 0 e
  obtain ⟨A, hA⟩ : ∃ A, A = Builtin.zeroCells z.cells n ++ Builtin.zeroCells z.cells (grownCap w n 0 e - n) := ⟨_, rfl⟩
  rw [← hA] at hr
  refine ⟨.slice (some ⟨w.heap.size, 0, none⟩) n (grownCap w n 0 e), w.drew.alloc (.cells A e), .cells A e, grownCap w n 0 e * es, ?_, Grew.drew w _, fun ρ' h1' h2' => ⟨.sl _ _ nid 0 n es _ h1' hge (by omega), A, (Grew.drew w _).new, ?_, ?_, ?_⟩⟩
  · simp [execOp, resolve, invoke, builtin, hv0, e2, hr]
  · rw [hA]
    simp only [Array.size_append, size_zeroCells, hzc, List.size_toArray, h3, ← Nat.add_mul]
    congr 1; omega
  · rw [zrow_length, h3]; exact Nat.mul_le_mul_right _ hge
  · have := (crep_front (w := w.drew.alloc (.cells A e)) (J := J) (ρ := ρ') (vs := (Builtin.zeroCells z.cells n).toList) (avs := zrow zs n) (Builtin.zeroCells z.cells (grownCap w n 0 e - n)) (zeros_one h4 hzc _)
      (by simp [size_zeroCells, hzc, zrow_length]) (fun u hu => by
        have := zeros_one h4 hzc n
        rw [Array.all_eq_true_iff_forall_mem] at this
        exact this u (by simpa using hu)) (fun j hj => by
        have := zeros_rep (w := w.drew.alloc (.cells A e)) (J := J) (ρ := ρ') hzc h4 n j hj
        simpa [List.getD_eq_getElem?_getD, Array.getD_eq_getD_getElem?] using this)).2
    simp only [Array.toArray_toList] at this
    rw [hA] at *
    exact this

/-- Zeros appended onto a part of an object that is known to be full: a new one. -/
def fullOb : Option AObj → Option (List AV × TypeId)
  | some (.full cs e) => some (cs, e)
  | _ => none
theorem e_fullOb {cs : List AV} {e : TypeId} : fullOb (some (.full cs e)) = some (cs, e) := rfl
theorem fullOb_eq {o : Option AObj} {p : List AV × TypeId} (h : fullOb o = some p) : o = some (.full p.1 p.2) := by
  unfold fullOb at h
  split at h
  · cases h; rfl
  · cases h
theorem Q_appendMake {e : TypeId} {es by' : Nat} {zs : List Value} {kn : IntKind} (t tn : TypeId) (x y : Operand) [he : TElem P t e] [hsz : TSiz P e es] [hb : TByt P e by'] [hz : TZero P e zs] [htn : TKind P tn kn]
    (h : bindK (slAV (st.op x)) fun p => bindK (fullOb (st.ob p.1)) fun o => bindK (intAV (st.op y)) fun k => p.2.2.2 = es ∧ o.2 = e ∧ zs.length = es ∧ zs.all Value.oneCell' = true ∧ 0 < es ∧ 0 < k ∧ p.2.1 + p.2.2.1 * es ≤ o.1.length ∧ o.1.length < p.2.1 + (p.2.2.1 + k.toNat) * es ∧
      (p.2.2.1 + k.toNat) * by' ≤ 140737488355328 ∧ p.2.2.1 + k.toNat ≤ 9223372036854775807 ∧ K 1 ⟨.sl nid 0 (p.2.2.1 + k.toNat) es, [(nid, some (.cells ((o.1.drop p.2.1).take (p.2.2.1 * es) ++ zrow zs k.toNat) e))]⟩) :
    AO P ⟨dst, .call ⟨.builtin .append, #[x, y], #[t, tn]⟩, ty, pos, af, g⟩ nid st K := by
  obtain ⟨⟨id, off, len, es'⟩, h1, ⟨cs, e'⟩, h2, k, hk0, h3, h4, h5, h6, h7, h8, h9, h10, h11, h12, h13⟩ := h
  dsimp only at h2 h3 h4 h9 h10 h11 h12 h13
  subst h3; subst h4
  have hx := slAV_eq h1; dsimp only at hx
  have ho := fullOb_eq h2; dsimp only at ho
  refine ⟨1, _, .alloc fun c ρ D J a w hs => ?_, h13⟩
  obtain ⟨i, z, hi, his, hzi, hzc⟩ := info_all hsz.out hz.out
  have hb' : i.bytes = by' := by have := hb.out; unfold byt at this; simpa [hi] using this
  have e1 := hs.op x; rw [hx] at e1
  obtain ⟨kk, hk⟩ := intAV_eq hk0
  have e2 := hs.op y; rw [hk] at e2
  have e2 := rep_val_inv e2
  obtain ⟨n, rfl⟩ : ∃ n : Nat, k = n := ⟨k.toNat, by omega⟩
  simp only [Int.toNat_natCast] at h10 h11 h12 ⊢
  obtain ⟨b, s, k1, k2, _⟩ := hs.obj _ _ ho
  have k2' := k2.unfull
  obtain ⟨arr, g1, g2, g3, _⟩ := k2
  obtain ⟨f, hf⟩ := cell_obj k2'
  generalize hv : a.eval x = v at e1
  cases e1 with
  | sl b' s' _ _ _ _ cap hρ hc hs' =>
    rw [k1] at hρ; cases hρ
    have hcap : ¬ (len + n ≤ cap) := by
      intro hle
      have : (len + n) * es' ≤ cap * es' := Nat.mul_le_mul_right _ hle
      omega
    have hnw : IntKind.i64.wrap (n : Int) = n := w_i64 (by omega)
    have hge := grownCap_ge w (len + n) cap e'
    have hne : n ≠ 0 := by omega
    have h63' : ¬ (9223372036854775807 < ((len : Int) + (n : Int))) := by omega
    have hfits : ¬ (281474976710656 < Builtin.nextslicecap (len + n) cap * i.bytes) := by
      have := growslice_fits (need := len + n) (old := cap) (bytes := i.bytes) (by omega) (by rw [hb']; exact h11)
      omega
    have h48i : ¬ (281474976710656 < (n : Int) * (i.bytes : Int)) := by
      have h : n * i.bytes ≤ (len + n) * i.bytes := Nat.mul_le_mul_right _ (by omega)
      rw [hb'] at h ⊢
      rw [← Int.natCast_mul]
      omega
    have hneg : ¬ ((n : Int) < 0) := by omega
    have hns : ¬ (n * i.size = 0) := Nat.mul_ne_zero hne (by omega)
    have hol : ((List.range (len * es')).map fun j => f (off + j)).length = len * i.size := by simp [his]
    have hfo := run_firstCells_some (P := P) w.drew i.size len ⟨b, off, none⟩ len cap ((List.range (len * es')).map fun j => f (off + j)) hol (fun j v hj => by
      obtain ⟨hlt, rfl⟩ := List.getElem?_eq_some_iff.1 hj
      have hj' : j < len * es' := by simpa using hlt
      rw [Addr.add_lit]
      have := (hf (off + j) (by omega)).1
      simpa using this)
    have hcn : ¬ (len + n ≤ cap) := hcap
    have hr : (Builtin.append_ #[t, tn] ty #[.slice (some ⟨b, off, none⟩) len cap, .int kk n]).run P w = .ok (.slice (some ⟨w.heap.size, 0, none⟩) (len + n) (grownCap w (len + n) cap e'))
        (w.drew.alloc (.cells (((List.range (len * es')).map fun j => f (off + j)).toArray ++ Builtin.zeroCells z.cells n ++ Builtin.zeroCells z.cells (grownCap w (len + n) cap e' - (len + n))) e')) := by
      simp [Builtin.append_, run_underlying (run_elemOf he.out), run_underlying (run_kindOf htn.out), sizeOf, typeInfo, zeroValue, hi, hzi, asInt, asIntOf, hnw, hne, hneg, hns, hcn, h63', hfits, h48i, Question.forced, hfo, newRow, grownCap]
    obtain ⟨A, hA⟩ : ∃ A, A = ((List.range (len * es')).map fun j => f (off + j)).toArray ++ Builtin.zeroCells z.cells n ++ Builtin.zeroCells z.cells (grownCap w (len + n) cap e' - (len + n)) := ⟨_, rfl⟩
    rw [← hA] at hr
    refine ⟨.slice (some ⟨w.heap.size, 0, none⟩) (len + n) (grownCap w (len + n) cap e'), w.drew.alloc (.cells A e'), .cells A e', grownCap w (len + n) cap e' * es', ?_, Grew.drew w _, fun ρ' h1' h2' => ⟨.sl _ _ nid 0 (len + n) es' _ h1' hge (by omega), A, (Grew.drew w _).new, ?_, ?_, ?_⟩⟩
    · simp [execOp, resolve, invoke, builtin, hv, e2, hr]
    · rw [hA]
      simp only [Array.size_append, List.size_toArray, List.length_map, List.length_range, size_zeroCells, hzc, h5, ← Nat.add_mul]
      congr 1; omega
    · rw [List.length_append, zrow_length, h5, List.length_take, List.length_drop, Nat.min_eq_left (by omega), ← Nat.add_mul]; exact Nat.mul_le_mul_right _ hge
    · have hz1 := zeros_one h6 hzc n
      rw [Array.all_eq_true_iff_forall_mem] at hz1
      have := (crep_front (w := w.drew.alloc (.cells A e')) (J := J) (ρ := ρ') (vs := (List.range (len * es')).map (fun j => f (off + j)) ++ (Builtin.zeroCells z.cells n).toList) (avs := (cs.drop off).take (len * es') ++ zrow zs n) (Builtin.zeroCells z.cells (grownCap w (len + n) cap e' - (len + n))) (zeros_one h6 hzc _)
        (by rw [List.length_append, List.length_append, List.length_map, List.length_range, List.length_take, List.length_drop, Nat.min_eq_left (by omega)]; simp [size_zeroCells, hzc, zrow_length]) (fun u hu => by
          rcases List.mem_append.1 hu with hu | hu
          · obtain ⟨j, hj, rfl⟩ := List.mem_map.1 hu
            have hj' : j < len * es' := by simpa using hj
            exact (hf (off + j) (by omega)).2.1
          · exact hz1 u (by simpa using hu)) (fun j hj => by
          have htl : ((cs.drop off).take (len * es')).length = len * es' := by rw [List.length_take, List.length_drop]; omega
          by_cases hjl : j < len * es'
          · rw [List.getElem_append_left (by omega)]
            have e3 : ((List.range (len * es')).map (fun j => f (off + j)) ++ (Builtin.zeroCells z.cells n).toList).getD j undef = f (off + j) := by
              rw [List.getD_eq_getElem?_getD, List.getElem?_append_left (by simpa using hjl)]; simp [hjl]
            rw [e3]
            have := (hf (off + j) (by omega)).2.2
            have := this.grew (Grew.drew w (.cells A e')) h2'
            simpa using this
          · rw [List.getElem_append_right (by omega)]
            have e3 : ((List.range (len * es')).map (fun j => f (off + j)) ++ (Builtin.zeroCells z.cells n).toList).getD j undef = (Builtin.zeroCells z.cells n).getD (j - len * es') undef := by
              rw [List.getD_eq_getElem?_getD, List.getElem?_append_right (by simp; omega)]; simp [Array.getD_eq_getD_getElem?]
            rw [e3]
            have hjz : j - len * es' < (zrow zs n).length := by rw [List.length_append, htl] at hj; omega
            have := zeros_rep (w := w.drew.alloc (.cells A e')) (J := J) (ρ := ρ') hzc h6 n (j - len * es') hjz
            simpa [htl] using this)).2
      have e4 : ((List.range (len * es')).map (fun j => f (off + j)) ++ (Builtin.zeroCells z.cells n).toList).toArray = ((List.range (len * es')).map fun j => f (off + j)).toArray ++ Builtin.zeroCells z.cells n := by
        apply Array.ext'; simp
      rw [e4] at this
      rw [hA] at *
      exact this

/-! -/

/-- A cut within an object's cells, maybe beyond the slice's length. -/
theorem Q_sliceX {e : TypeId} {es : Nat} (t : TypeId) (x : Operand) (lo hi : Option Operand) [ht : TElem P t e] [hsz : TSiz P e es] (h : bindK (slAV (st.op x)) fun p => bindK (clOb (st.ob p.1)) fun o => bindK (boundAV st 0 lo) fun l => bindK (boundAV st p.2.2.1 hi) fun u => p.2.2.2 = es ∧ 0 < es ∧ (0 ≤ l ∧ l ≤ u) ∧ p.2.1 + u.toNat * es ≤ o.1.length ∧
      (l < u ∨ l = 0) ∧ K 0 ⟨.sl p.1 (p.2.1 + l.toNat * es) (u.toNat - l.toNat) es, []⟩) : AO P ⟨dst, .slice t x lo hi none, ty, pos, af, g⟩ nid st K := by
  obtain ⟨⟨id, off, len, es'⟩, h1, ⟨cs, e'⟩, h2, l, hl, u, hu, h3, h4, ⟨h5, h6⟩, h7, h8, h9⟩ := h
  dsimp only at h2 h3 h4 h7 hu h9
  subst h3
  have hx := slAV_eq h1; dsimp only at hx
  have ho := clOb_eq h2; dsimp only at ho
  refine ⟨0, _, .pure fun c ρ D J a w hs => ?_, h9⟩
  have hr := hs.op x; rw [hx] at hr
  have hty := run_elemOf ht.out
  obtain ⟨b, s, k1, ⟨arr, k2, k3, k4, k5, k6⟩, k7, k8⟩ := hs.obj _ _ ho
  generalize hv : a.eval x = v at hr
  cases hr with
  | sl b' s' _ _ _ _ cap hρ hc hs' =>
    rw [k1] at hρ; cases hρ
    have hcap : u.toNat ≤ cap := by
      have : u.toNat * es' ≤ cap * es' := by omega
      exact Nat.le_of_mul_le_mul_right this h4
    have hb := run_bounds (P := P) hs true len cap lo hi l u hl hu h5 h6 (by omega)
    refine ⟨.slice (some ⟨b, off + l.toNat * es', none⟩) (u.toNat - l.toNat) (cap - l.toNat), ?_, .sl b s id _ _ es' (cap - l.toNat) k1 (by omega) ?_⟩
    · simp only [execOp, hv, Instr.sliceAt, Sem.run_bind, run_underlying hty, Result.andThen_ok, Instr.slice, Option.map_none, hb, Sem.run_pure, run_siz hsz.out]
      by_cases hcl : cap = l.toNat
      · have : l.toNat = 0 := by omega
        rw [if_pos hcl, this]; simp
      · rw [if_neg hcl]; simp [Addr.add_lit]
    · rw [Nat.add_assoc, ← Nat.add_mul, show l.toNat + (cap - l.toNat) = cap by omega]; exact hs'

/-- The check of a cut with three numbers; its value is not used. -/
theorem Q_slice3 {e : TypeId} {es : Nat} (t : TypeId) (x lo hi mx : Operand) [ht : TElem P t e] [hsz : TSiz P e es] (h : bindK (lenSl (st.op x)) fun n => bindK (intAV (st.op lo)) fun l => bindK (intAV (st.op hi)) fun u => bindK (intAV (st.op mx)) fun k => (0 ≤ l ∧ l ≤ u ∧ u ≤ k ∧ k ≤ n) ∧ K 0 ⟨.any, []⟩) :
    AO P ⟨dst, .slice t x (some lo) (some hi) (some mx), ty, pos, af, g⟩ nid st K := by
  obtain ⟨n, h1, l, hl, u, hu, k, hk, ⟨h3, h4, h5, h6⟩, h7⟩ := h
  refine ⟨0, _, .pure fun c ρ D J a w hs => ?_, h7⟩
  have hr := hs.op x
  have hty := run_elemOf ht.out
  obtain ⟨kl, e1⟩ := intAV_eq hl; obtain ⟨ku, e2⟩ := intAV_eq hu; obtain ⟨kk, e3⟩ := intAV_eq hk
  have r1 := hs.op lo; have r2 := hs.op hi; have r3 := hs.op mx
  rw [e1] at r1; rw [e2] at r2; rw [e3] at r3
  have r1 := rep_val_inv r1; have r2 := rep_val_inv r2; have r3 := rep_val_inv r3
  have main : ∀ (ad : Option Addr) (cap : Nat), a.eval x = .slice ad n cap → n ≤ cap → ∃ v, (execOp a.eval ⟨dst, .slice t x (some lo) (some hi) (some mx), ty, pos, af, g⟩).run P w = .ok (.value v) w ∧ Rep w J ρ v .any := by
    intro ad cap hv hc
    refine ⟨.slice (if k.toNat = l.toNat then ad else ad.map (·.add (l.toNat * es))) (u.toNat - l.toNat) (k.toNat - l.toNat), ?_, .any _⟩
    have g1 : 0 ≤ k ∧ k ≤ cap := by omega
    have g2 : 0 ≤ u ∧ u ≤ k := by omega
    have g3 : 0 ≤ l ∧ l ≤ u := by omega
    have g4 : 0 ≤ u ∧ u ≤ (k.toNat : Int) := by omega
    have g5 : 0 ≤ l ∧ l ≤ (u.toNat : Int) := by omega
    have hb : (Instr.sliceBounds true n cap (some (a.eval lo)) (some (a.eval hi)) (some (a.eval mx))).run P w = .ok (l.toNat, u.toNat, k.toNat) w := by
      simp only [Instr.sliceBounds, Instr.sliceBound, r1, r2, r3, asIntOf, Sem.run_bind, Sem.run_pure, Result.andThen_ok, if_pos g1, if_pos g4, if_pos g5]
    simp only [execOp, hv, Instr.sliceAt, Option.map_some, Sem.run_bind, run_underlying hty, Result.andThen_ok, Instr.slice, hb, Sem.run_pure, run_siz hsz.out]
  generalize st.op x = y at h1 hr
  generalize hv : a.eval x = v at hr
  cases hr <;> simp [lenSl] at h1
  · subst h1; exact main none 0 hv (Nat.zero_le _)
  · subst h1; exact main _ _ hv (Nat.zero_le _)
  · rename_i hc _ _ _; subst h1; exact main _ _ hv hc
  · rename_i hc _; subst h1; exact main _ _ hv (by assumption)

/-- Nothing appended onto nothing. -/
theorem Q_append00 {e : TypeId} {es : Nat} (t : TypeId) (x y : Operand) [he : TElem P t e] [hsz : TSiz P e es]
    (h : bindK (islAV (st.op x)) fun p => bindK (srcOf st (st.op y)) fun q => p = (true, [], 0) ∧ q.1 = [] ∧ q.2 = 0 ∧ K 0 ⟨.isl true [] 0, []⟩) : AO P ⟨dst, .call ⟨.builtin .append, #[x, y], #[t, t]⟩, ty, pos, af, g⟩ nid st K := by
  obtain ⟨p, h1, ⟨cells, m⟩, h2, rfl, h3, h4, h5⟩ := h
  dsimp only at h3 h4
  subst h3; subst h4
  refine ⟨0, _, .pure fun c ρ D J a w hs => ?_, h5⟩
  have e1 := hs.op x; rw [islAV_eq h1] at e1
  obtain ⟨i, hi, his⟩ : ∃ i, P.info? e = some i ∧ i.size = es := by
    have := hsz.out
    unfold siz at this
    cases hi : P.info? e with
    | none => simp [hi] at this
    | some i => exact ⟨i, rfl, by simpa [hi] using this⟩
  have hv0 : a.eval x = .slice none 0 0 := by
    generalize hxx : AV.isl true [] 0 = xx at e1
    generalize a.eval x = v at e1
    cases e1 <;> simp at hxx
    rfl
  refine ⟨.slice none 0 0, ?_, .inil⟩
  rcases src_rep hs (hs.op y) h2 (show ([] : List AV).length = 0 * es by simp) with ⟨hy0, _, _⟩ | ⟨ad, cp, news, hyv, hmc, hnl, hnews, hone, hrep⟩
  · simp [execOp, resolve, invoke, builtin, hv0, hy0, Builtin.append_, run_underlying (run_elemOf he.out), sizeOf, typeInfo, hi, Builtin.lenOf, Builtin.firstCells, storeCells]
  · simp [execOp, resolve, invoke, builtin, hv0, hyv, Builtin.append_, run_underlying (run_elemOf he.out), sizeOf, typeInfo, hi, Builtin.lenOf, Builtin.firstCells, storeCells, loadCells, loadCellsFrom]

/-- Two slices of different objects do not overlap: the model's own word for slices.overlaps. -/
class TOver (P : Program) (f : FuncId) (t : outParam TypeId) : Prop where
  out : ∃ (fn : Func) (r e : TypeId) (n : Nat), P.funcs[f]? = some fn ∧ (fn.name == "runtime.NumGoroutine") = false ∧ fn.body.isNone = true ∧ Extern.findNext fn = none ∧ Extern.find fn = some (Extern.SlicesOverlaps.overlaps #[t, t] #[r]) ∧ P.underlying t = some (.slice e) ∧ siz P e = some n

theorem Q_overlaps {f : FuncId} {t : TypeId} (x y : Operand) (tys : Array TypeId) [ht : TOver P f t] (h : bindK (slAV (st.op x)) fun p => bindK (clOb (st.ob p.1)) fun o => bindK (slAV (st.op y)) fun q => bindK (clOb (st.ob q.1)) fun o2 => p.1 ≠ q.1 ∧ 0 < o2.1.length ∧ K 0 ⟨.val (.bool false), []⟩) :
    AO P ⟨dst, .call ⟨.value (.func f), #[x, y], tys⟩, ty, pos, af, g⟩ nid st K := by
  obtain ⟨⟨id1, off1, n1, es1⟩, h1, ⟨cs1, e1⟩, h2, ⟨id2, off2, n2, es2⟩, h3, ⟨cs2, e2⟩, h4, h5, h6, h7⟩ := h
  dsimp only at h2 h4 h5 h6
  refine ⟨0, _, .pure fun c ρ D J a w hs => ?_, h7⟩
  obtain ⟨fn, r, e, n, g1, g2, g3, g4, g5, g6, g7⟩ := ht.out
  have hx := slAV_eq h1; dsimp only at hx
  have hy := slAV_eq h3; dsimp only at hy
  have ho1 := clOb_eq h2; dsimp only at ho1
  have ho2 := clOb_eq h4; dsimp only at ho2
  have r1 := hs.op x; rw [hx] at r1
  have r2 := hs.op y; rw [hy] at r2
  obtain ⟨b1, s1, k1, ⟨arr1, k2, k3, k4, _⟩, _⟩ := hs.obj _ _ ho1
  obtain ⟨b2, s2, m1, ⟨arr2, m2, m3, m4, _⟩, _⟩ := hs.obj _ _ ho2
  have hne : b1 ≠ b2 := by
    intro hb; subst hb
    exact h5 (hs.inj _ _ _ _ _ _ _ ho1 ho2 k1 m1)
  generalize hv : a.eval x = v at r1
  generalize hu : a.eval y = u at r2
  cases r1 with
  | sl _ _ _ _ _ _ cap hρ hc hs' =>
    rw [k1] at hρ; cases hρ
    cases r2 with
    | sl _ _ _ _ _ _ cap2 hρ2 hc2 hs2 =>
      rw [m1] at hρ2; cases hρ2
      refine ⟨.bool false, ?_, .val _⟩
      have hov := Lib.run_overlaps_apart (P := P) w t r e g6 n (fun w => run_siz g7) ⟨b1, off1, none⟩ ⟨b2, off2, none⟩ n1 cap n2 cap2 hne e1 e2 arr1.size arr2.size (by simp [World.shape?, k2]) (by simp [World.shape?, m2]) (by omega) (by simp [World.frozen?, k2]) (by simp [World.frozen?, k2])
      have hcall := run_callFunc_extern (P := P) g1 g2 g3 g4 g5 #[.slice (some ⟨b1, off1, none⟩) n1 cap, .slice (some ⟨b2, off2, none⟩) n2 cap2] w
      rw [hov] at hcall
      have e1 : #[x, y].map a.eval = #[.slice (some ⟨b1, off1, none⟩) n1 cap, .slice (some ⟨b2, off2, none⟩) n2 cap2] := by simp [hv, hu]
      simp only [execOp, resolve, Act.eval, Deferred.ofValue, Sem.run_bind, Sem.run_pure, Result.andThen_ok, invoke, Array.append_empty, e1]
      simp [hcall]
end

attribute [push_cast] e_fullOb renO_full e_intsAV e_intsL0 e_intsL1 e_eqI0 e_eqI1 Bool.and_eq_true Bool.and_eq_false_iff Bool.or_eq_true Bool.or_eq_false_iff e_fn
end Go.Sy
