/-
  The operations of the symbolic walk that copy and clear; min and max; a byte of a string. No condition.
-/
import Derived.Test.YtphpjgfhdoobjaaSym6
set_option linter.unusedVariables false
set_option linter.unusedSectionVars false
set_option linter.unusedSimpArgs false
namespace Go.Sy

section
variable {P : Program} {dst : Option Nat} {ty : TypeId} {pos : String} {af : Array Edge} {g : Option (Nat × Bool)} {nid : Nat} {st : St}

/-- A run of cells stored into an object. -/
theorem put_cells {w : World} {J : Nat → Prop} {ρ : Rho} {b s off : Nat} {cs avs : List AV} {e : TypeId} {vs : List Value} (h : ObjRep w J ρ b s (.cells cs e)) (hl : vs.length = avs.length)
    (h1 : ∀ u ∈ vs, Value.oneCell' u = true) (h2 : ∀ j (hj : j < avs.length), Rep w J ρ (vs.getD j undef) avs[j]) (hs : off + avs.length ≤ cs.length) :
    ∃ w', (storeCells ⟨b, off, none⟩ vs).run P w = .ok () w' ∧ w'.heap.size = w.heap.size ∧ w'.os = w.os ∧ w'.tape = w.tape ∧ w'.output = w.output ∧ (∀ k, k ≠ b → w'.heap[k]? = w.heap[k]?) ∧
      ((∀ u y, Rep w J ρ u y → Rep w' J ρ u y) → ObjRep w' J ρ b s (.cells (spl cs off avs) e)) := by
  obtain ⟨arr, ha, hsz, hcr⟩ := h
  have hcr' : CRep w J ρ arr cs := ⟨by have := hcr.1; omega, hcr.2⟩
  have hst := run_storeCells_at P b off e vs 0 arr w ha (by have := hcr.1; omega) h1
  simp only [Nat.add_zero] at hst
  have hsp := hcr'.splice (avs := avs) (vs := vs) (off := off) hl (fun j hj => ⟨by
    have hj' : j < vs.length := by omega
    have : vs.getD j undef = vs[j] := by simp [List.getD_eq_getElem?_getD, hj']
    rw [this]; exact h1 _ (List.getElem_mem hj'), h2 j hj⟩) (by omega) (by have := hcr.1; omega)
  refine ⟨_, hst, by simp, rfl, rfl, rfl, fun k hk => setRow_other w b k _ hk, fun hi => ⟨_, setRow_heap w b arr _ e _ ha, by rw [hsp.2]; exact hsz, ?_, (hsp.1.imp hi).2⟩⟩
  have := (hsp.1.imp hi).1; rw [hsp.2, hsz] at this; exact this

theorem opT_copy (t : TypeId) (x y : Operand) (e : TypeId) (id off n es m : Nat) (cs cells : List AV) (he : elemOf P t = some e) (hs : siz P e = some es)
    (hx : st.op x = .sl id off n es) (ho : st.ob id = some (.cells cs e)) (hy : srcOf st (st.op y) = some (cells, m)) (hl : cells.length = m * es) (hfit : off + n * es ≤ cs.length) :
    OpT P ⟨dst, .call ⟨.builtin .copy, #[x, y], #[t, t]⟩, ty, pos, af, g⟩ nid 0 st ⟨.val (.int .i64 (min m n : Nat)), [(id, some (.cells (spl cs off (cells.take (min m n * es))) e))]⟩ := OpT.modify ho fun c ρ D J a w b s h hρ hob hJ => by
  have e1 := h.op x; rw [hx] at e1
  generalize hv : a.eval x = v at e1
  cases e1 with
  | sl b' s' _ _ _ _ cap hρ' hc hsz =>
    rw [hρ] at hρ'; cases hρ'
    have hmin : min m n * es ≤ m * es := Nat.mul_le_mul_right _ (Nat.min_le_left _ _)
    have hmin2 : min m n * es ≤ n * es := Nat.mul_le_mul_right _ (Nat.min_le_right _ _)
    have htl : (cells.take (min m n * es)).length = min m n * es := by rw [List.length_take, hl]; omega
    have fin : ∀ vs : List Value, vs.length = min m n * es → (∀ u ∈ vs, Value.oneCell' u = true) → (∀ j (hj : j < (cells.take (min m n * es)).length), Rep w J ρ (vs.getD j undef) (cells.take (min m n * es))[j]) →
        (∀ w', (storeCells ⟨b, off, none⟩ vs).run P w = .ok () w' → (execOp a.eval ⟨dst, .call ⟨.builtin .copy, #[x, y], #[t, t]⟩, ty, pos, af, g⟩).run P w = .ok (.value (.int .i64 (min m n : Nat))) w') →
        ∃ nx w' v, (execOp a.eval ⟨dst, .call ⟨.builtin .copy, #[x, y], #[t, t]⟩, ty, pos, af, g⟩).run P w = .ok nx w' ∧ (nx = .value v ∨ nx = .skip ∧ v = undef) ∧ w'.heap.size = w.heap.size ∧ w'.os = w.os ∧ w'.tape = w.tape ∧ w'.output = w.output ∧
        (∀ k, k ≠ b → w'.heap[k]? = w.heap[k]?) ∧ ((∀ u y, Rep w J ρ u y → Rep w' J ρ u y) → Rep w' J ρ v (.val (.int .i64 (min m n : Nat))) ∧ ObjRep w' J ρ b s (.cells (spl cs off (cells.take (min m n * es))) e)) := by
      intro vs hvl h1 h2 hrun
      obtain ⟨w', hst, k1, k2, k3, k4, k5, k6⟩ := put_cells (P := P) (off := off) (avs := cells.take (min m n * es)) hob (by rw [htl]; exact hvl) h1 h2 (by rw [htl]; omega)
      exact ⟨_, w', _, hrun w' hst, .inl rfl, k1, k2, k3, k4, k5, fun hi => ⟨.val _, k6 hi⟩⟩
    rcases src_rep h (h.op y) hy hl with ⟨hy0, h0, hc0⟩ | ⟨ad, cp, news, hyv, hmc, hnl, hnews, hone, hrep⟩
    · subst h0; subst hc0
      refine fin [] (by simp) (by simp) (fun j hj => by simp at hj) (fun w' hst => ?_)
      simp [execOp, resolve, invoke, builtin, hv, hy0, Builtin.copy_, run_underlying (run_elemOf he), run_siz hs, Builtin.lenOf, Builtin.firstCells, goInt]
      have : w' = w := by simp [storeCells] at hst; exact hst.symm
      simp [storeCells, this]
    · refine fin (news.take (min m n * es)) (by rw [List.length_take, hnl]; omega) (fun u hu => hone u (List.mem_of_mem_take hu)) (fun j hj => ?_) (fun w' hst => ?_)
      · have hj' : j < min m n * es := by rw [htl] at hj; exact hj
        have e1 : (news.take (min m n * es)).getD j undef = news.getD j undef := by simp [List.getD_eq_getElem?_getD, List.getElem?_take_of_lt hj']
        rw [e1]
        have := hrep j (by omega)
        simpa using this
      · have hf := run_firstCells_some (P := P) w es (min m n) ad m cp (news.take (min m n * es)) (by rw [List.length_take, hnl]; omega) (fun j u hu => hnews j u (by
          rw [List.getElem?_take] at hu; split at hu
          · exact hu
          · cases hu))
        have hmm : Nat.min m n = min m n := rfl
        simp only [execOp, resolve, invoke, builtin, Sem.run_bind, Sem.run_pure, Result.andThen_ok]
        simp [hv, hyv, Builtin.copy_, run_underlying (run_elemOf he), run_siz hs, Builtin.lenOf, goInt, hmm, hf, hst]

theorem opT_clear (t : TypeId) (x : Operand) (e : TypeId) (id off n es : Nat) (cs : List AV) (zs : List Value) (he : elemOf P t = some e) (hs : siz P e = some es) (hzs : zcells P e = some zs) (hzl : zs.length = es) (h1 : zs.all Value.oneCell' = true)
    (hx : st.op x = .sl id off n es) (ho : st.ob id = some (.cells cs e)) (hfit : off + n * es ≤ cs.length) :
    OpT P ⟨dst, .call ⟨.builtin .clear, #[x], #[t]⟩, ty, pos, af, g⟩ nid 0 st ⟨.any, [(id, some (.cells (spl cs off (zrow zs n)) e))]⟩ := OpT.modify ho fun c ρ D J a w b s h hρ hob hJ => by
  have e1 := h.op x; rw [hx] at e1
  generalize hv : a.eval x = v at e1
  cases e1 with
  | sl b' s' _ _ _ _ cap hρ' hc hsz =>
    rw [hρ] at hρ'; cases hρ'
    obtain ⟨i, z, hi, his, hz, hzc⟩ := info_all hs hzs
    have hcr := crep_made (w := w) (J := J) (ρ := ρ) hzc h1 n
    rcases Nat.eq_zero_or_pos n with h0 | hpos
    · subst h0
      refine ⟨_, w, .tuple #[], ?_, .inl rfl, rfl, rfl, rfl, rfl, fun _ _ => rfl, fun _ => ⟨.any _, ?_⟩⟩
      · simp [execOp, resolve, invoke, builtin, hv, Builtin.clear_, run_underlying (run_elemOf he)]
      · have : spl cs off (zrow zs 0) = cs := by simp [spl, zrow]
        rw [this]; exact hob
    · obtain ⟨w', hst, k1, k2, k3, k4, k5, k6⟩ := put_cells (P := P) (off := off) (avs := zrow zs n) (vs := (Builtin.zeroCells z.cells n).toList) hob (by simp [size_zeroCells, hzc, zrow_length])
        (fun u hu => by
          obtain ⟨j, hj, rfl⟩ := List.getElem_of_mem hu
          have hj' : j < (zrow zs n).length := by rw [zrow_length]; simpa [size_zeroCells, hzc] using hj
          have := (hcr.2.1 j hj').1
          have hjm : j < n * zs.length := by rw [zrow_length] at hj'; exact hj'
          simpa [madeCells, Builtin.zeroCells, hzc, Array.getD_eq_getD_getElem?, hjm] using this)
        (fun j hj => by
          have := (hcr.2.1 j hj).2
          have hjm : j < n * zs.length := by rw [zrow_length] at hj; exact hj
          simpa [madeCells, Builtin.zeroCells, hzc, Array.getD_eq_getD_getElem?, List.getD_eq_getElem?_getD, hjm] using this)
        (by rw [zrow_length, hzl]; omega)
      refine ⟨_, w', .tuple #[], ?_, .inl rfl, k1, k2, k3, k4, k5, fun hi => ⟨.any _, k6 hi⟩⟩
      obtain ⟨n', rfl⟩ : ∃ n', n = n' + 1 := ⟨n - 1, by omega⟩
      have hzv : (zeroValue e).run P w = .ok z w := by simp [zeroValue, typeInfo, hi, hz]
      simp [execOp, resolve, invoke, builtin, hv, Builtin.clear_, run_underlying (run_elemOf he), hzv, hst]

end
end Go.Sy
