/-
  The symbolic walk: an entry of a map, put in place first and filled later. No condition.
-/
import Derived.Test.YtphpjgfhdoobjaaSym22
set_option linter.unusedVariables false
set_option linter.unusedSectionVars false
set_option linter.unusedSimpArgs false
namespace Go.Sy

def idxM : List (List Int × AV) → List Int → Nat
  | [], _ => 0
  | (k, _) :: l, x => if k = x then 0 else idxM l x + 1
def entM (l : List (List Int × AV)) (x : List Int) (z : AV) : List (List Int × AV) := if (assoc l x).isSome then l else l ++ [(x, z)]
def setM (l : List (List Int × AV)) (s : Nat) (v : AV) : List (List Int × AV) := l.modify s fun p => (p.1, v)

theorem idx_new : ∀ (l : List (List Int × AV)) (x : List Int), assoc l x = none → idxM l x = l.length
  | [], _, _ => rfl
  | (k, u) :: l, x, h => by
    rw [assoc] at h
    split at h
    · cases h
    · rename_i hk; rw [idxM, if_neg hk, idx_new l x h]; rfl
theorem idx_old : ∀ (l : List (List Int × AV)) (x : List Int) (j : Nat), (∃ h : j < l.length, l[j].1 = x) → (∀ q (h : q < l.length), q < j → l[q].1 ≠ x) → idxM l x = j
  | [], _, _, ⟨h, _⟩, _ => by simp at h
  | (k, u) :: l, x, 0, ⟨_, h⟩, _ => by simp at h; subst h; simp [idxM]
  | (k, u) :: l, x, j + 1, ⟨h1, h2⟩, h3 => by
    have h0 := h3 0 (by simp) (by omega)
    simp only [List.getElem_cons_zero] at h0
    rw [idxM, if_neg h0, idx_old l x j ⟨by simpa using h1, by simpa using h2⟩ (fun q hq hlt => by have := h3 (q + 1) (by simpa using hq) (by omega); exact this)]
theorem idx_lt {l : List (List Int × AV)} {x : List Int} {z : AV} : (idxM l x < (entM l x z).length) = True := by
  refine eq_true ?_
  unfold entM
  induction l with
  | nil => simp [idxM, assoc]
  | cons p l ih =>
    obtain ⟨k, u⟩ := p
    rw [idxM, assoc]
    by_cases hk : k = x
    · rw [if_pos hk, if_pos hk]; simp
    · rw [if_neg hk, if_neg hk]
      split at ih
      · rename_i h; rw [if_pos h]; simp; exact ih
      · rename_i h; rw [if_neg h]; simp at ih ⊢; exact ih
theorem set_ent {l : List (List Int × AV)} {x : List Int} {z v : AV} : setM (entM l x z) (idxM l x) v = putM l x v := by
  unfold setM entM
  induction l with
  | nil => simp [idxM, assoc, putM]
  | cons p l ih =>
    obtain ⟨k, u⟩ := p
    rw [idxM, assoc, putM]
    by_cases hk : k = x
    · rw [if_pos hk, if_pos hk, if_pos hk]; simp
    · rw [if_neg hk, if_neg hk, if_neg hk, ← ih]
      split
      · simp
      · simp

section
variable {P : Program} {Q : Exit → Nat → St → Prop} {nid : Nat} {st : St} {dst : Option Nat} {ty : TypeId} {pos : String} {af : Array Edge} {g : Option (Nat × Bool)} {K : Nat → Eff → Prop}

theorem opT_mapEntry {k e : TypeId} {ag : Bool} {n : Nat} {z : AV} (t : TypeId) (m x : Operand) (hm : mapOf P t = some (k, e)) (hk : keyForm P k = some (ag, n)) (hz : zeroAV P e = some z) {id : Nat} {l : List (List Int × AV)} {ks : List Int}
    (h1 : st.op m = .mp id) (h2 : st.ob id = some (.map ag n l)) (h3 : st.op x = keyA ag ks) (h4 : ks.length = n) :
    OpT P ⟨dst, .mapEntry t m x, ty, pos, af, g⟩ nid 0 st ⟨.tup [(assoc l ks).getD z, .val (.int .i64 (idxM l ks : Nat))], [(id, some (.map ag n (entM l ks z)))]⟩ := OpT.modify h2 fun c ρ D J a w b s hs hρ hob hJ => by
  obtain ⟨ms, clock, k2, k3, k4⟩ := hob
  have r1 := hs.op m; rw [h1] at r1
  have r2 := hs.op x; rw [h3] at r2
  have r2 := rep_key r2
  generalize hv : a.eval m = mv at r1
  cases r1 with
  | mp b' s' _ hρ' =>
    rw [hρ] at hρ'; cases hρ'
    obtain ⟨lv, g1, g2, g3, g4⟩ := map_list k3.1 k4
    obtain ⟨zv, z1, z2⟩ := run_zeroAV (w := w) hz
    have hfk := findKey_ok (w := w) hk h4 ms.toList lv g1 g2
    have hck := checkKey_ok (w := w) hk h4 false
    have hget : (getObj b).run P w = .ok (.map ms clock) w := by simp [getObj, Sem.run, k2]
    have hlt : b < w.heap.size := (Array.getElem?_eq_some_iff.1 k2).1
    have hset : ∀ o : Obj, (setObj b o).run P w = .ok () { w with heap := w.heap.setIfInBounds b o } := fun o => by simp [setObj, Sem.run, k2]
    have other : ∀ (o : Obj) k, k ≠ b → ({ w with heap := w.heap.setIfInBounds b o } : World).heap[k]? = w.heap[k]? := fun o k hk => by simp [Array.getElem?_setIfInBounds, Ne.symm hk]
    have here : ∀ (o : Obj), ({ w with heap := w.heap.setIfInBounds b o } : World).heap[b]? = some o := fun o => by simp [Array.getElem?_setIfInBounds, hlt]
    rcases find_assoc (ag := ag) (x := ks) lv l 0 g3 g4 with ⟨f1, f2⟩ | ⟨j, v, av, f1, f2, f3, ⟨f4, f5⟩, f6⟩
    · refine ⟨.value (.tuple #[zv, .int .i64 (clock : Nat)]), { w with heap := w.heap.setIfInBounds b (.map (ms.push { key := keyV ag ks, val := zv, born := clock }) (clock + 1)) }, _, ?_, .inl rfl, ?_, rfl, rfl, rfl, other (.map (ms.push { key := keyV ag ks, val := zv, born := clock }) (clock + 1)), fun hi => ⟨?_, _, _, here _, ?_, ?_⟩⟩
      · simp only [execOp, Instr.mapEntry, hv, r2, Sem.run_bind, run_underlying (run_mapOf hm), Result.andThen_ok, hget, hck, hfk, f1, z1, hset, Sem.run_pure]
        rfl
      · simp
      · rw [f2, idx_new _ _ f2, ← k3.2]
        exact .tup _ _ rfl (fun j hj => match j, hj with | 0, _ => hi _ _ (z2 _ _) | 1, _ => .val _)
      · rw [entM, f2, if_neg (by simp)]; exact ⟨by simp [k3.1], by rw [k3.2]; simp⟩
      · rw [entM, f2, if_neg (by simp)]
        intro j hj
        by_cases hjl : j < l.length
        · rw [List.getElem_append_left hjl]
          have := k4 j hjl
          have e1 : (ms.push { key := keyV ag ks, val := zv, born := clock }).getD j default = ms.getD j default := by
            have hjm : j < ms.size := by omega
            simp [Array.getD_eq_getD_getElem?, Array.getElem?_push, show ¬ j = ms.size by omega]
          rw [e1]; exact ⟨this.1, hi _ _ this.2⟩
        · have hje : j = ms.size := by rw [List.length_append] at hj; simp at hj; omega
          rw [List.getElem_append_right (by omega)]
          have e1 : (ms.push { key := keyV ag ks, val := zv, born := clock }).getD j default = { key := keyV ag ks, val := zv, born := clock } := by
            simp [Array.getD_eq_getD_getElem?, Array.getElem?_push, hje]
          rw [e1]
          simp only [show j - l.length = 0 by omega, List.getElem_cons_zero]
          exact ⟨⟨trivial, h4, by rw [k3.2]; rw [hje, k3.1]⟩, hi _ _ (z2 _ _)⟩
    · have hjm : j < ms.size := by omega
      have hkey : ((ms[j]?).map (·.key)).getD (keyV ag ks) = keyV ag ks := by
        have := (k4 j f4).1.1
        rw [f5] at this
        simpa [Array.getD, hjm] using this
      have hborn : ((ms[j]?).map (fun x => ((x.born : Nat) : Int))).getD 0 = (j : Int) := by
        have := (k4 j f4).1.2.2
        simp [Array.getD, hjm] at this
        simp [hjm, this]
      have hst : (Instr.keyThatStays (keyV ag ks) (keyV ag ks)).run P w = .ok (keyV ag ks) w := by
        unfold Instr.keyThatStays; rw [if_pos sameBits_key]; rfl
      refine ⟨.value (.tuple #[v, .int .i64 (j : Nat)]), { w with heap := w.heap.setIfInBounds b (.map (ms.modify j fun e => { e with key := keyV ag ks }) clock) }, _, ?_, .inl rfl, ?_, rfl, rfl, rfl, other (.map (ms.modify j fun e => { e with key := keyV ag ks }) clock), fun hi => ⟨?_, _, _, here _, ?_, ?_⟩⟩
      · simp only [execOp, Instr.mapEntry, hv, r2, Sem.run_bind, run_underlying (run_mapOf hm), Result.andThen_ok, hget, hck, hfk, f1, Nat.zero_add, hkey, hborn, hst, hset, Sem.run_pure, goInt]
      · simp
      · rw [f2, idx_old _ _ j ⟨f4, f5⟩ f6]
        exact .tup _ _ rfl (fun j hj => match j, hj with | 0, _ => hi _ _ f3 | 1, _ => .val _)
      · rw [entM, f2, if_pos (by simp)]; exact ⟨by simp [k3.1], k3.2⟩
      · rw [entM, f2, if_pos (by simp)]
        intro q hql
        have hqm : q < ms.size := by omega
        have := k4 q hql
        by_cases hqj : q = j
        · subst hqj
          have e1 : (ms.modify q fun e => { e with key := keyV ag ks }).getD q default = { ms[q] with key := keyV ag ks } := by
            simp [Array.getD, hqm, Array.getElem_modify]
          have e2 : ms.getD q default = ms[q] := by simp [Array.getD, hqm]
          rw [e2] at this
          rw [e1]
          exact ⟨⟨by rw [f5], this.1.2.1, this.1.2.2⟩, hi _ _ this.2⟩
        · have e1 : (ms.modify j fun e => { e with key := keyV ag ks }).getD q default = ms.getD q default := by
            simp [Array.getD, hqm, Array.getElem_modify, Ne.symm hqj]
          rw [e1]
          exact ⟨this.1, hi _ _ this.2⟩

theorem opT_entryStore {ag : Bool} {n : Nat} (t : TypeId) (m x y : Operand) {id : Nat} {l : List (List Int × AV)} {s : Nat} {kk : IntKind}
    (h1 : st.op m = .mp id) (h2 : st.ob id = some (.map ag n l)) (h3 : st.op x = .val (.int kk s)) (h4 : s < l.length) :
    OpT P ⟨dst, .entryStore t m x y, ty, pos, af, g⟩ nid 0 st ⟨.any, [(id, some (.map ag n (setM l s (st.op y))))]⟩ := OpT.modify h2 fun c ρ D J a w b s' hs hρ hob hJ => by
  obtain ⟨ms, clock, k2, k3, k4⟩ := hob
  have r1 := hs.op m; rw [h1] at r1
  have r2 := hs.op x; rw [h3] at r2
  have r2 := rep_val_inv r2
  generalize hv : a.eval m = mv at r1
  cases r1 with
  | mp b' s' _ hρ' =>
    rw [hρ] at hρ'; cases hρ'
    have hget : (getObj b).run P w = .ok (.map ms clock) w := by simp [getObj, Sem.run, k2]
    have hlt : b < w.heap.size := (Array.getElem?_eq_some_iff.1 k2).1
    have hset : ∀ o : Obj, (setObj b o).run P w = .ok () { w with heap := w.heap.setIfInBounds b o } := fun o => by simp [setObj, Sem.run, k2]
    have other : ∀ (o : Obj) k, k ≠ b → ({ w with heap := w.heap.setIfInBounds b o } : World).heap[k]? = w.heap[k]? := fun o k hk => by simp [Array.getElem?_setIfInBounds, Ne.symm hk]
    have here : ∀ (o : Obj), ({ w with heap := w.heap.setIfInBounds b o } : World).heap[b]? = some o := fun o => by simp [Array.getElem?_setIfInBounds, hlt]
    have hsm : s < ms.size := by rw [k3.1]; exact h4
    have hborn : ∀ (q : Nat) (h : q < ms.size), ms[q].born = q := fun q h => by
      have := (k4 q (by rw [← k3.1]; exact h)).1.2.2
      simpa [Array.getD, h] using this
    have hidx : ms.findIdx? (fun e => ((e.born : Nat) : Int) == ((s : Nat) : Int)) = some s := by
      rw [Array.findIdx?_eq_some_iff_getElem]
      refine ⟨hsm, by simp [hborn s hsm], fun q hq => ?_⟩
      simp [hborn q (by omega)]
      omega
    refine ⟨.skip, { w with heap := w.heap.setIfInBounds b (.map (ms.modify s fun e => { e with val := a.eval y }) clock) }, undef, ?_, .inr ⟨rfl, rfl⟩, ?_, rfl, rfl, rfl, other (.map (ms.modify s fun e => { e with val := a.eval y }) clock), fun hi => ⟨.any _, _, _, here _, ?_, ?_⟩⟩
    · simp only [execOp, Instr.entryStore, hv, r2, asInt, asIntOf, Sem.run_bind, Result.andThen_ok, hget, hidx, hset, Sem.run_pure]
    · simp
    · exact ⟨by simp [k3.1, setM], by simp [k3.2, setM]⟩
    · intro q hq
      have hql : q < l.length := by simpa [setM] using hq
      have hqm : q < ms.size := by omega
      have := k4 q hql
      have e3 : (setM l s (st.op y))[q] = if s = q then (l[q].1, st.op y) else l[q] := by
        simp only [setM]; exact List.getElem_modify ..
      simp only [e3]
      by_cases hqs : q = s
      · have e1 : (ms.modify s fun e => { e with val := a.eval y }).getD q default = { ms[q] with val := a.eval y } := by
          simp [Array.getD, hqm, Array.getElem_modify, hqs, hsm]
        have e2 : ms.getD q default = ms[q] := by simp [Array.getD, hqm]
        rw [e2] at this
        rw [e1, if_pos hqs.symm]
        exact ⟨this.1, hi _ _ (hs.op y)⟩
      · have e1 : (ms.modify s fun e => { e with val := a.eval y }).getD q default = ms.getD q default := by
          simp [Array.getD, hqm, Array.getElem_modify, Ne.symm hqs]
        rw [e1, if_neg (Ne.symm hqs)]
        exact ⟨this.1, hi _ _ this.2⟩

theorem Q_mapEntry {k e : TypeId} {ag : Bool} {n : Nat} {z : AV} (t : TypeId) (m x : Operand) [hm : TMap P t k e] [hk : TKey P k ag n] [hz : TZeroV P e z]
    (h : bindK (mpAV (st.op m)) fun id => bindK (mapOb (st.ob id)) fun q => bindK (keyInts ag (st.op x)) fun ks => q.1 = ag ∧ q.2.1 = n ∧ ks.length = n ∧ K 0 ⟨.tup [(assoc q.2.2 ks).getD z, .val (.int .i64 (idxM q.2.2 ks : Nat))], [(id, some (.map ag n (entM q.2.2 ks z)))]⟩) :
    AO P ⟨dst, .mapEntry t m x, ty, pos, af, g⟩ nid st K := by
  obtain ⟨id, h1, ⟨ag', n', l⟩, h2, ks, h3, h4, h5, h6, h7⟩ := h
  dsimp only at h4 h5 h7
  subst h4; subst h5
  exact ⟨0, _, opT_mapEntry t m x hm.out hk.out hz.out (mpAV_eq h1) (mapOb_eq h2) (keyInts_eq h3) h6, h7⟩
theorem Q_entryStore (t : TypeId) (m x y : Operand)
    (h : bindK (mpAV (st.op m)) fun id => bindK (mapOb (st.ob id)) fun q => bindK (intAV (st.op x)) fun s => 0 ≤ s ∧ s.toNat < q.2.2.length ∧ K 0 ⟨.any, [(id, some (.map q.1 q.2.1 (setM q.2.2 s.toNat (st.op y))))]⟩) :
    AO P ⟨dst, .entryStore t m x y, ty, pos, af, g⟩ nid st K := by
  obtain ⟨id, h1, ⟨ag', n', l⟩, h2, s, h3, h4, h5, h6⟩ := h
  obtain ⟨kk, h3⟩ := intAV_eq h3
  obtain ⟨q, rfl⟩ : ∃ q : Nat, s = q := ⟨s.toNat, by omega⟩
  rw [Int.toNat_natCast] at h5 h6
  exact ⟨0, _, opT_entryStore t m x y (mpAV_eq h1) (mapOb_eq h2) h3 h5, h6⟩
end
attribute [push_cast] idx_lt set_ent Int.toNat_natCast

/-! ### long rows of bools that are false -/
def vB (n : Nat) : List Value := List.replicate n (.bool false)
def fB (n : Nat) : List Bool := List.replicate n false
theorem vB_map {n : Nat} : (vB n).map ofV = cB (fB n) := by simp [vB, fB, cB, ofV]
theorem vB_len {n : Nat} : (vB n).length = n := by simp [vB]
theorem fB_len {n : Nat} : (fB n).length = n := by simp [fB]
theorem vB_all {n : Nat} : (vB n).all Value.oneCell' = true := by simp [vB, Value.oneCell']
theorem fB_get {n i : Nat} (h : i < n) : (fB n)[i]? = some false := by simp [fB, h]
attribute [push_cast] vB_map vB_len fB_len vB_all
theorem spl_0 {α : Type} {a v : α} {l vs : List α} : spl (a :: l) 0 (v :: vs) = v :: spl l 0 vs := by simp [spl]
theorem spl_1 {α : Type} {a : α} {l vs : List α} : spl (a :: l) 1 vs = a :: spl l 0 vs := by simp [spl, Nat.add_comm 1]
theorem spl_2 {α : Type} {a b : α} {l vs : List α} : spl (a :: b :: l) 2 vs = a :: b :: spl l 0 vs := by simp [spl, Nat.add_comm 2]
theorem spl_3 {α : Type} {a b c : α} {l vs : List α} : spl (a :: b :: c :: l) 3 vs = a :: b :: c :: spl l 0 vs := by simp [spl, Nat.add_comm 3]

/-! ### a struct of whole numbers and strings is equal to itself -/
def mixFields (P : Program) : Nat → List Field → Option (List (Option IntKind))
  | _, [] => some []
  | i, f :: fs => match mixFields P (i + 1) fs with
    | some ks => if f.offset = i ∧ f.name ≠ "_" then (match kindOf P f.type with
      | some k => some (some k :: ks)
      | none => if isStrB P f.type then some (none :: ks) else none) else none
    | none => none
def mixKs (P : Program) (t : TypeId) : Option (List (Option IntKind)) := match P.underlying t with
  | some (.struct fs) => if P.stoodInHeld t then none else mixFields P 0 fs.toList
  | _ => none
class TMix (P : Program) (t : TypeId) (ks : outParam (List (Option IntKind))) : Prop where
  out : mixKs P t = some ks
  gd : P.eqGuardType P.depth t = false
def okM : List (Option IntKind) → List AV → Bool
  | [], [] => true
  | some k :: ks, .val (.int k' _) :: l => k == k' && okM ks l
  | none :: ks, .val (.string _) :: l => okM ks l
  | _, _ => false
theorem okM_0 : okM [] [] = true := rfl
theorem okM_i {k k' : IntKind} {n : Int} {ks : List (Option IntKind)} {l : List AV} : okM (some k :: ks) (.val (.int k' n) :: l) = (k == k' && okM ks l) := rfl
theorem okM_s {s : ByteArray} {ks : List (Option IntKind)} {l : List AV} : okM (none :: ks) (.val (.string s) :: l) = okM ks l := rfl
theorem part_str {P : Program} {w : World} {t : TypeId} (h : isStrB P t = true) {cs : Array Value} {i : Nat} {v : Value} (hv : cs[i]? = some v) : (part t cs i).run P w = .ok v w := by
  have ha : isAggB P t = some false := by unfold isAggB; rw [run_isStrB h]; rfl
  obtain ⟨hlt, rfl⟩ := Array.getElem?_eq_some_iff.1 hv
  simp [part, run_isAggB ha, hlt]
theorem eqFields_self {P : Program} {d : Nat} {xs : Array Value} : ∀ (fs : List Field) (i : Nat) (ks : List (Option IntKind)) (cs : List AV) (w : World), mixFields P i fs = some ks → okM ks cs = true →
    (∀ j v, cs[j]? = some (.val v) → xs[i + j]? = some v) → (Op.eqFields (d + 1) xs xs fs).run P w = .ok true w := by
  intro fs
  induction fs with
  | nil => intro i ks cs w _ _ _; simp [Op.eqFields]
  | cons f fs ih =>
    intro i ks cs w h hc hx
    unfold mixFields at h
    split at h
    · rename_i ks' hks
      split at h
      · rename_i hcn
        split at h
        · rename_i k hk
          cases h
          match cs, hc, hx with
          | .val (.int k' n) :: cs, hc, hx =>
            rw [okM_i, Bool.and_eq_true] at hc
            have hkk : k = k' := by have := hc.1; cases k <;> cases k' <;> first | rfl | cases this
            subst hkk
            have e1 := part_int (w := w) hk (hx 0 _ rfl)
            simp only [Nat.add_zero] at e1
            have e3 := ih (i + 1) ks' cs w hks hc.2 (fun j v h2 => by have := hx (j + 1) v (by simpa using h2); rwa [show i + (j + 1) = i + 1 + j by omega] at this)
            have e4 : (Op.equalIn (d + 1) f.type (.int k n) (.int k n)).run P w = .ok (n == n) w := run_equalIn_int w d f.type k k n n (run_kindOf hk)
            simp only [Op.eqFields, if_pos hcn.2, Sem.run_bind, hcn.1, e1, Result.andThen_ok, e4]
            simp [e3]
        · split at h
          · rename_i hs
            cases h
            match cs, hc, hx with
            | .val (.string s) :: cs, hc, hx =>
              rw [okM_s] at hc
              have e1 := part_str (w := w) hs (hx 0 _ rfl)
              simp only [Nat.add_zero] at e1
              have e3 := ih (i + 1) ks' cs w hks hc (fun j v h2 => by have := hx (j + 1) v (by simpa using h2); rwa [show i + (j + 1) = i + 1 + j by omega] at this)
              have e4 : (Op.equalIn (d + 1) f.type (.string s) (.string s)).run P w = .ok (s.toList == s.toList) w := run_equalIn_string w d f.type s s (run_isStrB hs)
              simp only [Op.eqFields, if_pos hcn.2, Sem.run_bind, hcn.1, e1, Result.andThen_ok, e4]
              simp [e3]
          · cases h
      · cases h
    · cases h
section
variable {P : Program} {Q : Exit → Nat → St → Prop} {nid : Nat} {st : St} {dst : Option Nat} {ty : TypeId} {pos : String} {af : Array Edge} {g : Option (Nat × Bool)} {K : Nat → Eff → Prop}
theorem Q_neqSelf {ks : List (Option IntKind)} (t : TypeId) (x y : Operand) (t' : TypeId) [ht : TMix P t ks] (h : bindK (aggAV (st.op x)) fun cs => bindK (aggAV (st.op y)) fun ds => okM ks cs = true ∧ cs = ds ∧ K 0 ⟨.val (.bool false), []⟩) :
    AO P ⟨dst, .binOp .neq t x y t', ty, pos, af, g⟩ nid st K := by
  obtain ⟨cs, h1, ds, h2, h3, rfl, h5⟩ := h
  refine ⟨0, _, .pure fun c ρ D J a w hs => ?_, h5⟩
  have e1 := hs.op x; have e2 := hs.op y
  rw [aggAV_eq h1] at e1; rw [aggAV_eq h2] at e2
  have key : ∀ (ks : List (Option IntKind)) (cs : List AV), okM ks cs = true → ∀ j (h : j < cs.length), ∃ v, cs[j] = .val v := by
    intro ks
    induction ks with
    | nil => intro cs h j hj; cases cs with | nil => simp at hj | cons a l => cases h
    | cons k ks ih =>
      intro cs h j hj
      match k, cs, h with
      | some k, .val (.int k' n) :: cs, h =>
        rw [okM_i, Bool.and_eq_true] at h
        cases j with
        | zero => exact ⟨_, rfl⟩
        | succ j => exact ih cs h.2 j (by simpa using hj)
      | none, .val (.string s) :: cs, h =>
        rw [okM_s] at h
        cases j with
        | zero => exact ⟨_, rfl⟩
        | succ j => exact ih cs h j (by simpa using hj)
  have same : ∀ {u v : Value}, Rep w J ρ u (.agg cs) → Rep w J ρ v (.agg cs) → ∃ vs : Array Value, u = .agg vs ∧ v = .agg vs ∧ ∀ (j : Nat) (x : Value), cs[j]? = some (AV.val x) → vs[j]? = some x := by
    intro u v hu hv
    cases hu with
    | agg vs _ hs1 g1 =>
      cases hv with
      | agg us _ hs2 g2 =>
        have val : ∀ (vs : Array Value), vs.size = cs.length → (∀ j (h : j < cs.length), Rep w J ρ (vs.getD j undef) cs[j]) → ∀ (j : Nat) (x : Value), cs[j]? = some (AV.val x) → vs[j]? = some x := by
          intro vs hs g j x hj
          obtain ⟨hlt, he⟩ := List.getElem?_eq_some_iff.1 hj
          have := g j hlt
          rw [he] at this
          have e := rep_val_inv this
          have hj' : j < vs.size := by rw [hs]; exact hlt
          rw [Array.getElem?_eq_getElem hj', ← e]
          simp [Array.getD, hj']
        have h1 := val vs hs1 g1
        have h2 := val us hs2 g2
        refine ⟨vs, rfl, ?_, h1⟩
        congr 1
        apply Array.ext_getElem?
        intro j
        by_cases hj : j < cs.length
        · obtain ⟨x, hx⟩ := key ks cs h3 j hj
          have hx' : cs[j]? = some (.val x) := by rw [List.getElem?_eq_getElem hj, hx]
          rw [h1 j x hx', h2 j x hx']
        · rw [Array.getElem?_eq_none (by omega), Array.getElem?_eq_none (by omega)]
  obtain ⟨vs, k1, k2, k3⟩ := same e1 e2
  refine ⟨_, ?_, .val _⟩
  have heq : (Op.equalIn (9998 + 1 + 1) t (.agg vs) (.agg vs)).run P w = .ok true w := by
    have ho := ht.out
    unfold mixKs at ho
    split at ho
    · rename_i fs hu
      split at ho
      · cases ho
      · rename_i hst
        have hst' : P.stoodInHeld t = false := by simpa using hst
        have hf : P.fieldsOf t = fs := by unfold Program.fieldsOf; rw [hu]
        rw [run_equalIn_struct w (9998 + 1) t _ _ (by rw [hf]; exact hu) hst', hf]
        exact eqFields_self fs.toList 0 ks cs w ho h3 (fun j v hj => by rw [Nat.zero_add]; exact k3 j v hj)
    · cases ho
  have heq' : (Op.equalIn Op.maxDepth t (.agg vs) (.agg vs)).run P w = .ok true w := heq
  simp only [execOp, k1, k2, Sem.run_bind, run_eqGuard_agg w _ t x y _ _ ht.gd, Result.andThen_ok, binOp, Op.equal]
  simp [heq']
end
attribute [push_cast] okM_0 okM_i okM_s

/-! ### an array built in place -/
section
variable {P : Program} {Q : Exit → Nat → St → Prop} {nid : Nat} {st : St} {dst : Option Nat} {ty : TypeId} {pos : String} {af : Array Edge} {g : Option (Nat × Bool)} {K : Nat → Eff → Prop}
theorem opT_buildArr (t : TypeId) (ps : Array (Nat × Operand)) (zs : List Value) (n : Nat) (e : TypeId) (es : Nat) (out : List AV) (hz : zcells P t = some zs) (ha : arrOf P t = some (n, e)) (hs : siz P e = some es)
    (hf : fillAV (fun i => some (i * es, es)) (zs.map ofV) (ps.toList.map fun p => (p.1, st.op p.2)) = some out) : OpT P ⟨dst, .build t ps, ty, pos, af, g⟩ nid 0 st ⟨.agg out, []⟩ := .pure fun c ρ D J a w h => by
  obtain ⟨z, hr, hc⟩ := run_zcells (w := w) hz
  have hu := run_arrOf ha
  have h0 : VRep w J ρ z.cells (zs.map ofV) := by
    rw [hc]
    refine ⟨by simp, fun j hj => ?_⟩
    have hj' : j < zs.length := by simpa using hj
    simpa [Array.getD, hj'] using rep_ofV zs[j]
  obtain ⟨c', hfill, hv⟩ := fill_rep (w := w) (J := J) (ρ := ρ) (fun i => some (i * es, es)) (ps.toList.map fun p => (p.1, st.op p.2)) (ps.toList.map fun p => (p.1, a.eval p.2)) z.cells _ out h0 hf (by simp) (fun j hj => by
    have hj' : j < ps.toList.length := by simpa using hj
    have := h.op ps.toList[j].2
    simpa [List.getD_eq_getElem?_getD, List.getElem?_map, List.getElem?_eq_getElem hj'] using this)
  refine ⟨.agg c', ?_, .agg _ _ hv.1 hv.2⟩
  simp only [execOp, Instr.build, Sem.run_bind, hr, Result.andThen_ok, run_underlying hu, run_siz hs]
  have e1 : (Array.map (fun x => (x.1, a.eval x.2)) ps).toList = List.map (fun p => (p.1, a.eval p.2)) ps.toList := by simp
  simp [e1, hfill]
theorem Q_buildArr {zs : List Value} {n es : Nat} {e : TypeId} (t : TypeId) (ps : Array (Nat × Operand)) [hz : TZero P t zs] [ha : TArr P t n e] [hs : TSiz P e es]
    (h : bindK (fillAV (fun i => some (i * es, es)) (zs.map ofV) (ps.toList.map fun p => (p.1, st.op p.2))) fun out => K 0 ⟨.agg out, []⟩) : AO P ⟨dst, .build t ps, ty, pos, af, g⟩ nid st K := by
  obtain ⟨out, h1, h2⟩ := h
  exact ⟨_, _, opT_buildArr t ps zs n e es out hz.out ha.out hs.out h1, h2⟩
end
theorem renO_map {ag : Bool} {n : Nat} {l : List (List Int × AV)} {τ : Nat → Nat} : renO τ (.map ag n l) = .map ag n (l.map fun x => (x.1, ren τ x.2)) := rfl
theorem frzO_map {ag : Bool} {n id : Nat} {cs : List AV} {l : List (List Int × AV)} : frzO id cs (.map ag n l) = .map ag n (l.map fun x => (x.1, frzV id cs x.2)) := rfl
attribute [push_cast] renO_map frzO_map
/-- Lengths. -/
theorem lnz : (∀ {α : Type} {a : α} {l : List α}, (a :: l).length = l.length + 1) ∧ (∀ {α : Type}, ([] : List α).length = 0) ∧ (∀ l, (cS l).length = l.length) ∧ (∀ l, (cB l).length = l.length) ∧ (∀ k l, (cI k l).length = l.length) ∧
    (∀ {α : Type} {n : Nat} {a : α}, (List.replicate n a).length = n) ∧ (∀ {α β : Type} {f : α → β} {l : List α}, (l.map f).length = l.length) ∧ (∀ {α : Type} {l m : List α}, (l ++ m).length = l.length + m.length) ∧
    (∀ {α : Type} {l : List α} {i : Nat} {a : α}, (l.set i a).length = l.length) ∧ (∀ {α : Type} {l : List α} {i : Nat}, (l.take i).length = min i l.length) ∧ (∀ {α : Type} {l : List α} {i : Nat}, (l.drop i).length = l.length - i) ∧
    (∀ {α : Type} {l m : List α} {k : Nat}, (splR l k m).length = min k l.length + (m.length + (l.length - (k + m.length)))) :=
  ⟨rfl, rfl, cS_len, cB_len, fun _ => cI_len, List.length_replicate, List.length_map _, List.length_append, List.length_set, List.length_take, List.length_drop, splR_length⟩
/-- How a side goal is closed. -/
theorem vI {a : Prop} (h : a := by (first | omega | assumption | ((try clear hK); first | (simp; done) | (simp; omega) | (simp_all; done) | ((try simp); split <;> first | omega | (simp_all; done) | (simp_all; omega))))) : a := h
theorem aI {a b : Prop} (k : b) (h : a := by (first | omega | assumption | ((try clear hK); first | (simp; done) | (simp; omega) | (simp_all; done) | ((try simp); split <;> first | omega | (simp_all; done) | (simp_all; omega))))) : a ∧ b := ⟨h, k⟩
theorem vD {a : Prop} (h : a := by first | omega | assumption | (simp only [lnz]; done) | (simp only [lnz]; omega)) : a := h
end Go.Sy
