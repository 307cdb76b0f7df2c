/- TmP: Tm8 Tm9, merged. No condition. -/
import Derived.Test.YtabafldpnkjboaaDoorTm4
import Derived.Test.YtabafldpnkjboaaDoorTm6
import Derived.Test.YtabafldpnkjboaaDoorTm7
import Derived.Test.YtabafldpnkjboaaDoorBpB
import Derived.Test.YtabafldpnkjboaaDoorTm5
/- Tm8. -/
set_option linter.unusedVariables false
set_option linter.unusedSectionVars false
set_option linter.unusedSimpArgs false
set_option maxHeartbeats 4000000
set_option maxRecDepth 20000
namespace Go.Proofs.YtabafldpnkjboaaDoor
open Go Go.Sy Go.Bp Go.Dg
variable {n N M K S k i m r a b j w u v s q y d c : Nat} {z : Bool} {x : Ex} {t : Nd} {e : Int} {ms pl ks : List Int} {f : List Nat} {nd0 nds : List Nd} {h h' : Int → Bool} {A acc : List Bool}
theorem mem_lt : ∀ {k : Nat}, ∀ y ∈ mem s k, 0 ≤ y ∧ y < k := by
  intro k y hy
  rw [mem_N] at hy
  obtain ⟨i, hi, rfl⟩ := List.mem_map.1 hy
  have := (memN_mem.1 hi).1
  omega
theorem mem_nodup : ∀ k, (mem s k).Nodup := by
  intro k
  induction k with
  | zero => exact List.nodup_nil
  | succ k ih =>
    cases hb : s.testBit k with
    | false => rw [mem_f hb]; exact ih
    | true =>
      rw [mem_t hb, List.nodup_append]
      refine ⟨ih, by simp, fun a ha b hb2 e => ?_⟩
      rw [List.mem_singleton.1 hb2] at e
      have := mem_lt a ha
      omega
theorem mem_in (hi : i < k) (hb : s.testBit i = true) : (i : Int) ∈ mem s k := by
  rw [mem_N]; exact List.mem_map.2 ⟨i, memN_mem.2 ⟨hi, hb⟩, rfl⟩
theorem mem_bit (hy : y < k) : (y : Int) ∈ mem s k → s.testBit y = true := by
  intro h
  rw [mem_N] at h
  obtain ⟨i, hi, e⟩ := List.mem_map.1 h
  have : i = y := by omega
  subst this; exact (memN_mem.1 hi).2
structure MsOk (ms : List Int) (K : Nat) : Prop where
  len : ms.length = K
  rng : ∀ k, k < K → 0 ≤ ms.getD k default ∧ ms.getD k default < 12
  inj : ∀ i k, i < K → k < K → ms.getD i default = ms.getD k default → i = k
theorem plA_get (h : MsOk ms K) : ∀ k, k ≤ K → ∀ j, j < k → (plA ms k).getD (ms.getD j default).toNat default = (j : Int) := by
  intro k
  induction k with
  | zero => intro _ j hj; omega
  | succ k ih =>
    intro hk j hj
    have hr := h.rng k (by omega)
    have hrj := h.rng j (by omega)
    have hl := plA_len (ms := ms) (k := k)
    rw [plA_s, List.getD_eq_getElem?_getD, List.getElem?_set]
    by_cases e : j = k
    · subst e
      rw [if_pos rfl, if_pos (by omega)]; rfl
    · rw [if_neg (fun e2 => e (h.inj j k (by omega) (by omega) (by omega)))]
      have := ih (by omega) j (by omega)
      rw [List.getD_eq_getElem?_getD] at this; exact this
theorem srN_run : ∀ k, k ≤ ms.length → runA h [] (srN ms k) = (ms.take k).map h := by
  intro k
  induction k with
  | zero => intro _; rfl
  | succ k ih =>
    intro hk
    rw [srN_s (by omega), runA_app, ih (by omega)]
    have e : ms.take (k + 1) = ms.take k ++ [ms.getD k default] := by
      rw [List.take_add_one, List.getD_eq_getElem?_getD, List.getElem?_eq_getElem (by omega)]; rfl
    rw [e, List.map_append]
    show _ ++ [evN h _ _] = _
    congr 1
    simp [evN]
def subA (h : Int → Bool) (s : Nat) : Bool := (mem s 16).all h
theorem gdA (hi : i < A.length) : (A ++ acc).getD i false = A.getD i false := by
  rw [List.getD_eq_getElem?_getD, List.getElem?_append_left hi, ← List.getD_eq_getElem?_getD]
structure SOk (ms : List Int) (s : Nat) : Prop where
  pos : 0 < memL s 16
  mem : ∀ y ∈ mem s 16, ∃ k, k < ms.length ∧ ms.getD k default = y
structure JOk (h : Int → Bool) (ms : List Int) (f : List Nat) (j : Nat) (R : List Nd × List Int) : Prop where
  srv : ∀ k, k < ms.length → (runA h [] R.1).getD k false = h (ms.getD k default)
  lenT : R.2.length = j
  lenN : ms.length ≤ R.1.length ∧ R.1.length ≤ ms.length + j
  top : ∀ i, i < j → 0 ≤ R.2.getD i default ∧ R.2.getD i default < R.1.length ∧ (runA h [] R.1).getD (R.2.getD i default).toNat false = subA h (f.getD i default)
  ok : AllOk R.1
  nz : ∀ t ∈ R.1, t.w = [] ∧ (t.kz = true → t.k = []) ∧ t.k.length ≤ 16
  sv : ∀ t ∈ R.1, t.kind = 1 → t.server ∈ ms
  ky : ∀ k, k < ms.length → (R.1.getD k default).kind = 1 ∧ (R.1.getD k default).server = ms.getD k default
theorem AllOk_snoc (ha : AllOk nds) (ht : NOk t nds.length) : AllOk (nds ++ [t]) := by
  intro i hi
  rw [List.length_append, List.length_singleton] at hi
  rcases Nat.lt_or_eq_of_le (Nat.le_of_lt_succ hi) with h1 | h1
  · rw [List.getD_eq_getElem?_getD, List.getElem?_append_left h1, ← List.getD_eq_getElem?_getD]; exact ha i h1
  · subst h1
    rw [List.getD_eq_getElem?_getD, List.getElem?_append_right (Nat.le_refl _), Nat.sub_self]; exact ht
theorem srN_mem (hm : MsOk ms K) : AllOk (srN ms ms.length) ∧ (∀ t ∈ srN ms ms.length, t.w = [] ∧ (t.kz = true → t.k = []) ∧ t.k.length ≤ 16 ∧ (t.kind = 1 → t.server ∈ ms)) ∧ ∀ k, k < ms.length → ((srN ms ms.length).getD k default).kind = 1 ∧ ((srN ms ms.length).getD k default).server = ms.getD k default := by
  have e : srN ms ms.length = ms.map fun m => ⟨1, m, 0, true, [], true, []⟩ := by unfold srN; rw [List.take_length]
  have hg : ∀ k, k < ms.length → (srN ms ms.length).getD k default = ⟨1, ms.getD k default, 0, true, [], true, []⟩ := fun k hk => by
    rw [e, List.getD_eq_getElem?_getD, List.getElem?_map, List.getElem?_eq_getElem hk, List.getD_eq_getElem?_getD, List.getElem?_eq_getElem hk]; rfl
  refine ⟨fun i hi => ?_, fun t ht => ?_, fun k hk => by rw [hg k hk]; exact ⟨rfl, rfl⟩⟩
  · rw [srN_len (Nat.le_refl _)] at hi
    have := hm.rng i (by rw [← hm.len]; exact hi)
    rw [hg i hi]
    exact ⟨.inl rfl, this, fun _ => ⟨rfl, rfl, rfl⟩, fun h => absurd (show (1 : Int) = 2 from h) (by decide), ⟨Int.le_refl _, (by decide : (0 : Int) ≤ 100000)⟩, fun w hw => (nomatch hw), fun h => absurd rfl h, fun k hk => (nomatch hk)⟩
  · rw [e] at ht
    obtain ⟨m, hm2, rfl⟩ := List.mem_map.1 ht
    exact ⟨rfl, fun _ => rfl, Nat.zero_le _, fun _ => hm2⟩
theorem JOk.zero (hm : MsOk ms K) : JOk h ms f 0 (srN ms ms.length, []) := by
  obtain ⟨h1, h2, h3⟩ := srN_mem hm
  have hl := srN_len (ms := ms) (Nat.le_refl _)
  refine ⟨fun k hk => ?_, rfl, by dsimp only; omega, fun i hi => absurd hi (by omega), h1, fun t ht => ⟨(h2 t ht).1, (h2 t ht).2.1, (h2 t ht).2.2.1⟩, fun t ht => (h2 t ht).2.2.2, h3⟩
  show (runA h [] (srN ms ms.length)).getD k false = _
  rw [srN_run _ (Nat.le_refl _), List.take_length, List.getD_eq_getElem?_getD, List.getElem?_map, List.getElem?_eq_getElem hk, List.getD_eq_getElem?_getD, List.getElem?_eq_getElem hk]; rfl
theorem kid_val (hm : MsOk ms K) (hj : JOk h ms f j (nds, ks)) (hy : e ∈ mem s 16) (hs : SOk ms s) :
    0 ≤ (plA ms ms.length).getD e.toNat default ∧ (plA ms ms.length).getD e.toNat default < nds.length ∧ (runA h [] nds).getD ((plA ms ms.length).getD e.toNat default).toNat false = h e := by
  obtain ⟨k, hk, rfl⟩ := hs.mem e hy
  rw [plA_get hm ms.length (by rw [hm.len]; exact Nat.le_refl _) k hk]
  have h1 : ms.length ≤ nds.length := hj.lenN.1
  have h2 : (runA h [] nds).getD k false = _ := hj.srv k hk
  exact ⟨by omega, by omega, h2⟩
theorem kd_val (hm : MsOk ms K) (hj : JOk h ms f j (nds, ks)) (hs : SOk ms s) : (kdL (plA ms ms.length) s (memL s 16)).map (fun y => (runA h [] nds).getD y.toNat false) = (mem s 16).map h := by
  have e : (mem s 16).take (memL s 16) = mem s 16 := List.take_of_length_le (Nat.le_refl _)
  unfold kdL
  rw [e, List.map_map]
  exact List.map_congr_left fun y hy => (kid_val hm hj hy hs).2.2
theorem kd_mem (hm : MsOk ms K) (hj : JOk h ms f j (nds, ks)) (hs : SOk ms s) : ∀ y ∈ kdL (plA ms ms.length) s (memL s 16), 0 ≤ y ∧ y < nds.length := by
  intro y hy
  unfold kdL at hy
  obtain ⟨m, hm2, rfl⟩ := List.mem_map.1 hy
  have := kid_val hm hj (List.mem_of_mem_take hm2) hs
  exact ⟨this.1, this.2.1⟩
theorem all_map {α : Type} (l : List α) (g : α → Bool) : (l.map g).all id = l.all g := by rw [List.all_map]; rfl
theorem evN_thr (hk : t.kind = 2) (hw : t.w = []) : evN h A t = decide (t.need ≤ (cnt (t.k.map fun y => A.getD y.toNat false) : Nat)) := by
  unfold evN
  rw [gotA_one t hw, hk]; simp
theorem JOk.step (hm : MsOk ms K) (hj : JOk h ms f j (ofJ (plA ms ms.length) (srN ms ms.length) f j)) (hs : SOk ms (f.getD j default)) : JOk h ms f (j + 1) (ofJ (plA ms ms.length) (srN ms ms.length) f (j + 1)) := by
  obtain ⟨s, hse⟩ : ∃ s, f.getD j default = s := ⟨_, rfl⟩
  have hl16 := memL_le (s := s) (j := 16)
  have o1 := ofJ_1 (pl := plA ms ms.length) (nd0 := srN ms ms.length) (f := f) (j := j)
  have o2 := ofJ_2 (pl := plA ms ms.length) (nd0 := srN ms ms.length) (f := f) (j := j)
  rw [hse] at hs o1 o2
  generalize ofJ (plA ms ms.length) (srN ms ms.length) f j = R at hj o1 o2
  obtain ⟨nds, ts⟩ := R
  have hp := hs.pos
  have hlT : ts.length = j := hj.lenT
  have hlN : ms.length ≤ nds.length ∧ nds.length ≤ ms.length + j := hj.lenN
  have htop : ∀ i, i < j → 0 ≤ ts.getD i default ∧ ts.getD i default < nds.length ∧ (runA h [] nds).getD (ts.getD i default).toNat false = subA h (f.getD i default) := hj.top
  have hrl : (runA h [] nds).length = nds.length := by rw [runA_len]; simp
  have gt : ∀ {c : Int} {i}, i < j → (ts ++ [c]).getD i default = ts.getD i default := fun {c i} hi => by
    rw [List.getD_eq_getElem?_getD, List.getElem?_append_left (by omega), ← List.getD_eq_getElem?_getD]
  have gl : ∀ {c : Int}, (ts ++ [c]).getD j default = c := fun {c} => by
    rw [List.getD_eq_getElem?_getD, List.getElem?_append_right (by omega), hlT, Nat.sub_self]; rfl
  by_cases h1 : memL s 16 = 1
  · rw [o1 h1]
    obtain ⟨m0, hm0⟩ : ∃ m0, mem s 16 = [m0] := List.length_eq_one_iff.1 h1
    have hk1 : (kdL (plA ms ms.length) s 1).getD 0 default = (plA ms ms.length).getD m0.toNat default := by unfold kdL; rw [hm0]; rfl
    have hkv := kid_val hm hj (e := m0) (s := s) (by rw [hm0]; simp) hs
    refine ⟨hj.srv, by simp [hlT], by simp only; omega, fun i hi => ?_, hj.ok, hj.nz, hj.sv, hj.ky⟩
    dsimp only
    rcases Nat.lt_or_eq_of_le (Nat.le_of_lt_succ hi) with h2 | h2
    · rw [gt h2]; exact htop i h2
    · subst h2
      rw [gl, hk1, hse]
      refine ⟨hkv.1, hkv.2.1, ?_⟩
      rw [hkv.2.2]; unfold subA; rw [hm0]; simp
  · rw [o2 h1]
    have hkm := kd_mem hm hj hs
    have hkv := kd_val hm hj hs
    have hkl : (kdL (plA ms ms.length) s (memL s 16)).length = memL s 16 := kdL_len (Nat.le_refl _)
    generalize hkd : kdL (plA ms ms.length) s (memL s 16) = kd at *
    have hnt : NOk ⟨2, 0, memL s 16, true, [], false, kd⟩ nds.length := ⟨.inr rfl, ⟨Int.le_refl _, (by decide : (0 : Int) < 12)⟩, fun h => absurd (show (2 : Int) = 1 from h) (by decide), fun _ => rfl, (by show (0 : Int) ≤ (memL s 16 : Nat) ∧ ((memL s 16 : Nat) : Int) ≤ 100000; omega), fun w hw => (nomatch hw), fun h => absurd rfl h, hkm⟩
    have hev : evN h (runA h [] nds) ⟨2, 0, memL s 16, true, [], false, kd⟩ = subA h s := by
      rw [evN_thr rfl rfl]
      show decide (((memL s 16 : Nat) : Int) ≤ (cnt (kd.map fun y => (runA h [] nds).getD y.toNat false) : Nat)) = _
      rw [hkv]
      have := cnt_all ((mem s 16).map h)
      rw [List.length_map] at this
      unfold memL; rw [this, all_map]; rfl
    have hrun : runA h [] (nds ++ [⟨2, 0, memL s 16, true, [], false, kd⟩]) = runA h [] nds ++ [subA h s] := by
      rw [runA_app]; show _ ++ [evN h _ _] = _; rw [hev]
    refine ⟨fun k hk => ?_, by simp [hlT], by simp only [List.length_append, List.length_singleton]; omega, fun i hi => ?_, AllOk_snoc hj.ok hnt, fun t ht => ?_, fun t ht hk => ?_, fun k hk => ?_⟩
    · show (runA h [] (nds ++ [_])).getD k false = _
      rw [hrun, gdA (by omega)]; exact hj.srv k hk
    · dsimp only
      rw [hrun, List.length_append, List.length_singleton]
      rcases Nat.lt_or_eq_of_le (Nat.le_of_lt_succ hi) with h2 | h2
      · rw [gt h2]
        obtain ⟨a1, a2, a3⟩ := htop i h2
        exact ⟨a1, by omega, by rw [gdA (by omega)]; exact a3⟩
      · subst h2
        rw [gl, hse]
        refine ⟨by omega, by omega, ?_⟩
        rw [List.getD_eq_getElem?_getD, List.getElem?_append_right (by omega), hrl]
        simp
    · rcases List.mem_append.1 ht with h2 | h2
      · exact hj.nz t h2
      · rw [List.mem_singleton.1 h2]; exact ⟨rfl, fun h => (by cases h), by show kd.length ≤ 16; omega⟩
    · rcases List.mem_append.1 ht with h2 | h2
      · exact hj.sv t h2 hk
      · rw [List.mem_singleton.1 h2] at hk; exact absurd (show (2 : Int) = 1 from hk) (by decide)
    · have : (nds ++ [(⟨2, 0, memL s 16, true, [], false, kd⟩ : Nd)]).getD k default = nds.getD k default := by
        rw [List.getD_eq_getElem?_getD, List.getElem?_append_left (by omega), ← List.getD_eq_getElem?_getD]
      show ((nds ++ [_]).getD k default).kind = 1 ∧ ((nds ++ [_]).getD k default).server = _
      rw [this]; exact hj.ky k hk
theorem JOk.all (hm : MsOk ms K) (hs : ∀ j, j < f.length → SOk ms (f.getD j default)) : ∀ j, j ≤ f.length → JOk h ms f j (ofJ (plA ms ms.length) (srN ms ms.length) f j) := by
  intro j
  induction j with
  | zero => intro _; exact JOk.zero hm
  | succ j ih => intro hj; exact JOk.step hm (ih (by omega)) (hs j (by omega))
structure XfOk (h : Int → Bool) (ms : List Int) (f : List Nat) (x : Ex) : Prop where
  ok : XOk x
  nz : ∀ t ∈ x.nodes, t.w = [] ∧ (t.kz = true → t.k = []) ∧ t.k.length ≤ 20
  sv : ∀ t ∈ x.nodes, t.kind = 1 → t.server ∈ ms
  ky : ∀ k, k < ms.length → (x.nodes.getD k default).kind = 1 ∧ (x.nodes.getD k default).server = ms.getD k default
  hd : hold h x = f.any (subA h)
  ln : ms.length ≤ x.nodes.length
theorem ts_map (hT : ks.length = f.length) (ht : ∀ i, i < f.length → A.getD (ks.getD i default).toNat false = subA h (f.getD i default)) : ks.map (fun y => A.getD y.toNat false) = f.map (subA h) := by
  apply List.ext_getElem
  · simp [hT]
  · intro i h1 h2
    rw [List.length_map] at h1 h2
    have := ht i h2
    rw [List.getElem_map, List.getElem_map]
    rw [List.getD_eq_getElem?_getD (l := ks), List.getElem?_eq_getElem h1, List.getD_eq_getElem?_getD (l := f), List.getElem?_eq_getElem h2] at this
    exact this
theorem xof_fine (hm : MsOk ms K) (hK : K ≤ 12) (hs : ∀ j, j < f.length → SOk ms (f.getD j default)) (hl : f.length ≤ 20) : XfOk h ms f (xofX ms f) := by
  have hj := JOk.all (h := h) hm hs f.length (Nat.le_refl _)
  have hKl := hm.len
  by_cases h1 : f.length = 1
  · rw [xofX_1 h1]
    unfold xofR
    generalize ofJ (plA ms ms.length) (srN ms ms.length) f f.length = R at hj
    obtain ⟨nds, ts⟩ := R
    obtain ⟨a1, a2, a3⟩ := hj.top 0 (by omega)
    have a2 : ts.getD 0 default < nds.length := a2
    have a1 : 0 ≤ ts.getD 0 default := a1
    have hlN : ms.length ≤ nds.length ∧ nds.length ≤ ms.length + f.length := hj.lenN
    refine ⟨⟨by show 0 < nds.length; omega, by show nds.length ≤ 60; omega, hj.ok, ⟨a1, a2⟩⟩, fun t ht => ⟨(hj.nz t ht).1, (hj.nz t ht).2.1, by have := (hj.nz t ht).2.2; omega⟩, hj.sv, hj.ky, ?_, hlN.1⟩
    obtain ⟨f0, hf0⟩ : ∃ f0, f = [f0] := List.length_eq_one_iff.1 h1
    show (runA h [] nds).getD (ts.getD 0 default).toNat false = _
    have a3 : (runA h [] nds).getD (ts.getD 0 default).toNat false = _ := a3
    rw [a3, hf0]; simp
  · rw [xofX_2 h1]
    unfold xofR
    generalize ofJ (plA ms ms.length) (srN ms ms.length) f f.length = R at hj
    obtain ⟨nds, ts⟩ := R
    have hlN : ms.length ≤ nds.length ∧ nds.length ≤ ms.length + f.length := hj.lenN
    have hlT : ts.length = f.length := hj.lenT
    have htop : ∀ i, i < f.length → 0 ≤ ts.getD i default ∧ ts.getD i default < nds.length ∧ (runA h [] nds).getD (ts.getD i default).toNat false = subA h (f.getD i default) := hj.top
    have htm : ∀ y ∈ ts, 0 ≤ y ∧ y < nds.length := fun y hy => by
      obtain ⟨i, hi, rfl⟩ := List.getElem_of_mem hy
      have := htop i (by omega)
      rw [List.getD_eq_getElem?_getD, List.getElem?_eq_getElem hi] at this
      exact ⟨this.1, this.2.1⟩
    have hnt : NOk ⟨2, 0, 1, true, [], f.length == 0, ts⟩ nds.length := ⟨.inr rfl, ⟨Int.le_refl _, (by decide : (0 : Int) < 12)⟩, fun h => absurd (show (2 : Int) = 1 from h) (by decide), fun _ => rfl, (by show (0 : Int) ≤ 1 ∧ (1 : Int) ≤ 100000; decide), fun w hw => (nomatch hw), fun h => absurd rfl h, htm⟩
    have hrl : (runA h [] nds).length = nds.length := by rw [runA_len]; simp
    refine ⟨⟨by show 0 < (nds ++ [_]).length; simp, by show (nds ++ [_]).length ≤ 60; simp; omega, AllOk_snoc hj.ok hnt, ⟨by show (0 : Int) ≤ nds.length; omega, by show (nds.length : Int) < (nds ++ [_]).length; simp; omega⟩⟩, fun t ht => ?_, fun t ht hk => ?_, fun k hk => ?_, ?_, by show ms.length ≤ (nds ++ [_]).length; simp; omega⟩
    · rcases List.mem_append.1 ht with h2 | h2
      · exact ⟨(hj.nz t h2).1, (hj.nz t h2).2.1, by have := (hj.nz t h2).2.2; omega⟩
      · rw [List.mem_singleton.1 h2]
        refine ⟨rfl, fun h => ?_, by show ts.length ≤ 20; omega⟩
        have : f.length = 0 := by simpa using h
        exact List.length_eq_zero_iff.1 (by show ts.length = 0; omega)
    · rcases List.mem_append.1 ht with h2 | h2
      · exact hj.sv t h2 hk
      · rw [List.mem_singleton.1 h2] at hk; exact absurd (show (2 : Int) = 1 from hk) (by decide)
    · have e : (nds ++ [(⟨2, 0, 1, true, [], f.length == 0, ts⟩ : Nd)]).getD k default = nds.getD k default := by
        rw [List.getD_eq_getElem?_getD, List.getElem?_append_left (by omega), ← List.getD_eq_getElem?_getD]
      show ((nds ++ [_]).getD k default).kind = 1 ∧ ((nds ++ [_]).getD k default).server = _
      rw [e]; exact hj.ky k hk
    · show (runA h [] (nds ++ [_])).getD ((nds.length : Nat) : Int).toNat false = _
      rw [runA_app]
      show (runA h [] nds ++ [evN h _ _]).getD _ false = _
      rw [Int.toNat_natCast, List.getD_eq_getElem?_getD, List.getElem?_append_right (by omega), hrl, Nat.sub_self]
      show evN h (runA h [] nds) _ = _
      rw [evN_thr rfl rfl]
      show decide ((1 : Int) ≤ (cnt (ts.map fun y => (runA h [] nds).getD y.toNat false) : Nat)) = _
      rw [cnt_any, ts_map hlT fun i hi => (htop i hi).2.2, List.any_map]; rfl
end Go.Proofs.YtabafldpnkjboaaDoor
/- Tm9. -/
set_option linter.unusedVariables false
set_option linter.unusedSectionVars false
set_option linter.unusedSimpArgs false
set_option maxHeartbeats 4000000
set_option maxRecDepth 20000
namespace Go.Proofs.YtabafldpnkjboaaDoor
open Go Go.Sy Go.Bp Go.Dg
attribute [local irreducible] AO AL AC OpT ACall Ends DGo DRun Thn Blk Nxt
variable {n N M K S k i m r a b j w u v s q y d c : Nat} {z : Bool} {x : Ex} {t : Nd} {e : Int} {ms pl ks : List Int} {f : List Nat} {nd0 nds : List Nd} {h h' : Int → Bool} {A acc : List Bool}
def xoZ (z : Bool) (j : {j : Nat // j = 0}) : St :=
  ⟨110, 0, [(2,.pt 0 0), (3,.val (.int .i64 0)), (5,.pt 1 0), (6,.pt 2 0), (9,.isl true [] 0), (41,.isl z [] 0), (42,.val (.int .i64 0)), (43,.val (.int .i64 0))],
   [(0, some (.cells [.isl true [] 0, .val (.int .i64 0)] 31)), (1, some (.cells [.isl true [] 0, .val (.int .i64 0)] 31)), (2, some (.cells (cI .i64 (plA [] 0)) 59))]⟩
def xoY (z : Bool) (zm : Bool) (k : {k : Nat // k = 0}) : St :=
  ⟨110, 0, [(0,.isl z [] 0), (2,.pt 0 0), (3,.val (.int .i64 0)), (5,.pt 1 0), (6,.pt 2 0), (23,.isl zm [] 0), (24,.val (.int .i64 0)), (25,.val (.int .i64 0))],
   [(0, some (.cells [.isl true [] 0, .val (.int .i64 0)] 31)), (1, some (.cells [.isl true [] 0, .val (.int .i64 0)] 31)), (2, some (.cells (cI .i64 (plA [] 0)) 59))]⟩
theorem xof_nil : ACall Tryd.prog 6 [.isl z [] 0] [] 0 (.tup [.agg (Cells.cells (xofX [] [])), .val (.int .i64 0)]) [] := by
  have hva := PLift.up (fvalid_ok (z := z) (xs := []) (n := 0) rfl (by omega))
  have hsu := PLift.up (support_ok (z := z) (xs := []) (n := 0) rfl (by omega))
  have hmm := PLift.up (ms_ok (s := 0))
  have e1 : famE [] = 0 := rfl
  have e2 : supA [] 0 = 0 := rfl
  have e3 : mem 0 16 = [] := by decide
  have e4 : memL 0 16 = 0 := by decide
  rw [e1, cX_nil] at hva
  rw [e2, cX_nil] at hsu
  rw [e3, e4, cI_nil] at hmm
  have ex : xofX [] [] = ⟨false, [⟨2, 0, 1, true, [], true, []⟩], 0⟩ := rfl
  rw [ex, ex_cells]
  clear e1 e2 e3 e4 ex
  refine ACall.enter Tryd.func6 rfl (by simp [Tryd.ntmps6]) (by simp) ?_; simp only [entry, idx, Tryd.ntmps6, List.length, List.map_cons, List.map_nil, List.append_nil, List.cons_append, List.nil_append, Nat.reduceAdd, Nat.zero_add, List.length_cons, List.length_nil]
  repeat' (first | (refine AC_loop_id ?_; refine AC_loop' [0, 1, 2] ([0, 1, 2].length) (xoZ z) (fun k => k.val) (⟨0, rfl⟩) rfl (by unfold xoZ; (try simp only [List.cons_append, List.nil_append]); refine Sub.mk2 ?_; (simp -dsimp (disch := try exact vD) only [push_cast, simprocAttr, plA_c0, cX_nil]); (repeat refine aI ?_); first | done | exact vI) ?_; (rintro ⟨k, hk⟩; (simp -dsimp (disch := try exact vD) only [push_cast, simprocAttr, xoZ]))) | (refine AC_loop_id ?_; refine AC_loop' [0, 1, 2] ([0, 1, 2].length) (xoY z true) (fun k => k.val) (⟨0, rfl⟩) rfl (by unfold xoY; (try simp only [List.cons_append, List.nil_append]); refine Sub.mk2 ?_; (simp -dsimp (disch := try exact vD) only [push_cast, simprocAttr, plA_c0, cX_nil]); (repeat refine aI ?_); first | done | exact vI) ?_; (rintro ⟨k, hk⟩; (simp -dsimp (disch := try exact vD) only [push_cast, simprocAttr, xoY]))) | apply AC_seq | apply AC_region_lit | ((first | refine AL_go rfl (fun K hK => ?_) | refine AL_go0 (fun K hK => ?_)); (first | refine R_callG (f := 20) [] 0 false ?_ | refine R_callG (f := 22) [] 0 false ?_ | refine R_callG (f := 21) [] 0 false ?_); simp -dsimp (disch := try exact vD) only [push_cast, simprocAttr, plA_c0, cX_nil]; (repeat refine aI ?_); intro G hG; refine hG _ _ ?_; clear hG G; (first | refine ⟨_, _, hva.down, ?_⟩ | refine ⟨_, _, hsu.down, ?_⟩ | refine ⟨_, _, hmm.down, ?_⟩); simp -dsimp (disch := try exact vD) only [push_cast, simprocAttr, plA_c0, cX_nil]; (repeat refine aI ?_); apply hK; clear hK K) | ((first | refine AL_go rfl (fun K hK => ?_) | refine AL_go0 (fun K hK => ?_)); (first | apply R_move | apply R_assign | apply Q_load | apply Q_loadAgg | apply Q_fieldAddr | apply Q_indexAddr | apply Q_indexArr | apply Q_len | apply Q_lenStr | apply R_alloc | apply Q_store | apply Q_build | apply Q_buildArr | apply Q_buildSlice | apply Q_eqAgg | apply Q_neqAgg | apply Q_neqSelf | apply Q_bin | apply Q_appendNil); simp -dsimp (disch := try exact vD) only [push_cast, simprocAttr, plA_c0, cX_nil]; (repeat refine aI ?_); apply hK; clear hK K) | ((first | refine AL_go rfl (fun K hK => ?_) | refine AL_go0 (fun K hK => ?_)); (first | apply Q_append); simp -dsimp (disch := try exact vD) only [push_cast, simprocAttr, plA_c0, cX_nil]; (repeat refine aI ?_); apply hK; clear hK K) | ((first | refine AL_go rfl (fun K hK => ?_) | refine AL_go0 (fun K hK => ?_)); (first | apply Q_append00); simp -dsimp (disch := try exact vD) only [push_cast, simprocAttr, plA_c0, cX_nil]; (repeat refine aI ?_); apply hK; clear hK K) | ((first | refine AL_go rfl (fun K hK => ?_) | refine AL_go0 (fun K hK => ?_)); (first | apply Q_appendIn); simp -dsimp (disch := try exact vD) only [push_cast, simprocAttr, plA_c0, cX_nil]; (repeat refine aI ?_); apply hK; clear hK K) | ((first | refine AL_guard rfl rfl (fun K1 K2 h1 h2 => ?_) rfl | refine AC_cond_k (fun K1 K2 h1 h2 => ?_)); simp -dsimp (disch := try exact vD) only [push_cast, simprocAttr, plA_c0, cX_nil]; (first | (refine ⟨fun hc => ?_, fun hc => ?_⟩ <;> first | (exfalso; omega) | (exfalso; contradiction) | refine h1 ?_ | refine h2 ?_) | refine h1 ?_ | refine h2 ?_); all_goals clear h1 h2 K1 K2) | apply AL_nil | apply Thn_normal | apply Thn_ret | apply Thn_exit | apply Blk_normal | apply Blk_ret | apply Blk_here | (refine Blk_other rfl ?_) | apply AC_block | apply AC_exit | apply AC_skip | apply AC_ret)
  all_goals first
    | (((refine Ends.frz 4 ?_; simp -dsimp (disch := try exact vD) only [push_cast, simprocAttr, Tryd.f6, nd_cells, cR_one, cI_nil]; (repeat refine aI ?_); intro K hK; refine hK _ _ ?_; clear hK K); refine Ends.mk2 (by first | exact .inr rfl | exact .inl rfl) [] ?_; simp -dsimp (disch := try exact vD) only [push_cast, simprocAttr, Tryd.f6, nd_cells, cR_one, cI_nil]; (repeat refine aI ?_); try (first | exact vI | fail)); done)
    | trace_state
theorem wt_du (k : Nat) : wt (duN t) k = wt t k := rfl
theorem gotA_not : ∀ (ks : List Int) (k : Nat), (∀ y ∈ ks, y.toNat < A.length) → gotA (duN t) (A.map not) k ks + gotA t A k ks = wtS t (k + ks.length) - wtS t k := by
  intro ks
  induction ks with
  | nil => intro k _; simp [gotA]
  | cons y ks ih =>
    intro k hk
    have hy : y.toNat < A.length := hk y (by simp)
    have := ih (k + 1) fun y hy => hk y (by simp [hy])
    have e : (A.map not).getD y.toNat false = !A.getD y.toNat false := by
      rw [List.getD_eq_getElem?_getD, List.getElem?_map, List.getElem?_eq_getElem hy, List.getD_eq_getElem?_getD, List.getElem?_eq_getElem hy]; rfl
    simp only [gotA, e, wt_du, List.length_cons]
    rw [show k + (ks.length + 1) = k + 1 + ks.length by omega]
    have hs : wtS t (k + 1) = wtS t k + wt t k := rfl
    cases A.getD y.toNat false <;> simp <;> omega
theorem gotA_nn (hn : NOk t i) : ∀ (ks : List Int) (k : Nat), k + ks.length ≤ t.k.length → 0 ≤ gotA t A k ks := by
  intro ks
  induction ks with
  | nil => intro k _; exact Int.le_refl _
  | cons y ks ih =>
    intro k hk
    rw [List.length_cons] at hk
    have := ih (k + 1) (by omega)
    have := wt_rng hn (q := k) (by omega)
    simp only [gotA]
    split <;> omega
theorem evN_du (hn : NOk t A.length) (hh : t.kind = 1 → h' t.server = !h t.server) : evN h' (A.map not) (duN t) = !evN h A t := by
  rcases hn.kind with hk | hk
  · have h1 : (duN t).kind = 1 := hk
    have h2 : ¬ t.kind = 2 := by omega
    have h3 : ¬ (duN t).kind = 2 := h2
    unfold evN
    rw [decide_eq_true hk, decide_eq_true h1, decide_eq_false h2, decide_eq_false h3]
    show (true && h' t.server || _) = _
    rw [hh hk]; simp
  · have h1 : ¬ t.kind = 1 := by omega
    have h2 : ¬ (duN t).kind = 1 := h1
    have h3 : (duN t).kind = 2 := hk
    have hg := gotA_not (t := t) (A := A) t.k 0 fun y hy => by have := hn.ks y hy; omega
    have hg1 := gotA_nn (A := A) hn t.k 0 (by omega)
    have hg2 : 0 ≤ gotA (duN t) (A.map not) 0 t.k := by
      have key : ∀ (ks : List Int) (k : Nat), k + ks.length ≤ t.k.length → 0 ≤ gotA (duN t) (A.map not) k ks := by
        intro ks
        induction ks with
        | nil => intro k _; exact Int.le_refl _
        | cons y ks ih =>
          intro k hk
          rw [List.length_cons] at hk
          have := ih (k + 1) (by omega)
          have := wt_rng hn (q := k) (by omega)
          simp only [gotA, wt_du]
          split <;> omega
      exact key t.k 0 (by omega)
    have e0 : wtS t 0 = 0 := rfl
    have ek : (duN t).k = t.k := rfl
    have en : (duN t).need = max 0 (wtS t t.k.length - t.need + 1) := by rw [duN_2 hk]
    unfold evN
    rw [decide_eq_false h1, decide_eq_false h2, decide_eq_true hk, decide_eq_true h3, ek, en]
    simp only [Bool.false_and, Bool.false_or, Bool.true_and]
    rw [Nat.zero_add, e0] at hg
    rw [← decide_not]
    exact decide_eq_decide.2 ⟨fun h => by omega, fun h => by omega⟩
theorem du_run : ∀ (nds : List Nd) (A : List Bool), (∀ j, j < nds.length → NOk (nds.getD j default) (A.length + j) ∧ ((nds.getD j default).kind = 1 → h' (nds.getD j default).server = !h (nds.getD j default).server)) → runA h' (A.map not) (nds.map duN) = (runA h A nds).map not := by
  intro nds
  induction nds with
  | nil => intro A _; rfl
  | cons t nds ih =>
    intro A hj
    have h0 := hj 0 (by simp)
    have e := evN_du (t := t) (h := h) (h' := h') (A := A) h0.1 h0.2
    simp only [List.map_cons, runA]
    rw [e, show A.map not ++ [!evN h A t] = (A ++ [evN h A t]).map not by simp]
    refine ih _ fun j hjl => ?_
    have := hj (j + 1) (by rw [List.length_cons]; omega)
    rw [List.length_append, List.length_singleton, Nat.add_assoc, Nat.add_comm 1 j]
    exact this
theorem du_hold (hx : XOk x) (hs : ∀ t ∈ x.nodes, t.kind = 1 → h' t.server = !h t.server) : hold h' (duX x) = !hold h x := by
  have hr := hx.root
  have e : (duX x).nodes = x.nodes.map duN := by show (x.nodes.take x.nodes.length).map duN = _; rw [List.take_length]
  unfold hold
  rw [e]
  have hd := du_run (h := h) (h' := h') x.nodes [] fun j hj => ⟨by have := hx.node j hj; rw [List.length_nil, Nat.zero_add]; exact this, hs _ (getD_mem hj)⟩
  rw [show ([] : List Bool).map not = [] from rfl] at hd
  rw [hd]
  show ((runA h [] x.nodes).map not).getD x.root.toNat false = _
  have hl : x.root.toNat < (runA h [] x.nodes).length := by rw [runA_len]; simp; omega
  rw [List.getD_eq_getElem?_getD, List.getElem?_map, List.getElem?_eq_getElem hl, List.getD_eq_getElem?_getD, List.getElem?_eq_getElem hl]; rfl
theorem wtS_one (hw : t.w = []) : ∀ k, wtS t k = k := by
  intro k
  induction k with
  | zero => rfl
  | succ k ih =>
    have : wt t k = 1 := by unfold wt; rw [hw]; rfl
    rw [wtS_s, ih, this]; omega
theorem duN_ok (hn : NOk t i) (hw : t.w = []) (hk : t.k.length ≤ 20) : NOk (duN t) i := by
  have h1 := wtS_one hw t.k.length
  have h2 := hn.need
  refine ⟨hn.kind, hn.srv, fun hk1 => ?_, hn.zero, ?_, hn.ws, hn.wl, hn.ks⟩
  · have := hn.leaf hk1
    have h3 : ¬ t.kind = 2 := by have : t.kind = 1 := hk1; omega
    rw [duN_1 h3]; exact this
  · unfold duN
    dsimp only
    split <;> omega
structure Fine (x : Ex) : Prop where
  ok : XOk x
  nz : ∀ t ∈ x.nodes, t.w = [] ∧ (t.kz = true → t.k = []) ∧ t.k.length ≤ 20
theorem Fine.kS (h : Fine x) : KS x := fun j hj => by have := (h.nz _ (getD_mem (d := default) hj)).2.2; omega
theorem Fine.sh (h : Fine x) : Short x := ⟨by have := h.ok.few; omega, fun j hj => by
  obtain ⟨h1, h2, h3⟩ := h.nz _ (getD_mem (d := default) hj)
  rw [h1]; exact ⟨by simp, by omega⟩⟩
theorem Fine.va (h : Fine x) : validE x = 0 := validE_of h.ok
theorem Fine.nzok (h : Fine x) : NzOk x := fun j hj => by
  obtain ⟨h1, h2, h3⟩ := h.nz _ (getD_mem (d := default) hj)
  exact ⟨fun _ => h1, h2⟩
theorem Fine.du (h : Fine x) : Fine (duX x) := by
  have e : (duX x).nodes = x.nodes.map duN := by show (x.nodes.take x.nodes.length).map duN = _; rw [List.take_length]
  have el : (duX x).nodes.length = x.nodes.length := by rw [e, List.length_map]
  refine ⟨⟨by rw [el]; exact h.ok.pos, by rw [el]; exact h.ok.few, fun j hj => ?_, by rw [el]; exact h.ok.root⟩, fun t ht => ?_⟩
  · rw [el] at hj
    have e2 : (duX x).nodes.getD j default = duN (x.nodes.getD j default) := by
      rw [e, List.getD_eq_getElem?_getD, List.getElem?_map, List.getElem?_eq_getElem hj, List.getD_eq_getElem?_getD, List.getElem?_eq_getElem hj]; rfl
    rw [e2]
    have h1 := h.nz _ (getD_mem (d := default) hj)
    exact duN_ok (h.ok.node j hj) h1.1 h1.2.2
  · rw [e] at ht
    obtain ⟨t0, h0, rfl⟩ := List.mem_map.1 ht
    exact h.nz t0 h0
theorem sv_bit (hs : ∀ k, k < j → 0 ≤ (x.nodes.getD k default).server) : (svS x j).testBit i = true ↔ ∃ k, k < j ∧ (x.nodes.getD k default).kind = 1 ∧ (x.nodes.getD k default).server = (i : Int) := by
  induction j with
  | zero => simp [svS]
  | succ j ih =>
    have ih := ih fun k hk => hs k (by omega)
    have h0 := hs j (by omega)
    by_cases hk : (x.nodes.getD j default).kind = 1
    · rw [svS_1 hk]
      unfold sor
      rw [or_bit, Bool.or_eq_true, ih, decide_eq_true_eq]
      constructor
      · rintro (⟨k, h1, h2, h3⟩ | h)
        · exact ⟨k, by omega, h2, h3⟩
        · exact ⟨j, by omega, hk, by omega⟩
      · rintro ⟨k, h1, h2, h3⟩
        by_cases e : k = j
        · subst e; exact .inr (by omega)
        · exact .inl ⟨k, by omega, h2, h3⟩
    · rw [svS_2 hk, ih]
      constructor
      · rintro ⟨k, h1, h2, h3⟩; exact ⟨k, by omega, h2, h3⟩
      · rintro ⟨k, h1, h2, h3⟩
        by_cases e : k = j
        · subst e; exact absurd h2 hk
        · exact ⟨k, by omega, h2, h3⟩
theorem subA_dec : subA (bitI (q % 65536)) s = decide (sdif s q % 65536 = 0) := by
  rw [Bool.eq_iff_iff, decide_eq_true_eq, sub_bit]
  unfold subA
  rw [List.all_eq_true]
  constructor
  · intro h i hi
    have h16 := bit_lt hi
    rw [bit_raw h16] at hi
    have := h _ (mem_in h16 hi)
    rw [bitI_n] at this
    exact this
  · intro h y hy
    have hr := mem_lt y hy
    obtain ⟨i, rfl⟩ := Int.eq_ofNat_of_zero_le hr.1
    have h16 : i < 16 := by omega
    rw [bitI_n]
    exact h i (by rw [bit_raw h16]; exact mem_bit h16 hy)
theorem hold_has (hx : XfOk (bitI (q % 65536)) ms f x) : holdT x q = hasA f q := by
  show hold (bitI (q % 65536)) x = _
  rw [hx.hd]
  unfold hasA
  congr 1
  funext s
  exact subA_dec
theorem cpl_eq (h : q < 2 ^ n) (hn : n ≤ 6) : sdif (2 ^ n - 1) q % 65536 = cpl n q := by
  have hp : 2 ^ n ≤ 2 ^ 6 := Nat.pow_le_pow_right (by omega) hn
  have hc := cpl_lt (n := n) (t := q)
  have : sdif (2 ^ n - 1) q % 65536 = cpl n q % 65536 := ext_bit.2 fun i hi => by
    rw [bit_sdif]
    show (bit (fullS n) i && !bit q i) = _
    rw [bit_full (by omega), bit_raw hi, bit_raw hi, cpl_bit h]
  rw [this, Nat.mod_eq_of_lt (by omega)]
theorem hits_cpl (hn : n ≤ 6) (hf : ∀ y ∈ f, y < 2 ^ n) (hq : q < 2 ^ n) : hitsA f q = !hasA f (cpl n q) := by
  unfold hitsA hasA
  congr 1
  rw [Bool.eq_iff_iff, List.any_eq_true, List.any_eq_true]
  have hp : 2 ^ n ≤ 2 ^ 6 := Nat.pow_le_pow_right (by omega) hn
  have key : ∀ m ∈ f, (sand m q % 65536 = 0 ↔ sdif m (cpl n q) % 65536 = 0) := fun m hm => by
    have hml := hf m hm
    have h0 : sand m q % 65536 = 0 ↔ ∀ i, i < 16 → bit (sand m q) i = false := by
      constructor
      · intro h i hi
        have := ext_bit.1 (show sand m q % 65536 = 0 % 65536 by omega) i hi
        rw [this, bit_0]
      · intro h
        have : sand m q % 65536 = 0 % 65536 := ext_bit.2 fun i hi => by rw [h i hi, bit_0]
        omega
    rw [h0, sub_bit]
    constructor
    · intro h i hi
      have h16 := bit_lt hi
      have := h i h16
      rw [bit_sand, hi, Bool.true_and] at this
      rw [bit_raw h16, cpl_bit hq]
      rw [bit_raw h16] at hi this
      have hin : i < n := Decidable.not_not.1 fun hc => by
        have : 2 ^ n ≤ 2 ^ i := Nat.pow_le_pow_right (by omega) (by omega)
        rw [Nat.testBit_lt_two_pow (by omega)] at hi; cases hi
      rw [this, decide_eq_true hin]; rfl
    · intro h i hi
      rw [bit_sand]
      cases hb : bit m i with
      | false => rfl
      | true =>
        have := h i hb
        rw [bit_raw hi, cpl_bit hq] at this
        rw [bit_raw hi]
        simp only [Bool.and_eq_true, Bool.not_eq_true'] at this
        rw [this.2]; rfl
  exact ⟨fun ⟨m, h1, h2⟩ => ⟨m, h1, decide_eq_true ((key m h1).1 (of_decide_eq_true h2))⟩, fun ⟨m, h1, h2⟩ => ⟨m, h1, decide_eq_true ((key m h1).2 (of_decide_eq_true h2))⟩⟩
end Go.Proofs.YtabafldpnkjboaaDoor
