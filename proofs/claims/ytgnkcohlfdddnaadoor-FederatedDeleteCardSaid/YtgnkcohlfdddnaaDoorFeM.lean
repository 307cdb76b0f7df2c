/- FeM: Fe26 Fe27 Fe29, merged. No condition. -/
import Derived.Test.YtgnkcohlfdddnaaDoorFe24
import Derived.Test.YtgnkcohlfdddnaaDoorFe8
import Derived.Test.YtgnkcohlfdddnaaDoorFeD
import Derived.Test.YtgnkcohlfdddnaaDoorFe17
import Derived.Test.YtgnkcohlfdddnaaDoorFe22
/- Fe26. -/
set_option linter.unusedVariables false
set_option linter.unusedSectionVars false
set_option linter.unusedSimpArgs false
set_option maxHeartbeats 1000000
namespace Go.Proofs.YtgnkcohlfdddnaaDoor
open Go Go.Sy Go.Bp
variable {n i j m q s c L : Nat} {l : List Sli} {x : Sli}
structure XA (x : Ex) : Prop where
  ok : XOk x
  sh : Short x
  ks : KS x
  fl : Flag x
theorem lfN_mem {t : Nd} (h : t ∈ lfN q n) : ∃ s, s < n ∧ t = lf s := by
  induction n with
  | zero => cases h
  | succ n ih =>
    cases hb : q.testBit n with
    | true =>
      rw [lfN_t hb, List.mem_append] at h
      rcases h with h | h
      · obtain ⟨s, h1, h2⟩ := ih h; exact ⟨s, by omega, h2⟩
      · exact ⟨n, by omega, List.mem_singleton.1 h⟩
    | false =>
      rw [lfN_f hb] at h
      obtain ⟨s, h1, h2⟩ := ih h; exact ⟨s, by omega, h2⟩
theorem nok_lf (hs : s < 12) : NOk (lf s) j := ⟨.inl rfl, ⟨Int.natCast_nonneg s, by show (s : Int) < 12; omega⟩, fun _ => ⟨rfl, rfl, rfl⟩, fun h => absurd (show (1 : Int) = 2 from h) (by decide), ⟨Int.le_refl _, by show (0 : Int) ≤ 100000; decide⟩, fun w hw => (by cases hw), fun h => absurd rfl h, fun k hk => (by cases hk)⟩
theorem kdC_mem {k : Int} (h : k ∈ kdC c) : 0 ≤ k ∧ k < c := by
  unfold kdC at h
  obtain ⟨a, ha, rfl⟩ := List.mem_map.1 h
  have := List.mem_range.1 ha
  omega
theorem nok_root (hc : c ≤ 6) : NOk (rootN x c) c := by
  have h1 : 0 ≤ (x.a : Int) % ((c : Int) + 2) := Int.emod_nonneg _ (by omega)
  have h2 : (x.a : Int) % ((c : Int) + 2) < (c : Int) + 2 := Int.emod_lt_of_pos _ (by omega)
  exact ⟨.inr rfl, ⟨Int.le_refl _, by show (0 : Int) < 12; decide⟩, fun h => absurd (show (2 : Int) = 1 from h) (by decide), fun _ => rfl, ⟨h1, by show (x.a : Int) % ((c : Int) + 2) ≤ 100000; omega⟩, fun w hw => (by cases hw), fun h => absurd rfl h, fun k hk => kdC_mem hk⟩
theorem nok_and : NOk (⟨2, 0, 2, true, [], false, [(c : Int), (c : Int) + 1]⟩ : Nd) (c + 2) := by
  refine ⟨.inr rfl, ⟨Int.le_refl _, by show (0 : Int) < 12; decide⟩, fun h => absurd (show (2 : Int) = 1 from h) (by decide), fun _ => rfl, ⟨by show (0 : Int) ≤ 2; decide, by show (2 : Int) ≤ 100000; decide⟩, fun w hw => (by cases hw), fun h => absurd rfl h, fun k hk => ?_⟩
  rcases List.mem_cons.1 hk with rfl | hk
  · omega
  · rw [List.mem_singleton.1 hk]; omega
structure NA (j : Nat) (t : Nd) : Prop where
  ok : NOk t j
  w : t.w = []
  k : t.k.length ≤ 6
def AllA (ns : List Nd) : Prop := ∀ j, j < ns.length → NA j (ns.getD j default)
theorem AllA.snoc {ns : List Nd} {t : Nd} (h : AllA ns) (ht : NA ns.length t) : AllA (ns ++ [t]) := fun j hj => by
  rw [List.length_append, List.length_singleton] at hj
  by_cases e : j = ns.length
  · subst e; rw [getD_app2]; exact ht
  · rw [getD_app1 (by omega)]; exact h j (by omega)
theorem all_lf (hm : m ≤ 6) : AllA (lfN q m) := fun j hj => by
  have hmem : (lfN q m).getD j default ∈ lfN q m := getD_mem hj
  obtain ⟨s, hs, e⟩ := lfN_mem hmem
  rw [e]
  exact ⟨nok_lf (by omega), rfl, Nat.zero_le _⟩
theorem xa_of {y : Ex} (h : AllA y.nodes) (h0 : 0 < y.nodes.length) (h60 : y.nodes.length ≤ 60) (hr : 0 ≤ y.root ∧ y.root < y.nodes.length) : XA y :=
  ⟨⟨h0, h60, fun j hj => (h j hj).ok, hr⟩, ⟨by omega, fun j hj => ⟨by rw [(h j hj).w]; decide, by have := (h j hj).k; omega⟩⟩, fun j hj => by have := (h j hj).k; omega, fun j hj _ => (h j hj).w⟩
theorem madeX_a (hm : m ≤ 6) (hi : i < m) : XA (madeX x i m) := by
  have hc := lfC_le (q := x.m) (j := m)
  have h1 : AllA (lfN x.m m ++ [rootN x (lfC x.m m)]) := (all_lf hm).snoc ⟨by rw [lfN_len]; exact nok_root (by omega), rfl, by show (kdC _).length ≤ 6; rw [kdC_len]; omega⟩
  unfold madeX
  split
  · have h2 : AllA (lfN x.m m ++ [rootN x (lfC x.m m)] ++ [lf i]) := h1.snoc ⟨nok_lf (by omega), rfl, Nat.zero_le _⟩
    have h3 := h2.snoc (t := ⟨2, 0, 2, true, [], false, [(lfC x.m m : Int), (lfC x.m m : Int) + 1]⟩) ⟨by
      have e : (lfN x.m m ++ [rootN x (lfC x.m m)] ++ [lf i]).length = lfC x.m m + 2 := by simp [lfN_len]
      rw [e]; exact nok_and, rfl, by show 2 ≤ 6; decide⟩
    refine xa_of h3 ?_ ?_ ?_ <;> simp [lfN_len] <;> omega
  · refine xa_of h1 ?_ ?_ ?_ <;> simp [lfN_len] <;> omega
theorem madeA_mem {y : Ex} (hm : m ≤ 6) (hn : n ≤ m) (h : y ∈ madeA l m n) : XA y := by
  induction n with
  | zero => cases h
  | succ n ih =>
    rcases List.mem_append.1 (show y ∈ madeA l m n ++ [_] from h) with h | h
    · exact ih (by omega) h
    · rw [List.mem_singleton.1 h]; exact madeX_a hm (by omega)
theorem made_a : ∀ y ∈ made l, XA y := by
  intro y hy
  unfold made at hy
  split at hy
  · rw [List.mem_singleton.1 hy]; exact ⟨xok_con, short_conE, ks_con, flag_conE⟩
  · exact madeA_mem (by omega) (Nat.le_refl _) hy
theorem made_len : 0 < (made l).length ∧ (made l).length ≤ 6 := by
  unfold made
  split
  · exact ⟨by decide, by decide⟩
  · rw [madeA_len]; omega
theorem made_LOk : LOk (made l) := by
  have h := made_len (l := l)
  refine ⟨h.1, by omega, fun i hi => ?_⟩
  have := made_a _ (getD_mem (d := default) hi)
  exact ⟨validE_of this.ok, this.sh, this.ks⟩
theorem made_flag : ∀ i, i < (made l).length → Flag ((made l).getD i default) := fun i hi => (made_a _ (getD_mem (d := default) hi)).fl
end Go.Proofs.YtgnkcohlfdddnaaDoor
/- Fe27. -/
set_option linter.unusedVariables false
set_option maxRecDepth 20000
namespace Go.Proofs.YtgnkcohlfdddnaaDoor
open Go Go.Sy Go.Bp
def sl3 : List Sli := [⟨3, 15, false⟩, ⟨3, 15, false⟩, ⟨3, 15, false⟩, ⟨3, 15, false⟩]
def sl2 : List Sli := [⟨2, 3, false⟩, ⟨2, 3, false⟩, ⟨2, 12, false⟩, ⟨2, 12, false⟩]
theorem aw_min : minR (made sl3) = ([7, 11, 13, 14], 0) := by decide +kernel
theorem aw_blk : blB (made sl3) 3 3 = true ∧ blE (made sl3) 3 3 = 0 := by decide +kernel
theorem aw_spr : sprV (made sl3) 1 = 1 ∧ chE (made sl3) 1 = 0 := by decide +kernel
theorem aw_splg : splgR (made sl3) = (3, 0) := by decide +kernel
theorem aw_spl2 : splR (made sl2) = (3, 12, 0) := by decide +kernel
theorem aw_spl3 : (splR (made sl3)).2.2 = 13 := by decide +kernel
end Go.Proofs.YtgnkcohlfdddnaaDoor
/- Fe29. -/
set_option linter.unusedVariables false
set_option linter.unusedSectionVars false
set_option linter.unusedSimpArgs false
set_option maxHeartbeats 1000000
set_option maxRecDepth 20000
namespace Go.Proofs.YtgnkcohlfdddnaaDoor
open Go Go.Sy Go.Bp
variable {n i j m q s c L : Nat} {l : List Sli} {x : Sli} {mk : Nd → List Int → Nd}
theorem lfN_mod (hm : m ≤ 6) : lfN (q % 64) m = lfN q m := by
  induction m with
  | zero => rfl
  | succ m ih =>
    have e : (q % 64).testBit m = q.testBit m := by
      have := Nat.testBit_mod_two_pow q 6 m
      rw [show (2 ^ 6 : Nat) = 64 from rfl] at this
      rw [this, decide_eq_true (by omega : m < 6), Bool.true_and]
    simp only [lfN, e, ih (by omega)]
theorem madeX_fin (hm : m ≤ 6) : ∃ a, a < 8 ∧ madeX x i m = madeX ⟨a, x.m % 64, x.f⟩ i m := by
  have hc := lfC_le (q := x.m) (j := m)
  have e : lfC (x.m % 64) m = lfC x.m m := by unfold lfC; rw [lfN_mod hm]
  have er : rootN x (lfC x.m m) = rootN ⟨x.a % (lfC x.m m + 2), x.m % 64, x.f⟩ (lfC x.m m) := by
    unfold rootN
    have : ((x.a % (lfC x.m m + 2) : Nat) : Int) = (x.a : Int) % ((lfC x.m m : Int) + 2) := by rw [Int.natCast_emod, Int.natCast_add]; rfl
    simp only [this, Int.emod_emod]
  refine ⟨x.a % (lfC x.m m + 2), by have := Nat.mod_lt x.a (show 0 < lfC x.m m + 2 by omega); omega, ?_⟩
  unfold madeX
  simp only [e, lfN_mod hm, ← er]
def okX (m : Nat) (x : Ex) : Bool := !(farX m x) && !bigX x
theorem okX_C : ((List.range 7).all fun m => (List.range m).all fun i => (List.range 64).all fun q => (List.range 8).all fun a => okX m (madeX ⟨a, q, true⟩ i m) && okX m (madeX ⟨a, q, false⟩ i m)) = true := by decide +kernel
theorem madeX_okX (hm : m ≤ 6) (hi : i < m) : okX m (madeX x i m) = true := by
  obtain ⟨a, ha, e⟩ := madeX_fin (x := x) (i := i) hm
  rw [e]
  have h := List.all_eq_true.1 (List.all_eq_true.1 (List.all_eq_true.1 (List.all_eq_true.1 okX_C m (List.mem_range.2 (by omega))) i (List.mem_range.2 hi)) (x.m % 64) (List.mem_range.2 (Nat.mod_lt _ (by decide)))) a (List.mem_range.2 ha)
  rw [Bool.and_eq_true] at h
  cases x.f
  · exact h.2
  · exact h.1
theorem madeA_okX (hm : m ≤ 6) (hn : n ≤ m) : ∀ y ∈ madeA l m n, okX m y = true := by
  induction n with
  | zero => intro y hy; cases hy
  | succ n ih =>
    intro y hy
    rcases List.mem_append.1 (show y ∈ madeA l m n ++ [_] from hy) with h | h
    · exact ih (by omega) y h
    · rw [List.mem_singleton.1 h]; exact madeX_okX hm (by omega)
theorem made_okX : ∀ y ∈ made l, okX (made l).length y = true := by
  intro y hy
  unfold made at hy ⊢
  split at hy
  · rename_i h; rw [if_pos h, List.mem_singleton.1 hy]; decide +kernel
  · rename_i h; rw [if_neg h, madeA_len]; exact madeA_okX (by omega) (Nat.le_refl _) y hy
structure FOk (l : List Ex) (n : Nat) : Prop where
  ok : LOk l
  len : l.length = n
  pos : 0 < n
  le : n ≤ 6
  fv : fvE l = 0
  big : ∀ i, i < n → bigX (l.getD i default) = false
  fl : ∀ i, i < n → Flag (l.getD i default)
theorem made_F : FOk (made l) (made l).length := by
  have h := made_len (l := l)
  refine ⟨made_LOk, rfl, h.1, h.2, ?_, fun i hi => ?_, made_flag⟩
  · refine fvE_0 h.1 (by omega) (listE_of fun y hy => (made_a y hy).ok) ?_
    rw [List.any_eq_false]
    intro y hy
    have := made_okX y hy
    unfold okX at this
    rw [Bool.and_eq_true] at this
    have := this.1
    simp only [Bool.not_eq_true'] at this
    rw [this]; simp
  · have := made_okX _ (getD_mem (d := default) hi)
    unfold okX at this
    rw [Bool.and_eq_true] at this
    simpa using this.2
variable {f : List Ex}
theorem FOk.ch (h : FOk f n) (hs : ∀ i, bit s i = true → i < n) : chE f s = 0 := chE_in h.fv h.len (by have := h.le; omega) hs
theorem FOk.del (h : FOk f n) (hs : ∀ i, bit s i = true → i < n) : (delR mk f s) = (delL mk f (delT s n) s n, 0) := by
  have hn := h.le
  have hp := h.pos
  have e : delE mk f (delT s f.length) s f.length = 0 := by
    rw [h.len, delE_eq (fun i hi => (h.ok.ok i (by rw [h.len]; exact hi)).1) hp (by omega), if_neg]
    rw [Bool.not_eq_true, List.any_eq_false]
    intro i hi
    rw [h.big i (List.mem_range.1 hi)]; simp
  rw [delR_3 (h.ch hs) e, h.len]
theorem subs_C64 : ((List.range 7).all fun n => decide ((subs (fullS n)).length ≤ 64)) = true := by decide +kernel
theorem subs_C0 : ((List.range 7).all fun n => (List.range (subs (fullS n)).length).all fun j => decide (j = 0) || !decide ((subs (fullS n)).getD j 0 % 65536 = 0)) = true := by decide +kernel
theorem FOk.min (h : FOk f n) : minR f = (minQ f 0, 0) := by
  have hn := h.le
  refine minR_3 h.fv ?_
  have h1 : (subs (fullS n)).length ≤ 64 := of_decide_eq_true (List.all_eq_true.1 subs_C64 n (List.mem_range.2 (by omega)))
  have h2 : (minQ f 0).length ≤ (subs (sdif (fullS f.length) 0)).length := minL_le
  rw [left_0 (by rw [h.len]; exact hn), h.len] at h2
  omega
theorem FOk.split (h : FOk f n) : ((splR f).2.2 = 0) ↔ ((splgR f).2 = 0 ∧ (splgR f).1 % 65536 = 0) := by
  have hn := h.le
  have hd : ¬ ¬ (delR mkP f 0).2 = 0 := by rw [h.del (fun i hi => by rw [bit_0] at hi; cases hi)]; simp
  have h0 := subs_0 hn
  have hF : foundF f (subs (fullS n)) 0 = (dsj (minQ f 0)).2.2 := by unfold foundF; rw [h0.1]
  have eS : splR f = if (dsj (minQ f 0)).2.2 = false then (0, 0, 13) else ((dsj (minQ f 0)).1, (dsj (minQ f 0)).2.1, 0) := by
    unfold splR; rw [h.min]; rfl
  cases hb : (dsj (minQ f 0)).2.2 with
  | true =>
    rw [eS, hb, splgR_2 (j := 0) h.len rfl (Classical.not_not.1 hd) (jx_hit h0.2 (by rw [hF, hb]) (fun i hi => by omega)), h0.1]
    simp
  | false =>
    rw [eS, hb]
    refine ⟨fun e => by simp at e, fun e => ?_⟩
    cases hj : jx (foundF f (subs (fullS n))) (subs (fullS n)).length with
    | none => rw [splgR_3 h.len rfl (Classical.not_not.1 hd) hj] at e; exact absurd e.1 (by decide)
    | some j =>
      rw [splgR_2 h.len rfl (Classical.not_not.1 hd) hj] at e
      obtain ⟨hj1, hj2, _⟩ := jx_some hj
      have := List.all_eq_true.1 (List.all_eq_true.1 subs_C0 n (List.mem_range.2 (by omega))) j (List.mem_range.2 hj1)
      rw [decide_eq_true e.2, Bool.not_true, Bool.or_false] at this
      have := of_decide_eq_true this
      subst this
      rw [hF, hb] at hj2; cases hj2
end Go.Proofs.YtgnkcohlfdddnaaDoor
