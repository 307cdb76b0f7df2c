/- Families: the reference's Valid, the program's Support. No condition. -/
import Derived.Test.YtebinjcofclfaaaDoorDi18
set_option linter.unusedVariables false
set_option linter.unusedSectionVars false
set_option linter.unusedSimpArgs false
set_option maxHeartbeats 4000000
set_option maxRecDepth 20000
namespace Go.Proofs.YtebinjcofclfaaaDoor
open Go Go.Sy Go.Bp Go.Dg
attribute [local irreducible] AO AL AC OpT ACall Ends DGo DRun Thn Blk Nxt
variable {n N M k i m r a b j w u v s q x y : Nat} {z : Bool} {xs : List Nat} {e1 : Int}
theorem cb_le (h : ∀ i, bit x i = true → bit y i = true) (hi : i < 16) : cb x i ≤ cb y i := by
  have h1 := h i
  rw [bit_raw hi, bit_raw hi] at h1
  unfold cb
  split
  · rename_i hc; rw [if_pos (h1 hc)]; exact Nat.le_refl _
  · exact Nat.zero_le _
theorem memL_mono (h : sdif x y % 65536 = 0) : memL x 16 ≤ memL y 16 := by
  have hb := sub_bit.1 h
  rw [memL16 (s := x), memL16 (s := y)]
  have c := fun i (hi : i < 16) => cb_le (i := i) hb hi
  have := c 0 (by decide); have := c 1 (by decide); have := c 2 (by decide); have := c 3 (by decide); have := c 4 (by decide); have := c 5 (by decide); have := c 6 (by decide); have := c 7 (by decide)
  have := c 8 (by decide); have := c 9 (by decide); have := c 10 (by decide); have := c 11 (by decide); have := c 12 (by decide); have := c 13 (by decide); have := c 14 (by decide); have := c 15 (by decide)
  omega
theorem sub_le' (h : sdif x y % 65536 = 0) : x % 65536 ≤ y % 65536 := by
  refine sub_le (x := x % 65536) (y := y % 65536) (sub_bit.2 fun i hi => ?_) (Nat.mod_lt _ (by decide)) (Nat.mod_lt _ (by decide))
  rw [bit_mod] at hi ⊢
  exact sub_bit.1 h i hi
theorem bef_not (h : sdif x y % 65536 = 0) : bef y x = false := by
  have h1 := memL_mono h
  have h2 := sub_le' h
  unfold bef
  split
  · rw [decide_eq_false_iff_not]; omega
  · rw [decide_eq_false_iff_not]; omega
theorem bef_trans (h1 : bef x y = true) (h2 : bef y s = true) : bef x s = true := by
  unfold bef at *
  split at h1 <;> split at h2 <;> simp only [decide_eq_true_eq] at h1 h2
  · rw [if_pos (by omega)]; simp; omega
  · rw [if_neg (by omega)]; simp; omega
  · rw [if_neg (by omega)]; simp; omega
  · rw [if_neg (by omega)]; simp; omega
theorem fe_all : ∀ (m i : Nat), fe xs m i = 0 → ∀ j, i ≤ j → j < i + m → xs.getD j default % 65536 < 4096 ∧ (0 < j → bef (xs.getD (j - 1) default) (xs.getD j default) = true) := by
  intro m
  induction m with
  | zero => intro i _ j h1 h2; omega
  | succ m ih =>
    intro i h j h1 h2
    by_cases c1 : xs.getD i default % 65536 < 4096
    · by_cases c2 : 0 < i ∧ bef (xs.getD (i - 1) default) (xs.getD i default) = false
      · rw [fe_b c1 c2.1 c2.2] at h; cases h
      · have c3 : 0 < i → bef (xs.getD (i - 1) default) (xs.getD i default) = true := fun hi => by
          cases hb : bef (xs.getD (i - 1) default) (xs.getD i default) with
          | true => rfl
          | false => exact absurd ⟨hi, hb⟩ c2
        rw [fe_n c1 c3] at h
        by_cases e : j = i
        · subst e; exact ⟨c1, c3⟩
        · exact ih (i + 1) h j (by omega) (by omega)
    · rw [fe_r c1] at h; cases h
theorem fe_ord (h : fe xs n 0 = 0) : ∀ (d i : Nat), i + d + 1 < n → bef (xs.getD i default) (xs.getD (i + d + 1) default) = true := by
  intro d
  induction d with
  | zero => intro i hi; exact (fe_all n 0 h (i + 1) (by omega) (by omega)).2 (by omega)
  | succ d ih =>
    intro i hi
    exact bef_trans (ih i (by omega)) ((fe_all n 0 h (i + (d + 1) + 1) (by omega) (by omega)).2 (by omega))
theorem pair_hit (hl : xs.length = n) (h : fe xs n 0 = 0) (hi : i < n) (hk : k < n) (hne : ¬ i = k) (hs : sdif (xs.getD k default) (xs.getD i default) % 65536 = 0) : hasA (xs.take i) (xs.getD i default) = true := by
  have hki : k < i := by
    rcases Nat.lt_trichotomy i k with h1 | h1 | h1
    · have := fe_ord h (k - i - 1) i (by omega)
      rw [show i + (k - i - 1) + 1 = k by omega, bef_not hs] at this; cases this
    · exact absurd h1 hne
    · exact h1
  unfold hasA
  rw [List.any_eq_true]
  refine ⟨xs.getD k default, ?_, decide_eq_true hs⟩
  have e : xs.getD k default = (xs.take i)[k]'(by rw [List.length_take]; omega) := by
    rw [List.getElem_take, List.getD_eq_getElem?_getD, List.getElem?_eq_getElem (by omega)]; rfl
  rw [e]; exact List.getElem_mem _
theorem pair_none (h : ∀ k, k < n → ¬ j = k → ¬ sdif (xs.getD k default) (xs.getD j default) % 65536 = 0) (hl : xs.length = n) (hj : j < n) : hasA (xs.take j) (xs.getD j default) = false := by
  unfold hasA
  rw [List.any_eq_false]
  intro m hm
  obtain ⟨k, hk, rfl⟩ := List.getElem_of_mem hm
  have hk2 : k < j := by rw [List.length_take] at hk; omega
  have e : (xs.take j)[k] = xs.getD k default := by
    rw [List.getElem_take, List.getD_eq_getElem?_getD, List.getElem?_eq_getElem (by omega)]; rfl
  rw [e]
  simpa using h k (by omega) (by omega)
def rvA (z : Bool) (xs : List Nat) (n : Nat) (e1 : Int) (i : {i : Nat // i ≤ n ∧ fe xs (n - i) i = e1}) : St :=
  ⟨62, 0, [(0,.isl z (cX xs) n), (3,.val (.int .i64 i.val))], []⟩
def nohit (xs : List Nat) (n i : Nat) : Prop := ∀ k, k < n → ¬ i = k → ¬ sdif (xs.getD k default) (xs.getD i default) % 65536 = 0
def rvB (z : Bool) (xs : List Nat) (n : Nat) (i : {i : Nat // i ≤ n ∧ ∀ j, j < i → nohit xs n j}) : St :=
  ⟨62, 0, [(0,.isl z (cX xs) n), (4,.val (.int .i64 i.val))], []⟩
def rvC (z : Bool) (xs : List Nat) (n i : Nat) (k : {k : Nat // k ≤ n ∧ ∀ j, j < k → ¬ i = j → ¬ sdif (xs.getD j default) (xs.getD i default) % 65536 = 0}) : St :=
  ⟨62, 0, [(0,.isl z (cX xs) n), (4,.val (.int .i64 i)), (5,.val (.int .i64 k.val))], []⟩
theorem rvalid8_ok (hl : xs.length = n) (hn : n ≤ 400) : ACall Tryd.prog 54 [.isl z (cX xs) n] [] 0 (.val (.int .i64 (famE xs))) [] := by
  obtain ⟨e1, he1⟩ : ∃ e1, fe xs n 0 = e1 := ⟨_, rfl⟩
  have h0 : 0 ≤ n ∧ fe xs (n - 0) 0 = e1 := ⟨Nat.zero_le _, he1⟩
  have hz : 0 ≤ n ∧ ∀ j, j < 0 → nohit xs n j := ⟨Nat.zero_le _, fun j hj => absurd hj (by omega)⟩
  have hro := dmy_def; have hb := dmy_def; have hnn := dmy_def; have hik := dmy_def; have hsd := dmy_def
  refine ACall.enter Tryd.func54 rfl (by simp [Tryd.ntmps54]) (by simp) ?_; simp only [entry, idx, Tryd.ntmps54, List.length, List.map_cons, List.map_nil, List.append_nil, List.cons_append, List.nil_append, Nat.reduceAdd, Nat.zero_add, List.length_cons, List.length_nil]
  repeat' (first | (refine AC_loop_id ?_; refine AC_loop' [] ([].length) (rvA z xs n e1) (fun i => n - i.val) (⟨0, h0⟩) rfl (by unfold rvA; (try simp only [List.cons_append, List.nil_append]); refine Sub.mk2 ?_; (simp -dsimp (disch := try exact vD) only [push_cast, simprocAttr, hro, hb, hnn, hik, hsd, c_Nat, add1sub]); (repeat refine aI ?_); first | done | exact vI) ?_; (rintro ⟨i, hi, he⟩; rcases Nat.lt_or_eq_of_le hi with hil | hil <;> first | (have ei : n = i := hil.symm; subst ei; (simp -dsimp (disch := try exact vD) only [push_cast, simprocAttr, rvA])) | (obtain ⟨m, hm1, hm2⟩ := fe_step hil; rw [hm1] at he; rcases Nat.lt_or_ge (xs.getD i default % 65536) 4096 with hro | hro <;> first | (rw [fe_r (by omega)] at he; (simp -dsimp (disch := try exact vD) only [push_cast, simprocAttr, rvA])) | (rcases Nat.eq_zero_or_pos i with hi0 | hi0 <;> first | (subst hi0; rw [fe_n hro (fun h => absurd h (by omega))] at he; (simp -dsimp (disch := try exact vD) only [push_cast, simprocAttr, rvA])) | (obtain ⟨p, rfl⟩ : ∃ p, i = p + 1 := ⟨i - 1, by omega⟩; rcases Bool.eq_false_or_eq_true (bef (xs.getD p default) (xs.getD (p + 1) default)) with hb | hb <;> first | (rw [fe_n hro (fun _ => hb)] at he; (simp -dsimp (disch := try exact vD) only [push_cast, simprocAttr, rvA])) | (rw [fe_b hro (by omega) hb] at he; (simp -dsimp (disch := try exact vD) only [push_cast, simprocAttr, rvA]))))))) | (refine Nxt_id ?_; refine Nxt.mk [] (⟨0 + 1, by omega, by rw [hm2]; exact he⟩) rfl (by unfold rvA; (try simp only [List.cons_append, List.nil_append]); refine Sub.mk2 ?_; (simp -dsimp (disch := try exact vD) only [push_cast, simprocAttr, hro, hb, hnn, hik, hsd, c_Nat, add1sub]); (repeat refine aI ?_); first | done | exact vI) (by first | omega | (dsimp only; omega) | (simp; done) | (simp; omega))) | (refine Nxt_id ?_; refine Nxt.mk [] (⟨p + 1 + 1, by omega, by rw [hm2]; exact he⟩) rfl (by unfold rvA; (try simp only [List.cons_append, List.nil_append]); refine Sub.mk2 ?_; (simp -dsimp (disch := try exact vD) only [push_cast, simprocAttr, hro, hb, hnn, hik, hsd, c_Nat, add1sub]); (repeat refine aI ?_); first | done | exact vI) (by first | omega | (dsimp only; omega) | (simp; done) | (simp; omega))) | (refine AC_loop_id ?_; refine AC_loop' [] ([].length) (rvC z xs n i) (fun k => n - k.val) (⟨0, Nat.zero_le _, fun j hj => absurd hj (by omega)⟩) rfl (by unfold rvC; (try simp only [List.cons_append, List.nil_append]); refine Sub.mk2 ?_; (simp -dsimp (disch := try exact vD) only [push_cast, simprocAttr, hro, hb, hnn, hik, hsd, c_Nat, add1sub]); (repeat refine aI ?_); first | done | exact vI) ?_; (rintro ⟨k, hk, hf2⟩; rcases Nat.lt_or_eq_of_le hk with hkl | hkl <;> first | (have ei : n = k := hkl.symm; subst ei; (simp -dsimp (disch := try exact vD) only [push_cast, simprocAttr, rvC])) | (rcases Decidable.em (i = k) with hne | hne <;> rcases Decidable.em (sdif (xs.getD k default) (xs.getD i default) % 65536 = 0) with hsd | hsd <;> first | (have hik : ((i : Int) = k) = True := eq_true (by omega); (simp -dsimp (disch := try exact vD) only [push_cast, simprocAttr, rvC])) | (have hik : ((i : Int) = k) = False := eq_false (by omega); (simp -dsimp (disch := try exact vD) only [push_cast, simprocAttr, rvC]))))) | (refine Nxt_id ?_; refine Nxt.mk [] (⟨k + 1, by omega, fun j hj hij => by rcases Nat.lt_or_eq_of_le (Nat.le_of_lt_succ hj) with h | h; exact hf2 j h hij; rw [h] at hij ⊢; first | exact hsd | exact absurd hne hij⟩) rfl (by unfold rvC; (try simp only [List.cons_append, List.nil_append]); refine Sub.mk2 ?_; (simp -dsimp (disch := try exact vD) only [push_cast, simprocAttr, hro, hb, hnn, hik, hsd, c_Nat, add1sub]); (repeat refine aI ?_); first | done | exact vI) (by first | omega | (dsimp only; omega) | (simp; done) | (simp; omega))) | (refine AC_loop_id ?_; refine AC_loop' [] ([].length) (rvB z xs n) (fun i => n - i.val) (⟨0, hz⟩) rfl (by unfold rvB; (try simp only [List.cons_append, List.nil_append]); refine Sub.mk2 ?_; (simp -dsimp (disch := try exact vD) only [push_cast, simprocAttr, hro, hb, hnn, hik, hsd, c_Nat, add1sub]); (repeat refine aI ?_); first | done | exact vI) ?_; (rintro ⟨i, hi, hf⟩; rcases Nat.lt_or_eq_of_le hi with hil | hil <;> first | (have ei : n = i := hil.symm; subst ei; (simp -dsimp (disch := try exact vD) only [push_cast, simprocAttr, rvB])) | (simp -dsimp (disch := try exact vD) only [push_cast, simprocAttr, rvB]))) | (refine Nxt_id ?_; refine Nxt.mk [] (⟨i + 1, by omega, fun j hj => by rcases Nat.lt_or_eq_of_le (Nat.le_of_lt_succ hj) with h | h; exact hf j h; rw [h]; exact hf2⟩) rfl (by unfold rvB; (try simp only [List.cons_append, List.nil_append]); refine Sub.mk2 ?_; (simp -dsimp (disch := try exact vD) only [push_cast, simprocAttr, hro, hb, hnn, hik, hsd, c_Nat, add1sub]); (repeat refine aI ?_); first | done | exact vI) (by first | omega | (dsimp only; omega) | (simp; done) | (simp; omega))) | apply AC_seq | apply AC_region_lit | ((first | refine AL_go rfl (fun K hK => ?_) | refine AL_go0 (fun K hK => ?_) | refine DG_run (fun K hK => ?_)); (first | refine R_callG (f := 85) [] 0 false ?_ | refine R_callG (f := 86) [] 0 false ?_ | refine R_callG (f := 87) [] 0 false ?_); simp -dsimp (disch := try exact vD) only [push_cast, simprocAttr, hro, hb, hnn, hik, hsd, c_Nat, add1sub]; (repeat refine aI ?_); intro G hG; refine hG _ _ ?_; clear hG G; (first | refine ⟨_, _, rrange_ok, ?_⟩ | refine ⟨_, _, before_ok, ?_⟩ | refine ⟨_, _, r8cont_ok, ?_⟩); simp -dsimp (disch := try exact vD) only [push_cast, simprocAttr, hro, hb, hnn, hik, hsd, c_Nat, add1sub]; (repeat refine aI ?_); apply hK; clear hK K) | ((first | refine AL_go rfl (fun K hK => ?_) | refine AL_go0 (fun K hK => ?_) | refine DG_run (fun K hK => ?_)); (first | apply R_move | apply R_assign | apply Q_load | apply Q_loadAgg | apply Q_indexAddr | apply Q_indexArr | apply Q_len | apply Q_lenStr | apply Q_pick | apply Q_not | apply Q_neg | apply Q_eqAgg | apply Q_neqAgg | apply Q_neqSelf | apply Q_bin); simp -dsimp (disch := try exact vD) only [push_cast, simprocAttr, hro, hb, hnn, hik, hsd, c_Nat, add1sub]; (repeat refine aI ?_); apply hK; clear hK K) | ((first | refine AL_guard rfl rfl (fun K1 K2 h1 h2 => ?_) rfl | refine AC_cond_k (fun K1 K2 h1 h2 => ?_) | refine DG_guard rfl rfl (fun K1 K2 h1 h2 => ?_)); simp -dsimp (disch := try exact vD) only [push_cast, simprocAttr, hro, hb, hnn, hik, hsd, c_Nat, add1sub]; (first | (refine ⟨fun hc => ?_, fun hc => ?_⟩ <;> first | (exfalso; omega) | (exfalso; contradiction) | refine h1 ?_ | refine h2 ?_) | refine h1 ?_ | refine h2 ?_); all_goals clear h1 h2 K1 K2) | (refine AC_draw (id := 8) (by kernel_rfl) [⟨0, [], [], [], [], 0⟩, ⟨1, [0], [], [], [], 0⟩, ⟨2, [0, 1], [], [], [], 0⟩, ⟨3, [0, 1, 2], [25, 26, 29, 30, 31, 32], [], [], 0⟩, ⟨4, [0, 1, 2], [24, 29, 30, 31, 32], [], [], 0⟩, ⟨5, [0, 1, 2, 4], [24, 29, 30, 31, 32], [], [], 0⟩, ⟨6, [0, 1, 2, 3, 4, 5], [29, 30, 31, 32], [], [], 0⟩, ⟨7, [0, 1, 2, 3, 4, 5, 6], [29, 30, 31, 32], [], [], 0⟩, ⟨8, [0, 1, 2], [24, 25, 26, 27, 28, 30], [], [], 0⟩, ⟨9, [0, 1, 2], [24, 25, 26, 27, 28, 29], [], [], 0⟩, ⟨10, [0, 1, 2, 8, 9], [24, 25, 26, 27, 28], [], [], 0⟩, ⟨11, [0, 1, 2, 8, 9, 10], [24, 25, 26, 27, 28], [], [], 0⟩, ⟨12, [0, 1, 2, 3, 4, 5, 6, 7, 8, 9, 10, 11], [], [], [], 0⟩, ⟨13, [0, 1, 2, 3, 4, 5, 6, 7, 8, 9, 10, 11, 12], [], [], [], 0⟩, ⟨14, [0, 1, 2, 3, 4, 5, 6, 7, 8, 9, 10, 11, 12, 13], [], [], [], 0⟩] (by kernel_rfl) (by kernel_rfl) (by kernel_rfl) ?_) | (refine AC_draw (id := 16) (by kernel_rfl) [⟨0, [], [49], [], [], 0⟩, ⟨1, [], [48], [], [], 0⟩, ⟨2, [0, 1], [], [], [], 0⟩, ⟨3, [0, 1, 2], [], [], [], 0⟩, ⟨4, [0, 1, 2, 3], [53, 56, 57, 58, 59], [], [], 0⟩, ⟨5, [0, 1, 2, 3], [52, 56, 57, 58, 59], [], [], 0⟩, ⟨6, [0, 1, 2, 3, 4, 5], [56, 57, 58, 59], [], [], 0⟩, ⟨7, [0, 1, 2, 3, 4, 5, 6], [56, 57, 58, 59], [], [], 0⟩, ⟨8, [0, 1, 2, 3], [52, 53, 54, 55, 57], [], [], 0⟩, ⟨9, [0, 1, 2, 3], [52, 53, 54, 55, 56], [], [], 0⟩, ⟨10, [0, 1, 2, 3, 8, 9], [52, 53, 54, 55], [], [], 0⟩, ⟨11, [0, 1, 2, 3, 8, 9, 10], [52, 53, 54, 55], [], [], 0⟩, ⟨12, [0, 1, 2, 3, 4, 5, 6, 7, 8, 9, 10, 11], [], [], [], 0⟩, ⟨13, [0, 1, 2, 3, 4, 5, 6, 7, 8, 9, 10, 11, 12], [], [], [], 0⟩] (by kernel_rfl) (by kernel_rfl) (by kernel_rfl) ?_) | ((first | refine DG_next' (by kernel_rfl) (fun K hK => ?_) | refine DG_nil (by kernel_rfl) (fun K hK => ?_)); simp only [↓Go.Sy.dsnE_some, ↓Go.Sy.dsnE_none, ↓Go.Sy.dsnE_nil, ↓Go.Sy.dsnO_snoc, ↓Go.Sy.dsnO_nil, ↓Go.Sy.nidAt_snoc, ↓Go.Sy.nidAt_nil, push_cast, Nat.reduceLeDiff, Nat.reduceSub, Nat.reduceBEq, Nat.reduceEqDiff, Nat.reduceAdd, Nat.reduceLT, ↓reduceIte, reduceCtorEq]; refine hK _ _ _ ?_; clear hK K) | apply DG_go | apply AL_nil | apply Thn_normal | apply Thn_ret | apply Thn_exit | apply Blk_normal | apply Blk_ret | apply Blk_here | (refine Blk_other rfl ?_) | apply AC_block | apply AC_exit | apply AC_skip | apply AC_ret)
  all_goals first
    | (have e : famE xs = 7 := (by rw [famE_1 hl (he1.trans he.symm) (by decide)]); rw [e]; (refine Ends.mk2 (by first | exact .inr rfl | exact .inl rfl) [] ?_; simp -dsimp (disch := try exact vD) only [push_cast, simprocAttr, Tryd.f54]; (repeat refine aI ?_); try (first | exact vI | fail)); done)
    | (have e : famE xs = 1 := (by rw [famE_1 hl (he1.trans he.symm) (by decide)]); rw [e]; (refine Ends.mk2 (by first | exact .inr rfl | exact .inl rfl) [] ?_; simp -dsimp (disch := try exact vD) only [push_cast, simprocAttr, Tryd.f54]; (repeat refine aI ?_); try (first | exact vI | fail)); done)
    | (have e : famE xs = 1 := (by rw [Nat.sub_self] at he; have h0' := he1.trans he.symm; rw [famE_0 hl h0', famB_t hl hil (pair_hit hl h0' hil hkl hne hsd)]; rfl); rw [e]; (refine Ends.mk2 (by first | exact .inr rfl | exact .inl rfl) [] ?_; simp -dsimp (disch := try exact vD) only [push_cast, simprocAttr, Tryd.f54]; (repeat refine aI ?_); try (first | exact vI | fail)); done)
    | (have e : famE xs = 0 := (by rw [Nat.sub_self] at he; have h0' := he1.trans he.symm; rw [famE_0 hl h0', famB_f hl (fun j hj => pair_none (hf j hj) hl hj)]; rfl); rw [e]; (refine Ends.mk2 (by first | exact .inr rfl | exact .inl rfl) [] ?_; simp -dsimp (disch := try exact vD) only [push_cast, simprocAttr, Tryd.f54]; (repeat refine aI ?_); try (first | exact vI | fail)); done)
    | trace_state
def supA (xs : List Nat) : Nat → Nat
  | 0 => 0
  | j + 1 => sor (supA xs j) (xs.getD j default)
theorem supA_s : supA xs (j + 1) = sor (supA xs j) (xs.getD j default) := rfl
theorem supA_0 : supA xs 0 = 0 := rfl
def spI (z : Bool) (xs : List Nat) (n : Nat) (i : {i : Nat // i ≤ n}) : St :=
  ⟨17, 0, [(3,.val (.int .u16 (U (supA xs i.val)))), (6,.isl z (cX xs) n), (7,.val (.int .i64 n)), (8,.val (.int .i64 i.val))], []⟩
theorem support_ok (hl : xs.length = n) (hn : n < 2 ^ 40) : ACall Tryd.prog 50 [.isl z (cX xs) n] [] 0 (.val (.int .u16 (U (supA xs n)))) [] := by
  refine ACall.enter Tryd.func50 rfl (by simp [Tryd.ntmps50]) (by simp) ?_; simp only [entry, idx, Tryd.ntmps50, List.length, List.map_cons, List.map_nil, List.append_nil, List.cons_append, List.nil_append, Nat.reduceAdd, Nat.zero_add, List.length_cons, List.length_nil]
  repeat' (first | (refine AC_loop_id ?_; refine AC_loop' [] ([].length) (spI z xs n) (fun i => n - i.val) (⟨0, by omega⟩) rfl (by unfold spI; (try simp only [List.cons_append, List.nil_append]); refine Sub.mk2 ?_; (simp -dsimp (disch := try exact vD) only [push_cast, simprocAttr, c_Nat, supA_s, supA_0]); (repeat refine aI ?_); first | done | exact vI) ?_; (rintro ⟨i, hi⟩; rcases Nat.lt_or_eq_of_le hi with hil | hil <;> first | (have ei : n = i := hil.symm; subst ei; (simp -dsimp (disch := try exact vD) only [push_cast, simprocAttr, spI])) | (simp -dsimp (disch := try exact vD) only [push_cast, simprocAttr, spI]))) | (refine Nxt_id ?_; refine Nxt.mk [] (⟨i + 1, by omega⟩) rfl (by unfold spI; (try simp only [List.cons_append, List.nil_append]); refine Sub.mk2 ?_; (simp -dsimp (disch := try exact vD) only [push_cast, simprocAttr, c_Nat, supA_s, supA_0]); (repeat refine aI ?_); first | done | exact vI) (by first | omega | (dsimp only; omega) | (simp; done) | (simp; omega))) | apply AC_seq | apply AC_region_lit | ((first | refine AL_go rfl (fun K hK => ?_) | refine AL_go0 (fun K hK => ?_)); (first | apply R_move | apply R_assign | apply Q_load | apply Q_loadAgg | apply Q_indexAddr | apply Q_indexArr | apply Q_len | apply Q_lenStr | apply Q_bin); simp -dsimp (disch := try exact vD) only [push_cast, simprocAttr, c_Nat, supA_s, supA_0]; (repeat refine aI ?_); apply hK; clear hK K) | ((first | refine AL_guard rfl rfl (fun K1 K2 h1 h2 => ?_) rfl | refine AC_cond_k (fun K1 K2 h1 h2 => ?_)); simp -dsimp (disch := try exact vD) only [push_cast, simprocAttr, c_Nat, supA_s, supA_0]; (first | (refine ⟨fun hc => ?_, fun hc => ?_⟩ <;> first | (exfalso; omega) | (exfalso; contradiction) | refine h1 ?_ | refine h2 ?_) | refine h1 ?_ | refine h2 ?_); all_goals clear h1 h2 K1 K2) | apply AL_nil | apply Thn_normal | apply Thn_ret | apply Thn_exit | apply Blk_normal | apply Blk_ret | apply Blk_here | (refine Blk_other rfl ?_) | apply AC_block | apply AC_exit | apply AC_skip | apply AC_ret)
  all_goals first
    | ((refine Ends.mk2 (by first | exact .inr rfl | exact .inl rfl) [] ?_; simp -dsimp (disch := try exact vD) only [push_cast, simprocAttr, Tryd.f50]; (repeat refine aI ?_); try (first | exact vI | fail)); done)
    | trace_state
theorem bit_supA : ∀ j, bit (supA xs j) i = true ↔ ∃ k, k < j ∧ bit (xs.getD k default) i = true := by
  intro j
  induction j with
  | zero => rw [supA_0, bit_0]; exact ⟨fun h => (by cases h), fun ⟨k, h, _⟩ => absurd h (by omega)⟩
  | succ j ih =>
    rw [supA_s, bit_sor, Bool.or_eq_true, ih]
    constructor
    · rintro (⟨k, h1, h2⟩ | h)
      · exact ⟨k, by omega, h2⟩
      · exact ⟨j, by omega, h⟩
    · rintro ⟨k, h1, h2⟩
      by_cases e : k = j
      · subst e; exact .inr h2
      · exact .inl ⟨k, by omega, h2⟩
theorem sup_lt (hn : n ≤ 16) : supA xs M % 65536 < 2 ^ n ↔ ∀ k, k < M → xs.getD k default % 65536 < 2 ^ n := by
  have big : ∀ x, x % 65536 < 2 ^ n → ∀ i, bit x i = true → i < n := fun x h i hi => by
    refine Decidable.not_not.1 fun hc => ?_
    have hp : 2 ^ n ≤ 2 ^ i := Nat.pow_le_pow_right (by omega) (by omega)
    have : bit x i = false := by unfold bit; exact Nat.testBit_lt_two_pow (by omega)
    rw [this] at hi; cases hi
  constructor
  · intro h k hk
    exact bits_lt fun i hi => big _ h i (bit_supA M |>.2 ⟨k, hk, hi⟩)
  · intro h
    refine bits_lt fun i hi => ?_
    obtain ⟨k, hk, h2⟩ := (bit_supA M).1 hi
    exact big _ (h k hk) i h2
end Go.Proofs.YtebinjcofclfaaaDoor
