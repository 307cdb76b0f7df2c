/- The reference's threshold, its nodes the caller's own; Weighted, and the reference's. No condition. -/
import Derived.Test.YtdeligopifoceaaDoorBu6
set_option linter.unusedVariables false
set_option linter.unusedSectionVars false
set_option linter.unusedSimpArgs false
set_option linter.unnecessarySimpa false
set_option maxHeartbeats 2000000
set_option maxRecDepth 20000
namespace Go.Proofs.YtdeligopifoceaaDoor
open Go Go.Sy Go.Bp
attribute [local irreducible] AO AL AC OpT ACall Ends DGo DRun Thn Blk Nxt
variable {l k w : List Int} {z zk wz : Bool} {n K i j m b c : Nat} {a q : Int}
/-- The servers with a positive weight, and their weights, among the first ones. -/
def wI (l : List Int) : Nat → List Int
  | 0 => []
  | j + 1 => if 0 < l.getD j default then wI l j ++ [(j : Int)] else wI l j
def wP (l : List Int) : Nat → List Int
  | 0 => []
  | j + 1 => if 0 < l.getD j default then wP l j ++ [l.getD j default] else wP l j
def wS (l : List Int) : Nat → Int
  | 0 => 0
  | j + 1 => wS l j + l.getD j default
def wL (l : List Int) (j : Nat) : Nat := (wI l j).length
theorem wI_p (h : 0 < l.getD j default) : wI l (j + 1) = wI l j ++ [(j : Int)] := by rw [wI, if_pos h]
theorem wI_n (h : ¬ 0 < l.getD j default) : wI l (j + 1) = wI l j := by rw [wI, if_neg h]
theorem wP_p (h : 0 < l.getD j default) : wP l (j + 1) = wP l j ++ [l.getD j default] := by rw [wP, if_pos h]
theorem wP_n (h : ¬ 0 < l.getD j default) : wP l (j + 1) = wP l j := by rw [wP, if_neg h]
theorem wL_0 : wL l 0 = 0 := rfl
theorem wL_p (h : 0 < l.getD j default) : wL l (j + 1) = wL l j + 1 := by unfold wL; rw [wI_p h]; simp
theorem wL_n (h : ¬ 0 < l.getD j default) : wL l (j + 1) = wL l j := by unfold wL; rw [wI_n h]
theorem wI_len : (wI l j).length = wL l j := rfl
theorem wP_len : (wP l j).length = wL l j := by
  induction j with
  | zero => rfl
  | succ j ih =>
    by_cases h : 0 < l.getD j default
    · rw [wP_p h, wL_p h, List.length_append, ih]; rfl
    · rw [wP_n h, wL_n h, ih]
theorem wI_z (h : wL l j = 0) : wI l j = [] := List.eq_nil_of_length_eq_zero h
theorem wP_z (h : wL l j = 0) : wP l j = [] := List.eq_nil_of_length_eq_zero (by rw [wP_len]; exact h)
theorem wL_le : wL l j ≤ j := by
  induction j with
  | zero => exact Nat.le_refl _
  | succ j ih =>
    by_cases h : 0 < l.getD j default
    · rw [wL_p h]; omega
    · rw [wL_n h]; omega
theorem wS_0 : wS l 0 = 0 := rfl
theorem wS_s : wS l (j + 1) = wS l j + l.getD j default := rfl
def okW (l : List Int) (j : Nat) : Prop := ∀ i, i < j → 0 ≤ l.getD i default ∧ l.getD i default ≤ 1000
theorem okW_0 : okW l 0 := fun i h => by omega
theorem okW_s (h : okW l j) (h1 : 0 ≤ l.getD j default) (h2 : l.getD j default ≤ 1000) : okW l (j + 1) := fun i hi => by
  by_cases e : i = j
  · subst e; exact ⟨h1, h2⟩
  · exact h i (by omega)
theorem wS_rng (h : okW l j) : 0 ≤ wS l j ∧ wS l j ≤ 1000 * j := by
  induction j with
  | zero => simp [wS]
  | succ j ih =>
    have := ih (fun i hi => h i (by omega))
    have := h j (by omega)
    rw [wS_s]; omega
def badW (l : List Int) : Bool := l.any fun w => decide (w < 0 ∨ 1000 < w)
theorem badW_at (hj : j < l.length) (h : l.getD j default < 0 ∨ 1000 < l.getD j default) : badW l = true := by
  rw [badW, List.any_eq_true]
  exact ⟨_, getD_mem hj, by simpa using h⟩
theorem wS_z (h : okW l j) (h0 : wL l j = 0) : wS l j = 0 := by
  induction j with
  | zero => rfl
  | succ j ih =>
    have hj := h j (by omega)
    by_cases hp : 0 < l.getD j default
    · rw [wL_p hp] at h0; omega
    · rw [wL_n hp] at h0
      have := ih (fun i hi => h i (by omega)) h0
      rw [wS_s]; omega
theorem tk_wI : (wI l j).take (wL l j) = wI l j := List.take_of_length_le (by rw [wI_len]; exact Nat.le_refl _)
theorem tk_wP : (wP l j).take (wL l j) = wP l j := List.take_of_length_le (by rw [wP_len]; exact Nat.le_refl _)
theorem badW_ok (h : okW l l.length) : badW l = false := by
  rw [badW, List.any_eq_false]
  intro x hx
  obtain ⟨i, hi, rfl⟩ := List.getElem_of_mem hx
  have := h i hi
  rw [List.getD_eq_getElem?_getD, List.getElem?_eq_getElem hi, Option.getD_some] at this
  simp; omega
def wtE (q : Int) (l : List Int) : Ex × Int := if 12 < l.length then (default, 3) else if badW l then (default, 7) else if q < 1 ∨ wS l l.length < q then (default, 7)
  else (thr q (servs (wI l l.length)) (wL l l.length == 0) (wP l l.length), 0)
theorem wtE_1 (h : 12 < l.length) : wtE q l = (default, 3) := by unfold wtE; rw [if_pos h]
theorem wtE_2 (h : ¬ 12 < l.length) (h2 : badW l = true) : wtE q l = (default, 7) := by unfold wtE; rw [if_neg h, if_pos h2]
theorem wtE_3 (h : ¬ 12 < l.length) (h2 : badW l = false) (h3 : q < 1 ∨ wS l l.length < q) : wtE q l = (default, 7) := by unfold wtE; rw [if_neg h, if_neg (by rw [h2]; simp), if_pos h3]
theorem wtE_4 (h : ¬ 12 < l.length) (h2 : badW l = false) (h3 : ¬ (q < 1 ∨ wS l l.length < q)) : wtE q l = (thr q (servs (wI l l.length)) (wL l l.length == 0) (wP l l.length), 0) := by
  unfold wtE; rw [if_neg h, if_neg (by rw [h2]; simp), if_neg h3]
theorem Wt_big (hl : l.length = n) (hn : n ≤ 2000) (h : 12 < l.length) : ACall Tryd.prog 40 [.val (.int .i64 q), .isl z (cI .i64 l) n] [] 0 (xeV (wtE q l)) [] := by
  rw [wtE_1 h]
  unfold xeV
  refine ACall.enter Tryd.func40 rfl (by simp [Tryd.ntmps40]) (by simp) ?_
  simp only [entry, idx, Tryd.ntmps40, List.length, List.map_cons, List.map_nil, List.append_nil, List.cons_append, List.nil_append, Nat.reduceAdd, Nat.zero_add, List.length_cons, List.length_nil]
  repeat' (first | (refine AC_seq ?_) | (refine AC_region_lit ?_) | ((first | refine AL_go rfl (fun K hK => ?_) | refine AL_go0 (fun K hK => ?_)); (first | refine R_move _ ?_ | refine R_assign _ ?_ | refine Q_load _ _ ?_ | refine Q_loadAgg _ _ ?_ | refine Q_indexAddr _ _ _ ?_ | refine Q_indexArr _ _ _ ?_ | refine Q_len _ _ ?_ | refine Q_lenStr _ _ ?_ | refine Q_pick _ _ _ ?_ | refine R_alloc _ ?_ | refine Q_store _ _ _ ?_ | refine Q_build _ _ ?_ | refine Q_buildArr _ _ ?_ | refine Q_buildSlice _ _ _ ?_ | refine Q_bin _ _ _ _ _ ?_ | refine Q_appendNil _ _ _ ?_); simp (dsimp := false) (disch := first | exact vD | fail) only [push_cast, simprocAttr]; (repeat (refine aI ?_)); (first | refine hK _ _ _ ?_ | refine hK _ _ ?_); clear hK K) | ((first | refine AL_go rfl (fun K hK => ?_) | refine AL_go0 (fun K hK => ?_)); (first | refine Q_append _ _ _ ?_); simp (dsimp := false) (disch := first | exact vD | fail) only [push_cast, simprocAttr]; (repeat (refine aI ?_)); (first | refine hK _ _ _ ?_ | refine hK _ _ ?_); clear hK K) | ((first | refine AL_go rfl (fun K hK => ?_) | refine AL_go0 (fun K hK => ?_)); (first | refine Q_append00 _ _ _ ?_); simp (dsimp := false) (disch := first | exact vD | fail) only [push_cast, simprocAttr]; (repeat (refine aI ?_)); (first | refine hK _ _ _ ?_ | refine hK _ _ ?_); clear hK K) | ((first | refine AL_go rfl (fun K hK => ?_) | refine AL_go0 (fun K hK => ?_)); (first | refine Q_appendIn _ _ _ ?_); simp (dsimp := false) (disch := first | exact vD | fail) only [push_cast, simprocAttr]; (repeat (refine aI ?_)); (first | refine hK _ _ _ ?_ | refine hK _ _ ?_); clear hK K) | ((first | refine AL_guard rfl rfl (fun K1 K2 h1 h2 => ?_) rfl | refine AC_cond_k (fun K1 K2 h1 h2 => ?_)); simp (dsimp := false) (disch := first | exact vD | fail) only [push_cast, simprocAttr]; (first | (refine ⟨fun hc => ?_, fun hc => ?_⟩ <;> first | (exfalso; omega) | (exfalso; contradiction) | refine h1 ?_ | refine h2 ?_) | refine h1 ?_ | refine h2 ?_); all_goals clear h1 h2 K1 K2) | (refine AL_nil ?_) | (refine Thn_normal ?_) | (refine Thn_ret ?_) | (refine Thn_exit ?_) | (refine Blk_normal ?_) | (refine Blk_ret ?_) | (refine Blk_here ?_) | (refine Blk_other rfl ?_) | (refine AC_block ?_) | (refine AC_exit ?_) | (refine AC_skip ?_) | (refine AC_ret ?_))
  all_goals (refine Ends.mk2 (by first | exact .inr rfl | exact .inl rfl) [] ?_; simp (dsimp := false) (disch := first | exact vD | fail) only [push_cast, simprocAttr, Tryd.f40, ex_dflt]; (repeat (refine aI ?_)); try (first | exact vI | fail))
def wtI (q : Int) (z : Bool) (l : List Int) (n : Nat) (j : {j : Nat // j ≤ n ∧ okW l j}) : St :=
  ⟨56, 0, [(0,.val (.int .i64 q)), (4,.pt 0 0), (6,.val (.int .i64 (wS l j.val))), (7,nilOr (wL l j.val) 1 1), (8,nilOr (wL l j.val) 2 1), (15,.isl z (cI .i64 l) n), (16,.val (.int .i64 n)), (17,.val (.int .i64 j.val))],
   [(0, some (.cells [.isl true [] 0, .val (.int .i64 0)] 26))] ++ nilOb (wL l j.val) 1 (cI .i64 (wI l j.val)) 3 ++ nilOb (wL l j.val) 2 (cI .i64 (wP l j.val)) 3⟩
theorem Wt_ok (hl : l.length = n) (hn : n ≤ 12) : ACall Tryd.prog 40 [.val (.int .i64 q), .isl z (cI .i64 l) n] [] 0 (xeV (wtE q l)) [] := by
  subst hl
  have hS := fun (j : Nat) (h : okW l j) => wS_rng h
  have hZ := fun (j : Nat) (h : okW l j) => wS_z h
  have hLe := fun (j : Nat) => wL_le (l := l) (j := j)
  have hk := kS (l := wI l l.length) (by rw [wI_len]; have := wL_le (l := l) (j := l.length); omega)
  unfold xeV
  refine ACall.enter Tryd.func40 rfl (by simp [Tryd.ntmps40]) (by simp) ?_
  simp only [entry, idx, Tryd.ntmps40, List.length, List.map_cons, List.map_nil, List.append_nil, List.cons_append, List.nil_append, Nat.reduceAdd, Nat.zero_add, List.length_cons, List.length_nil]
  repeat' (first | ((first | refine AC_frzS (r := 16) 1 ?_ | refine AC_frzR (r := 16) 1 ?_); simp (dsimp := false) (disch := first | exact vD | fail) only [push_cast, simprocAttr, wI_p, wI_n, wP_p, wP_n, wL_p, wL_n, wL_0, wI_len, wP_len, wI_z, wP_z, wS_0, wS_s, tk_wI, tk_wP]; (repeat (refine aI ?_)); intro K hK; refine hK _ _ ?_; clear hK K) | ((first | refine AC_frzS (r := 16) 2 ?_ | refine AC_frzR (r := 16) 2 ?_); simp (dsimp := false) (disch := first | exact vD | fail) only [push_cast, simprocAttr, wI_p, wI_n, wP_p, wP_n, wL_p, wL_n, wL_0, wI_len, wP_len, wI_z, wP_z, wS_0, wS_s, tk_wI, tk_wP]; (repeat (refine aI ?_)); intro K hK; refine hK _ _ ?_; clear hK K) | (refine AC_loop_id ?_; refine AC_loop' [0,1,2] ([0,1,2].length) (wtI q z l l.length) (fun j => l.length - j.val) (⟨0, by omega, okW_0⟩) rfl (by unfold wtI; (try simp only [List.cons_append, List.nil_append]); refine Sub.mk2 ?_; (simp (dsimp := false) (disch := first | exact vD | fail) only [push_cast, simprocAttr, wI_p, wI_n, wP_p, wP_n, wL_p, wL_n, wL_0, wI_len, wP_len, wI_z, wP_z, wS_0, wS_s, tk_wI, tk_wP]); (repeat (refine aI ?_)); (first | done | (first | exact vI | fail)); done) ?_; (rintro ⟨j, hj, hok⟩; have hjS := hS j hok; have hjZ := hZ j hok; have hjL := hLe j; rcases Nat.eq_zero_or_pos (wL l j) with h0 | h0 <;> rcases Nat.lt_or_eq_of_le hj with hjl | hjl <;> first | (have ej : l.length = j := hjl.symm; subst ej; (simp (dsimp := false) (disch := first | exact vD | fail) only [push_cast, simprocAttr, wtI])) | (simp (dsimp := false) (disch := first | exact vD | fail) only [push_cast, simprocAttr, wtI]))) | (refine Nxt_id ?_; refine Nxt.mk [0,1,2] (⟨j + 1, by omega, okW_s hok (by omega) (by omega)⟩) rfl (by unfold wtI; (try simp only [List.cons_append, List.nil_append]); refine Sub.mk2 ?_; (simp (dsimp := false) (disch := first | exact vD | fail) only [push_cast, simprocAttr, wI_p, wI_n, wP_p, wP_n, wL_p, wL_n, wL_0, wI_len, wP_len, wI_z, wP_z, wS_0, wS_s, tk_wI, tk_wP]); (repeat (refine aI ?_)); (first | done | (first | exact vI | fail)); done) (by first | omega | (simp; done) | (simp; omega))) | (refine Nxt_id ?_; refine Nxt.mk [0,4,6] (⟨j + 1, by omega, okW_s hok (by omega) (by omega)⟩) rfl (by unfold wtI; (try simp only [List.cons_append, List.nil_append]); refine Sub.mk2 ?_; (simp (dsimp := false) (disch := first | exact vD | fail) only [push_cast, simprocAttr, wI_p, wI_n, wP_p, wP_n, wL_p, wL_n, wL_0, wI_len, wP_len, wI_z, wP_z, wS_0, wS_s, tk_wI, tk_wP]); (repeat (refine aI ?_)); (first | done | (first | exact vI | fail)); done) (by first | omega | (simp; done) | (simp; omega))) | (refine AC_seq ?_) | (refine AC_region_lit ?_) | ((first | refine AL_go rfl (fun K hK => ?_) | refine AL_go0 (fun K hK => ?_)); (first | refine R_callG (f := 48) [] 0 false ?_ | refine R_callG (f := 47) [] 0 false ?_); simp (dsimp := false) (disch := first | exact vD | fail) only [push_cast, simprocAttr, wI_p, wI_n, wP_p, wP_n, wL_p, wL_n, wL_0, wI_len, wP_len, wI_z, wP_z, wS_0, wS_s, tk_wI, tk_wP]; (repeat (refine aI ?_)); intro G hG; refine hG _ _ ?_; clear hG G; (first | refine ⟨_, _, servers_ok (n := wL l l.length) rfl (by omega), ?_⟩ | refine ⟨_, _, thr_ok hk.toKOk (by rw [servs_len]; rfl) wP_len (by omega) (fun h => wP_z (by simpa using h)), ?_⟩); simp (dsimp := false) (disch := first | exact vD | fail) only [push_cast, simprocAttr, wI_p, wI_n, wP_p, wP_n, wL_p, wL_n, wL_0, wI_len, wP_len, wI_z, wP_z, wS_0, wS_s, tk_wI, tk_wP]; (repeat (refine aI ?_)); (first | refine hK _ _ _ ?_ | refine hK _ _ ?_); clear hK K) | ((first | refine AL_go rfl (fun K hK => ?_) | refine AL_go0 (fun K hK => ?_)); (first | refine R_move _ ?_ | refine R_assign _ ?_ | refine Q_load _ _ ?_ | refine Q_loadAgg _ _ ?_ | refine Q_indexAddr _ _ _ ?_ | refine Q_indexArr _ _ _ ?_ | refine Q_len _ _ ?_ | refine Q_lenStr _ _ ?_ | refine Q_pick _ _ _ ?_ | refine R_alloc _ ?_ | refine Q_store _ _ _ ?_ | refine Q_build _ _ ?_ | refine Q_buildArr _ _ ?_ | refine Q_buildSlice _ _ _ ?_ | refine Q_bin _ _ _ _ _ ?_ | refine Q_appendNil _ _ _ ?_); simp (dsimp := false) (disch := first | exact vD | fail) only [push_cast, simprocAttr, wI_p, wI_n, wP_p, wP_n, wL_p, wL_n, wL_0, wI_len, wP_len, wI_z, wP_z, wS_0, wS_s, tk_wI, tk_wP]; (repeat (refine aI ?_)); (first | refine hK _ _ _ ?_ | refine hK _ _ ?_); clear hK K) | ((first | refine AL_go rfl (fun K hK => ?_) | refine AL_go0 (fun K hK => ?_)); (first | refine Q_append _ _ _ ?_); simp (dsimp := false) (disch := first | exact vD | fail) only [push_cast, simprocAttr, wI_p, wI_n, wP_p, wP_n, wL_p, wL_n, wL_0, wI_len, wP_len, wI_z, wP_z, wS_0, wS_s, tk_wI, tk_wP]; (repeat (refine aI ?_)); (first | refine hK _ _ _ ?_ | refine hK _ _ ?_); clear hK K) | ((first | refine AL_go rfl (fun K hK => ?_) | refine AL_go0 (fun K hK => ?_)); (first | refine Q_append00 _ _ _ ?_); simp (dsimp := false) (disch := first | exact vD | fail) only [push_cast, simprocAttr, wI_p, wI_n, wP_p, wP_n, wL_p, wL_n, wL_0, wI_len, wP_len, wI_z, wP_z, wS_0, wS_s, tk_wI, tk_wP]; (repeat (refine aI ?_)); (first | refine hK _ _ _ ?_ | refine hK _ _ ?_); clear hK K) | ((first | refine AL_go rfl (fun K hK => ?_) | refine AL_go0 (fun K hK => ?_)); (first | refine Q_appendIn _ _ _ ?_); simp (dsimp := false) (disch := first | exact vD | fail) only [push_cast, simprocAttr, wI_p, wI_n, wP_p, wP_n, wL_p, wL_n, wL_0, wI_len, wP_len, wI_z, wP_z, wS_0, wS_s, tk_wI, tk_wP]; (repeat (refine aI ?_)); (first | refine hK _ _ _ ?_ | refine hK _ _ ?_); clear hK K) | ((first | refine AL_guard rfl rfl (fun K1 K2 h1 h2 => ?_) rfl | refine AC_cond_k (fun K1 K2 h1 h2 => ?_)); simp (dsimp := false) (disch := first | exact vD | fail) only [push_cast, simprocAttr, wI_p, wI_n, wP_p, wP_n, wL_p, wL_n, wL_0, wI_len, wP_len, wI_z, wP_z, wS_0, wS_s, tk_wI, tk_wP]; (first | (refine ⟨fun hc => ?_, fun hc => ?_⟩ <;> first | (exfalso; omega) | (exfalso; contradiction) | refine h1 ?_ | refine h2 ?_) | refine h1 ?_ | refine h2 ?_); all_goals clear h1 h2 K1 K2) | (refine AL_nil ?_) | (refine Thn_normal ?_) | (refine Thn_ret ?_) | (refine Thn_exit ?_) | (refine Blk_normal ?_) | (refine Blk_ret ?_) | (refine Blk_here ?_) | (refine Blk_other rfl ?_) | (refine AC_block ?_) | (refine AC_exit ?_) | (refine AC_skip ?_) | (refine AC_ret ?_))
  all_goals first
    | (have e := wtE_2 (q := q) (l := l) (by omega) (badW_at (j := j) (by omega) (by omega)); (refine Ends.mk2 (by first | exact .inr rfl | exact .inl rfl) [] ?_; simp (dsimp := false) (disch := first | exact vD | fail) only [push_cast, simprocAttr, Tryd.f40, e, ex_dflt]; (repeat (refine aI ?_)); try (first | exact vI | fail)); done)
    | (have e := wtE_3 (q := q) (l := l) (by omega) (badW_ok hok) (by omega); (refine Ends.mk2 (by first | exact .inr rfl | exact .inl rfl) [] ?_; simp (dsimp := false) (disch := first | exact vD | fail) only [push_cast, simprocAttr, Tryd.f40, e, ex_dflt]; (repeat (refine aI ?_)); try (first | exact vI | fail)); done)
    | (have e := wtE_4 (q := q) (l := l) (by omega) (badW_ok hok) (by omega); (refine Ends.mk2 (by first | exact .inr rfl | exact .inl rfl) [] ?_; simp (dsimp := false) (disch := first | exact vD | fail) only [push_cast, simprocAttr, Tryd.f40, e, beq_s]; (repeat (refine aI ?_)); try (first | exact vI | fail)); done)
theorem Wt_all (hl : l.length = n) (hn : n ≤ 2000) : ACall Tryd.prog 40 [.val (.int .i64 q), .isl z (cI .i64 l) n] [] 0 (xeV (wtE q l)) [] := by
  by_cases h : 12 < l.length
  · exact Wt_big hl hn h
  · exact Wt_ok hl (by omega)
end Go.Proofs.YtdeligopifoceaaDoor
