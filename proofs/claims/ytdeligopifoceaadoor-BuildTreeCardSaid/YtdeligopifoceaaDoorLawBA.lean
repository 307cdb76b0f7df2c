/- Build: the laws of Threshold, Weighted and the sizes. No condition. -/
import Derived.Test.YtdeligopifoceaaDoorBu32
import Derived.Test.YtdeligopifoceaaDoorBu27
set_option linter.unusedVariables false
set_option linter.unusedSectionVars false
set_option linter.unusedSimpArgs false
set_option linter.unnecessarySimpa false
set_option maxHeartbeats 2000000
set_option maxRecDepth 20000
namespace Go.Proofs.YtdeligopifoceaaDoor
open Go Go.Sy Go.Bp
attribute [local irreducible] AO AL AC OpT ACall Ends DGo DRun Thn Blk Nxt
variable {x y : Ex} {l : List Int} {n : Nat} {q a b e f : Int} {z : Bool}
theorem same_ok (hx : Short x) (hy : Short y) : ACall Tryd.prog 17 [.agg (Cells.cells x), .val (.int .i64 e), .agg (Cells.cells y), .val (.int .i64 f)] [] 0 (.val (.bool (decide (e = f) && sameX x y))) [] := by
  rcases Decidable.em (e = f) with h | h
  all_goals refine ACall.enter Tryd.func17 rfl (by simp [Tryd.ntmps17]) (by simp) ?_
  simp only [entry, idx, Tryd.ntmps17, List.length, List.map_cons, List.map_nil, List.append_nil, List.cons_append, List.nil_append, Nat.reduceAdd, Nat.zero_add, List.length_cons, List.length_nil]
  all_goals (repeat' (first | (refine AC_seq ?_) | (refine AC_region_lit ?_) | ((first | refine AL_go rfl (fun K hK => ?_) | refine AL_go0 (fun K hK => ?_)); (first | refine R_callG (f := 20) [] 0 false ?_); simp (dsimp := false) (disch := first | exact vD | fail) only [push_cast, simprocAttr, h]; (repeat (refine aI ?_)); intro G hG; refine hG _ _ ?_; clear hG G; (first | refine ⟨_, _, Same_ok hx hy, ?_⟩); simp (dsimp := false) (disch := first | exact vD | fail) only [push_cast, simprocAttr, h]; (repeat (refine aI ?_)); (first | refine hK _ _ _ ?_ | refine hK _ _ ?_); clear hK K) | ((first | refine AL_go rfl (fun K hK => ?_) | refine AL_go0 (fun K hK => ?_)); (first | refine R_move _ ?_ | refine R_assign _ ?_ | refine Q_load _ _ ?_ | refine Q_loadAgg _ _ ?_ | refine Q_pick _ _ _ ?_ | refine Q_box _ _ ?_ | refine Q_eqAgg _ _ _ _ ?_ | refine Q_neqAgg _ _ _ _ ?_ | refine Q_neqSelf _ _ _ _ ?_ | refine Q_bin _ _ _ _ _ ?_); simp (dsimp := false) (disch := first | exact vD | fail) only [push_cast, simprocAttr, h]; (repeat (refine aI ?_)); (first | refine hK _ _ _ ?_ | refine hK _ _ ?_); clear hK K) | ((first | refine AL_guard rfl rfl (fun K1 K2 h1 h2 => ?_) rfl | refine AC_cond_k (fun K1 K2 h1 h2 => ?_)); simp (dsimp := false) (disch := first | exact vD | fail) only [push_cast, simprocAttr, h]; (first | (refine ⟨fun hc => ?_, fun hc => ?_⟩ <;> first | (exfalso; omega) | (exfalso; contradiction) | refine h1 ?_ | refine h2 ?_) | refine h1 ?_ | refine h2 ?_); all_goals clear h1 h2 K1 K2) | (refine AL_nil ?_) | (refine Thn_normal ?_) | (refine Thn_ret ?_) | (refine Thn_exit ?_) | (refine Blk_normal ?_) | (refine Blk_ret ?_) | (refine Blk_here ?_) | (refine Blk_other rfl ?_) | (refine AC_block ?_) | (refine AC_exit ?_) | (refine AC_skip ?_) | (refine AC_ret ?_)))
  all_goals ((refine Ends.mk2 (by first | exact .inr rfl | exact .inl rfl) [] ?_; simp (dsimp := false) (disch := first | exact vD | fail) only [push_cast, simprocAttr, Tryd.f17, h]; (repeat (refine aI ?_)); try (first | exact vI | fail)))
theorem same_self (hx : Short x) : ACall Tryd.prog 17 [.agg (Cells.cells x), .val (.int .i64 e), .agg (Cells.cells x), .val (.int .i64 e)] [] 0 (.val (.bool true)) [] := by
  have h := same_ok (e := e) (f := e) hx hx
  rw [sameX_refl] at h; simpa using h
theorem XF_short {b : Nat} (h : XF b x) (hb : b ≤ 100000) : Short x := by
  refine ⟨by have := h.few; omega, fun j hj => ?_⟩
  have := h.nd _ (getD_mem (d := default) hj)
  exact ⟨by have := this.wl; omega, by have := this.kl; omega⟩
theorem short_dflt : Short (default : Ex) := ⟨by decide, fun j hj => absurd hj (by simp [show (default : Ex).nodes = [] from rfl])⟩
theorem XF_thrS {need : Int} {wz : Bool} {w : List Int} (h : l.length ≤ 1000) (hz : wz = true → w = []) (hw : w.length ≤ 1000) : XF 1001 (thr need (servs l) wz w) :=
  XF_thr (b := 1) (c := 1000) (fun u hu => by obtain ⟨i, _, rfl⟩ := List.mem_map.1 hu; exact XF_srv i) (by rw [servs_len]; exact h) (by omega) hz hw
theorem sh_thrE (h : l.length ≤ 1000) : Short (thrE q l).1 := by
  unfold thrE
  split
  · exact short_dflt
  · split
    · exact short_dflt
    · exact XF_short (XF_thrS h (fun _ => rfl) (by simp)) (by omega)
theorem sh_wtE : Short (wtE q l).1 := by
  unfold wtE
  split
  · exact short_dflt
  · split
    · exact short_dflt
    · split
      · exact short_dflt
      · have := wL_le (l := l) (j := l.length)
        exact XF_short (XF_thrS (by rw [wI_len]; omega) (fun h => wP_z (by simpa using h)) (by rw [wP_len]; omega)) (by omega)
theorem sh_majE : Short (majE a).1 := by
  unfold majE
  split
  · exact short_dflt
  · exact XF_short (XF_thrS (by rw [upTo_ln]; omega) (fun _ => rfl) (by simp)) (by omega)
theorem sh_byzE : Short (byzE a b).1 := by
  unfold byzE
  split
  · exact short_dflt
  · split
    · exact short_dflt
    · exact XF_short (XF_thrS (by rw [upTo_ln]; omega) (fun _ => rfl) (by simp)) (by omega)
theorem XF_tree3 : XF 13 tree3 := X3 4 ((XF_srv _).mono (by omega)) XF_t XF_t
theorem sh_treeE : Short (treeE a).1 := by
  unfold treeE
  split
  · exact short_dflt
  · unfold treeX
    split
    · exact XF_short (XF_srv 0) (by omega)
    · exact XF_short (XF_t (i := 0) (j := 1) (k := 2)) (by omega)
    · exact XF_short XF_tree3 (by omega)
theorem thr_law (hl : l.length = n) (hn : n < 2^47) (hz : z = true → l = []) : ACall Tryd.prog 3 [.val (.int .i64 q), .isl z (cI .i64 l) n] [] 0 (.val (.bool true)) [] := by
  have hsh := fun (h : n ≤ 20) => sh_thrE (q := q) (l := l) (by omega)
  have hT := fun (h : n ≤ 20) => PLift.up (T_ok (z := z) (q := q) hl (by omega : n ≤ 1000))
  have hR := fun (h : n ≤ 20) => PLift.up (RT_ok (z := z) (q := q) hl (by omega : n ≤ 1000))
  unfold xeV at hT hR
  generalize thrE q l = r at *
  refine ACall.enter Tryd.func3 rfl (by simp [Tryd.ntmps3]) (by simp) ?_
  simp only [entry, idx, Tryd.ntmps3, List.length, List.map_cons, List.map_nil, List.append_nil, List.cons_append, List.nil_append, Nat.reduceAdd, Nat.zero_add, List.length_cons, List.length_nil]
  repeat' (first | (refine AC_seq ?_) | (refine AC_region_lit ?_) | ((first | refine AL_go rfl (fun K hK => ?_) | refine AL_go0 (fun K hK => ?_)); (first | refine R_callG (f := 13) [] 0 false ?_ | refine R_callG (f := 15) [] 0 false ?_ | refine R_callG (f := 14) [] 0 false ?_ | refine R_callG (f := 16) [] 0 false ?_ | refine R_callG (f := 17) [] 0 false ?_); simp (dsimp := false) (disch := first | exact vD | fail) only [push_cast, simprocAttr]; (repeat (refine aI ?_)); intro G hG; refine hG _ _ ?_; clear hG G; (first | refine ⟨_, _, awake_ok, ?_⟩ | refine ⟨_, _, clone_f hl (by omega) hz, ?_⟩ | refine ⟨_, _, (hT (by omega)).down, ?_⟩ | refine ⟨_, _, (hR (by omega)).down, ?_⟩ | refine ⟨_, _, same_self (hsh (by omega)), ?_⟩); simp (dsimp := false) (disch := first | exact vD | fail) only [push_cast, simprocAttr]; (repeat (refine aI ?_)); (first | refine hK _ _ _ ?_ | refine hK _ _ ?_); clear hK K) | ((first | refine AL_go rfl (fun K hK => ?_) | refine AL_go0 (fun K hK => ?_)); (first | refine R_move _ ?_ | refine R_assign _ ?_ | refine Q_load _ _ ?_ | refine Q_loadAgg _ _ ?_ | refine Q_len _ _ ?_ | refine Q_lenStr _ _ ?_ | refine Q_pick _ _ _ ?_ | refine Q_not _ _ ?_ | refine Q_neg _ _ ?_ | refine Q_extract _ _ ?_ | refine R_alloc _ ?_ | refine Q_store _ _ _ ?_ | refine Q_bin _ _ _ _ _ ?_); simp (dsimp := false) (disch := first | exact vD | fail) only [push_cast, simprocAttr]; (repeat (refine aI ?_)); (first | refine hK _ _ _ ?_ | refine hK _ _ ?_); clear hK K) | ((first | refine AL_guard rfl rfl (fun K1 K2 h1 h2 => ?_) rfl | refine AC_cond_k (fun K1 K2 h1 h2 => ?_)); simp (dsimp := false) (disch := first | exact vD | fail) only [push_cast, simprocAttr]; (first | (refine ⟨fun hc => ?_, fun hc => ?_⟩ <;> first | (exfalso; omega) | (exfalso; contradiction) | refine h1 ?_ | refine h2 ?_) | refine h1 ?_ | refine h2 ?_); all_goals clear h1 h2 K1 K2) | (refine AL_nil ?_) | (refine Thn_normal ?_) | (refine Thn_ret ?_) | (refine Thn_exit ?_) | (refine Blk_normal ?_) | (refine Blk_ret ?_) | (refine Blk_here ?_) | (refine Blk_other rfl ?_) | (refine AC_block ?_) | (refine AC_exit ?_) | (refine AC_skip ?_) | (refine AC_ret ?_))
  all_goals (refine Ends.mk2 (by first | exact .inr rfl | exact .inl rfl) [] ?_; simp (dsimp := false) (disch := first | exact vD | fail) only [push_cast, simprocAttr, Tryd.f3]; (repeat (refine aI ?_)); try (first | exact vI | fail))
theorem wt_law (hl : l.length = n) (hn : n < 2^47) (hz : z = true → l = []) : ACall Tryd.prog 11 [.val (.int .i64 q), .isl z (cI .i64 l) n] [] 0 (.val (.bool true)) [] := by
  have hsh := sh_wtE (q := q) (l := l)
  have hT := fun (h : n ≤ 20) => PLift.up (Wt_all (z := z) (q := q) hl (by omega))
  have hR := fun (h : n ≤ 20) => PLift.up (RW_all (z := z) (q := q) hl (by omega))
  unfold xeV at hT hR
  generalize wtE q l = r at *
  refine ACall.enter Tryd.func11 rfl (by simp [Tryd.ntmps11]) (by simp) ?_
  simp only [entry, idx, Tryd.ntmps11, List.length, List.map_cons, List.map_nil, List.append_nil, List.cons_append, List.nil_append, Nat.reduceAdd, Nat.zero_add, List.length_cons, List.length_nil]
  repeat' (first | (refine AC_seq ?_) | (refine AC_region_lit ?_) | ((first | refine AL_go rfl (fun K hK => ?_) | refine AL_go0 (fun K hK => ?_)); (first | refine R_callG (f := 13) [] 0 false ?_ | refine R_callG (f := 15) [] 0 false ?_ | refine R_callG (f := 40) [] 0 false ?_ | refine R_callG (f := 41) [] 0 false ?_ | refine R_callG (f := 17) [] 0 false ?_); simp (dsimp := false) (disch := first | exact vD | fail) only [push_cast, simprocAttr]; (repeat (refine aI ?_)); intro G hG; refine hG _ _ ?_; clear hG G; (first | refine ⟨_, _, awake_ok, ?_⟩ | refine ⟨_, _, clone_f hl (by omega) hz, ?_⟩ | refine ⟨_, _, (hT (by omega)).down, ?_⟩ | refine ⟨_, _, (hR (by omega)).down, ?_⟩ | refine ⟨_, _, same_self hsh, ?_⟩); simp (dsimp := false) (disch := first | exact vD | fail) only [push_cast, simprocAttr]; (repeat (refine aI ?_)); (first | refine hK _ _ _ ?_ | refine hK _ _ ?_); clear hK K) | ((first | refine AL_go rfl (fun K hK => ?_) | refine AL_go0 (fun K hK => ?_)); (first | refine R_move _ ?_ | refine R_assign _ ?_ | refine Q_load _ _ ?_ | refine Q_loadAgg _ _ ?_ | refine Q_len _ _ ?_ | refine Q_lenStr _ _ ?_ | refine Q_pick _ _ _ ?_ | refine Q_not _ _ ?_ | refine Q_neg _ _ ?_ | refine Q_extract _ _ ?_ | refine R_alloc _ ?_ | refine Q_store _ _ _ ?_ | refine Q_bin _ _ _ _ _ ?_); simp (dsimp := false) (disch := first | exact vD | fail) only [push_cast, simprocAttr]; (repeat (refine aI ?_)); (first | refine hK _ _ _ ?_ | refine hK _ _ ?_); clear hK K) | ((first | refine AL_guard rfl rfl (fun K1 K2 h1 h2 => ?_) rfl | refine AC_cond_k (fun K1 K2 h1 h2 => ?_)); simp (dsimp := false) (disch := first | exact vD | fail) only [push_cast, simprocAttr]; (first | (refine ⟨fun hc => ?_, fun hc => ?_⟩ <;> first | (exfalso; omega) | (exfalso; contradiction) | refine h1 ?_ | refine h2 ?_) | refine h1 ?_ | refine h2 ?_); all_goals clear h1 h2 K1 K2) | (refine AL_nil ?_) | (refine Thn_normal ?_) | (refine Thn_ret ?_) | (refine Thn_exit ?_) | (refine Blk_normal ?_) | (refine Blk_ret ?_) | (refine Blk_here ?_) | (refine Blk_other rfl ?_) | (refine AC_block ?_) | (refine AC_exit ?_) | (refine AC_skip ?_) | (refine AC_ret ?_))
  all_goals (refine Ends.mk2 (by first | exact .inr rfl | exact .inl rfl) [] ?_; simp (dsimp := false) (disch := first | exact vD | fail) only [push_cast, simprocAttr, Tryd.f11]; (repeat (refine aI ?_)); try (first | exact vI | fail))
theorem sizes_law : ACall Tryd.prog 9 [.val (.int .i64 a), .val (.int .i64 b)] [] 0 (.val (.bool true)) [] := by
  have h1 := sh_majE (a := a)
  have h2 := sh_byzE (a := a) (b := b)
  have h3 := sh_treeE (a := a)
  have hM := M_ok (a := a)
  have hRM := RM_ok (a := a)
  have hB := B_ok (a := a) (f := b)
  have hRB := RB_ok (a := a) (f := b)
  have hT := Tr_ok (a := a)
  have hRT := RTr_ok (a := a)
  unfold xeV at hM hRM hB hRB hT hRT
  generalize majE a = r1 at *
  generalize byzE a b = r2 at *
  generalize treeE a = r3 at *
  refine ACall.enter Tryd.func9 rfl (by simp [Tryd.ntmps9]) (by simp) ?_
  simp only [entry, idx, Tryd.ntmps9, List.length, List.map_cons, List.map_nil, List.append_nil, List.cons_append, List.nil_append, Nat.reduceAdd, Nat.zero_add, List.length_cons, List.length_nil]
  repeat' (first | (refine AC_seq ?_) | (refine AC_region_lit ?_) | ((first | refine AL_go rfl (fun K hK => ?_) | refine AL_go0 (fun K hK => ?_)); (first | refine R_callG (f := 13) [] 0 false ?_ | refine R_callG (f := 33) [] 0 false ?_ | refine R_callG (f := 34) [] 0 false ?_ | refine R_callG (f := 35) [] 0 false ?_ | refine R_callG (f := 36) [] 0 false ?_ | refine R_callG (f := 26) [] 0 false ?_ | refine R_callG (f := 37) [] 0 false ?_ | refine R_callG (f := 17) (dst := some 55) [] 0 false ?_ | refine R_callG (f := 17) (dst := some 61) [] 0 false ?_ | refine R_callG (f := 17) (dst := some 68) [] 0 false ?_); simp (dsimp := false) (disch := first | exact vD | fail) only [push_cast, simprocAttr]; (repeat (refine aI ?_)); intro G hG; refine hG _ _ ?_; clear hG G; (first | refine ⟨_, _, awake_ok, ?_⟩ | refine ⟨_, _, hM, ?_⟩ | refine ⟨_, _, hRM, ?_⟩ | refine ⟨_, _, hB, ?_⟩ | refine ⟨_, _, hRB, ?_⟩ | refine ⟨_, _, hT, ?_⟩ | refine ⟨_, _, hRT, ?_⟩ | refine ⟨_, _, same_self h1, ?_⟩ | refine ⟨_, _, same_self h2, ?_⟩ | refine ⟨_, _, same_self h3, ?_⟩); simp (dsimp := false) (disch := first | exact vD | fail) only [push_cast, simprocAttr]; (repeat (refine aI ?_)); (first | refine hK _ _ _ ?_ | refine hK _ _ ?_); clear hK K) | ((first | refine AL_go rfl (fun K hK => ?_) | refine AL_go0 (fun K hK => ?_)); (first | refine R_move _ ?_ | refine R_assign _ ?_ | refine Q_load _ _ ?_ | refine Q_loadAgg _ _ ?_ | refine Q_pick _ _ _ ?_ | refine Q_not _ _ ?_ | refine Q_neg _ _ ?_ | refine Q_extract _ _ ?_ | refine R_alloc _ ?_ | refine Q_store _ _ _ ?_); simp (dsimp := false) (disch := first | exact vD | fail) only [push_cast, simprocAttr]; (repeat (refine aI ?_)); (first | refine hK _ _ _ ?_ | refine hK _ _ ?_); clear hK K) | ((first | refine AL_guard rfl rfl (fun K1 K2 h1 h2 => ?_) rfl | refine AC_cond_k (fun K1 K2 h1 h2 => ?_)); simp (dsimp := false) (disch := first | exact vD | fail) only [push_cast, simprocAttr]; (first | (refine ⟨fun hc => ?_, fun hc => ?_⟩ <;> first | (exfalso; omega) | (exfalso; contradiction) | refine h1 ?_ | refine h2 ?_) | refine h1 ?_ | refine h2 ?_); all_goals clear h1 h2 K1 K2) | (refine AL_nil ?_) | (refine Thn_normal ?_) | (refine Thn_ret ?_) | (refine Thn_exit ?_) | (refine Blk_normal ?_) | (refine Blk_ret ?_) | (refine Blk_here ?_) | (refine Blk_other rfl ?_) | (refine AC_block ?_) | (refine AC_exit ?_) | (refine AC_skip ?_) | (refine AC_ret ?_))
  all_goals (refine Ends.mk2 (by first | exact .inr rfl | exact .inl rfl) [] ?_; simp (dsimp := false) (disch := first | exact vD | fail) only [push_cast, simprocAttr, Tryd.f9]; (repeat (refine aI ?_)); try (first | exact vI | fail))
end Go.Proofs.YtdeligopifoceaaDoor
