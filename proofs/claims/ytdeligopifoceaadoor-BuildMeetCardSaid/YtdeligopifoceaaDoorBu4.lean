/- The builders: all, one; thresholds as expressions. No condition. -/
import Derived.Test.YtdeligopifoceaaDoorBu3
import Derived.Test.YtdeligopifoceaaDoorBpA
set_option linter.unusedVariables false
set_option linter.unusedSectionVars false
set_option linter.unusedSimpArgs false
set_option maxHeartbeats 1000000
set_option maxRecDepth 20000
namespace Go.Proofs.YtdeligopifoceaaDoor
open Go Go.Sy Go.Bp
attribute [local irreducible] AO AL AC OpT ACall Ends DGo DRun Thn Blk Nxt
variable {l k w : List Int} {z zk wz : Bool} {n K i j m b c : Nat} {a : Int} {kids : List Ex} {need : Int}
theorem KOkR_of (h : ∀ x ∈ kids, XF b x) (hc : kids.length ≤ c) (hc2 : c ≤ 1000) (hb : c * b ≤ 10000) : KOkR kids := by
  have hl := nodesA_few b [] kids h
  have hm := Nat.mul_le_mul_right b hc
  have hb2 : ∀ x ∈ kids, x.nodes.length ≤ 10000 := fun x hx => by
    have h1 := (h x hx).few
    have h2 : 1 ≤ kids.length := List.length_pos_iff.2 (by intro e; subst e; simp at hx)
    have := Nat.mul_le_mul_right b h2
    omega
  refine ⟨⟨fun x hx => (h x hx).ne, fun x hx n hn => ?_, fun x hx => ?_, by simp at hl; omega, by omega⟩, fun x hx => (h x hx).root, fun x hx n hn => ((h x hx).nd n hn).kzz⟩
  · have g := (h x hx).nd n hn
    have := hb2 x hx
    refine ⟨g.wz, fun hz => ?_, g.wl, g.kl, fun y hy => by have := g.ky y hy; omega⟩
    rw [g.kzz] at hz; exact List.isEmpty_iff.1 hz
  · have := (h x hx).root
    have h0 : 0 < x.nodes.length := List.length_pos_iff.2 (h x hx).ne
    have := hb2 x hx
    omega
theorem thr_eq (hK : kids.length = K) : (AV.agg [.isl false (cR (NJ kids K ++ [⟨2, 0, need, wz, w, K == 0, RJ kids K⟩])) ((NJ kids K).length + 1), .val (.int .i64 (NJ kids K).length)]) = .agg (Cells.cells (thr need kids wz w)) := by
  rw [NJ_all hK.symm, RJ_all hK.symm, ex_cells]
  have e : (K == 0) = (rootsA 0 kids).isEmpty := by
    subst hK; cases kids <;> rfl
  rw [e]
  simp [thr, topN]
theorem thr_ok (hk : KOk kids) (hK : kids.length = K) (hw : w.length = n) (hn : n ≤ 1000) (hz : wz = true → w = []) :
    ACall Tryd.prog 47 [.val (.int .i64 need), .isl zk (cR kids) K, .isl wz (cI .i64 w) n] [] 0 (.agg (Cells.cells (thr need kids wz w))) [] := by
  rw [← thr_eq hK]; exact thr_raw hk hK hw hn hz
theorem thr_n (hk : KOk kids) (hK : kids.length = K) : ACall Tryd.prog 47 [.val (.int .i64 need), .isl zk (cR kids) K, .isl true [] 0] [] 0 (.agg (Cells.cells (thr need kids true []))) [] :=
  thr_ok (w := []) (wz := true) hk hK rfl (by omega) (fun _ => rfl)
theorem rthr_ok (hk : KOkR kids) (hK : kids.length = K) : ACall Tryd.prog 50 [.val (.int .i64 need), .isl zk (cR kids) K] [] 0 (.agg (Cells.cells (thr need kids true []))) [] := by
  rw [← thr_eq hK]; exact rthr_raw hk hK
theorem all_ok (hk : KOk kids) (hL : kids.length = K) (hK2 : K ≤ 1000) : ACall Tryd.prog 53 [.isl zk (cR kids) K] [] 0 (.agg (Cells.cells (thr K kids true []))) [] := by
  refine ACall.enter Tryd.func53 rfl (by simp [Tryd.ntmps53]) (by simp) ?_
  simp only [entry, idx, Tryd.ntmps53, List.length, List.map_cons, List.map_nil, List.append_nil, List.cons_append, List.nil_append, Nat.reduceAdd, Nat.zero_add, List.length_cons, List.length_nil]
  repeat' (first | (refine AC_seq ?_) | (refine AC_region_lit ?_) | ((first | refine AL_go rfl (fun K hK => ?_) | refine AL_go0 (fun K hK => ?_)); (first | refine R_callG (f := 47) [] 0 false ?_); simp (dsimp := false) (disch := first | exact vD | fail) only [push_cast, simprocAttr]; (repeat (refine aI ?_)); intro G hG; refine hG _ _ ?_; clear hG G; (first | refine ⟨_, _, thr_n hk hL, ?_⟩); simp (dsimp := false) (disch := first | exact vD | fail) only [push_cast, simprocAttr]; (repeat (refine aI ?_)); (first | refine hK _ _ _ ?_ | refine hK _ _ ?_); clear hK K) | ((first | refine AL_go rfl (fun K hK => ?_) | refine AL_go0 (fun K hK => ?_)); (first | refine R_move _ ?_ | refine Q_len _ _ ?_ | refine Q_lenStr _ _ ?_ | refine R_alloc _ ?_ | refine Q_store _ _ _ ?_); simp (dsimp := false) (disch := first | exact vD | fail) only [push_cast, simprocAttr]; (repeat (refine aI ?_)); (first | refine hK _ _ _ ?_ | refine hK _ _ ?_); clear hK K) | ((first | refine AL_guard rfl rfl (fun K1 K2 h1 h2 => ?_) rfl | refine AC_cond_k (fun K1 K2 h1 h2 => ?_)); simp (dsimp := false) (disch := first | exact vD | fail) only [push_cast, simprocAttr]; (first | (refine ⟨fun hc => ?_, fun hc => ?_⟩ <;> first | (exfalso; omega) | (exfalso; contradiction) | refine h1 ?_ | refine h2 ?_) | refine h1 ?_ | refine h2 ?_); all_goals clear h1 h2 K1 K2) | (refine AL_nil ?_) | (refine Thn_normal ?_) | (refine Thn_ret ?_) | (refine Thn_exit ?_) | (refine Blk_normal ?_) | (refine Blk_ret ?_) | (refine Blk_here ?_) | (refine Blk_other rfl ?_) | (refine AC_block ?_) | (refine AC_exit ?_) | (refine AC_skip ?_) | (refine AC_ret ?_))
  all_goals (refine Ends.mk2 (by first | exact .inr rfl | exact .inl rfl) [] ?_; simp (dsimp := false) (disch := first | exact vD | fail) only [push_cast, simprocAttr, Tryd.f53]; (repeat (refine aI ?_)); try (first | exact vI | fail))
theorem one_ok (hk : KOk kids) (hL : kids.length = K) : ACall Tryd.prog 54 [.isl zk (cR kids) K] [] 0 (.agg (Cells.cells (thr 1 kids true []))) [] := by
  refine ACall.enter Tryd.func54 rfl (by simp [Tryd.ntmps54]) (by simp) ?_
  simp only [entry, idx, Tryd.ntmps54, List.length, List.map_cons, List.map_nil, List.append_nil, List.cons_append, List.nil_append, Nat.reduceAdd, Nat.zero_add, List.length_cons, List.length_nil]
  repeat' (first | (refine AC_seq ?_) | (refine AC_region_lit ?_) | ((first | refine AL_go rfl (fun K hK => ?_) | refine AL_go0 (fun K hK => ?_)); (first | refine R_callG (f := 47) [] 0 false ?_); simp (dsimp := false) (disch := first | exact vD | fail) only [push_cast, simprocAttr]; (repeat (refine aI ?_)); intro G hG; refine hG _ _ ?_; clear hG G; (first | refine ⟨_, _, thr_n hk hL, ?_⟩); simp (dsimp := false) (disch := first | exact vD | fail) only [push_cast, simprocAttr]; (repeat (refine aI ?_)); (first | refine hK _ _ _ ?_ | refine hK _ _ ?_); clear hK K) | ((first | refine AL_go rfl (fun K hK => ?_) | refine AL_go0 (fun K hK => ?_)); (first | refine R_move _ ?_ | refine R_alloc _ ?_ | refine Q_store _ _ _ ?_); simp (dsimp := false) (disch := first | exact vD | fail) only [push_cast, simprocAttr]; (repeat (refine aI ?_)); (first | refine hK _ _ _ ?_ | refine hK _ _ ?_); clear hK K) | ((first | refine AL_guard rfl rfl (fun K1 K2 h1 h2 => ?_) rfl | refine AC_cond_k (fun K1 K2 h1 h2 => ?_)); simp (dsimp := false) (disch := first | exact vD | fail) only [push_cast, simprocAttr]; (first | (refine ⟨fun hc => ?_, fun hc => ?_⟩ <;> first | (exfalso; omega) | (exfalso; contradiction) | refine h1 ?_ | refine h2 ?_) | refine h1 ?_ | refine h2 ?_); all_goals clear h1 h2 K1 K2) | (refine AL_nil ?_) | (refine Thn_normal ?_) | (refine Thn_ret ?_) | (refine Thn_exit ?_) | (refine Blk_normal ?_) | (refine Blk_ret ?_) | (refine Blk_here ?_) | (refine Blk_other rfl ?_) | (refine AC_block ?_) | (refine AC_exit ?_) | (refine AC_skip ?_) | (refine AC_ret ?_))
  all_goals (refine Ends.mk2 (by first | exact .inr rfl | exact .inl rfl) [] ?_; simp (dsimp := false) (disch := first | exact vD | fail) only [push_cast, simprocAttr, Tryd.f54]; (repeat (refine aI ?_)); try (first | exact vI | fail))
theorem rall_ok (hk : KOkR kids) (hL : kids.length = K) (hK2 : K ≤ 1000) : ACall Tryd.prog 56 [.isl zk (cR kids) K] [] 0 (.agg (Cells.cells (thr K kids true []))) [] := by
  refine ACall.enter Tryd.func56 rfl (by simp [Tryd.ntmps56]) (by simp) ?_
  simp only [entry, idx, Tryd.ntmps56, List.length, List.map_cons, List.map_nil, List.append_nil, List.cons_append, List.nil_append, Nat.reduceAdd, Nat.zero_add, List.length_cons, List.length_nil]
  repeat' (first | (refine AC_seq ?_) | (refine AC_region_lit ?_) | ((first | refine AL_go rfl (fun K hK => ?_) | refine AL_go0 (fun K hK => ?_)); (first | refine R_callG (f := 50) [] 0 false ?_); simp (dsimp := false) (disch := first | exact vD | fail) only [push_cast, simprocAttr]; (repeat (refine aI ?_)); intro G hG; refine hG _ _ ?_; clear hG G; (first | refine ⟨_, _, rthr_ok hk hL, ?_⟩); simp (dsimp := false) (disch := first | exact vD | fail) only [push_cast, simprocAttr]; (repeat (refine aI ?_)); (first | refine hK _ _ _ ?_ | refine hK _ _ ?_); clear hK K) | ((first | refine AL_go rfl (fun K hK => ?_) | refine AL_go0 (fun K hK => ?_)); (first | refine R_move _ ?_ | refine Q_len _ _ ?_ | refine Q_lenStr _ _ ?_ | refine R_alloc _ ?_ | refine Q_store _ _ _ ?_); simp (dsimp := false) (disch := first | exact vD | fail) only [push_cast, simprocAttr]; (repeat (refine aI ?_)); (first | refine hK _ _ _ ?_ | refine hK _ _ ?_); clear hK K) | ((first | refine AL_guard rfl rfl (fun K1 K2 h1 h2 => ?_) rfl | refine AC_cond_k (fun K1 K2 h1 h2 => ?_)); simp (dsimp := false) (disch := first | exact vD | fail) only [push_cast, simprocAttr]; (first | (refine ⟨fun hc => ?_, fun hc => ?_⟩ <;> first | (exfalso; omega) | (exfalso; contradiction) | refine h1 ?_ | refine h2 ?_) | refine h1 ?_ | refine h2 ?_); all_goals clear h1 h2 K1 K2) | (refine AL_nil ?_) | (refine Thn_normal ?_) | (refine Thn_ret ?_) | (refine Thn_exit ?_) | (refine Blk_normal ?_) | (refine Blk_ret ?_) | (refine Blk_here ?_) | (refine Blk_other rfl ?_) | (refine AC_block ?_) | (refine AC_exit ?_) | (refine AC_skip ?_) | (refine AC_ret ?_))
  all_goals (refine Ends.mk2 (by first | exact .inr rfl | exact .inl rfl) [] ?_; simp (dsimp := false) (disch := first | exact vD | fail) only [push_cast, simprocAttr, Tryd.f56]; (repeat (refine aI ?_)); try (first | exact vI | fail))
theorem rone_ok (hk : KOkR kids) (hL : kids.length = K) : ACall Tryd.prog 57 [.isl zk (cR kids) K] [] 0 (.agg (Cells.cells (thr 1 kids true []))) [] := by
  refine ACall.enter Tryd.func57 rfl (by simp [Tryd.ntmps57]) (by simp) ?_
  simp only [entry, idx, Tryd.ntmps57, List.length, List.map_cons, List.map_nil, List.append_nil, List.cons_append, List.nil_append, Nat.reduceAdd, Nat.zero_add, List.length_cons, List.length_nil]
  repeat' (first | (refine AC_seq ?_) | (refine AC_region_lit ?_) | ((first | refine AL_go rfl (fun K hK => ?_) | refine AL_go0 (fun K hK => ?_)); (first | refine R_callG (f := 50) [] 0 false ?_); simp (dsimp := false) (disch := first | exact vD | fail) only [push_cast, simprocAttr]; (repeat (refine aI ?_)); intro G hG; refine hG _ _ ?_; clear hG G; (first | refine ⟨_, _, rthr_ok hk hL, ?_⟩); simp (dsimp := false) (disch := first | exact vD | fail) only [push_cast, simprocAttr]; (repeat (refine aI ?_)); (first | refine hK _ _ _ ?_ | refine hK _ _ ?_); clear hK K) | ((first | refine AL_go rfl (fun K hK => ?_) | refine AL_go0 (fun K hK => ?_)); (first | refine R_move _ ?_ | refine R_alloc _ ?_ | refine Q_store _ _ _ ?_); simp (dsimp := false) (disch := first | exact vD | fail) only [push_cast, simprocAttr]; (repeat (refine aI ?_)); (first | refine hK _ _ _ ?_ | refine hK _ _ ?_); clear hK K) | ((first | refine AL_guard rfl rfl (fun K1 K2 h1 h2 => ?_) rfl | refine AC_cond_k (fun K1 K2 h1 h2 => ?_)); simp (dsimp := false) (disch := first | exact vD | fail) only [push_cast, simprocAttr]; (first | (refine ⟨fun hc => ?_, fun hc => ?_⟩ <;> first | (exfalso; omega) | (exfalso; contradiction) | refine h1 ?_ | refine h2 ?_) | refine h1 ?_ | refine h2 ?_); all_goals clear h1 h2 K1 K2) | (refine AL_nil ?_) | (refine Thn_normal ?_) | (refine Thn_ret ?_) | (refine Thn_exit ?_) | (refine Blk_normal ?_) | (refine Blk_ret ?_) | (refine Blk_here ?_) | (refine Blk_other rfl ?_) | (refine AC_block ?_) | (refine AC_exit ?_) | (refine AC_skip ?_) | (refine AC_ret ?_))
  all_goals (refine Ends.mk2 (by first | exact .inr rfl | exact .inl rfl) [] ?_; simp (dsimp := false) (disch := first | exact vD | fail) only [push_cast, simprocAttr, Tryd.f57]; (repeat (refine aI ?_)); try (first | exact vI | fail))
end Go.Proofs.YtdeligopifoceaaDoor
