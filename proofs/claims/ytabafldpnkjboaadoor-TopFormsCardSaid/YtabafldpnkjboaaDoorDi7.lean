/- Diagrams: the program's numbered, Valid of a diagram in order, Eval. No condition. -/
import Derived.Test.YtabafldpnkjboaaDoorDi6
import Derived.Test.YtabafldpnkjboaaDoorDi5
set_option linter.unusedVariables false
set_option linter.unusedSectionVars false
set_option linter.unusedSimpArgs false
set_option maxHeartbeats 4000000
set_option maxRecDepth 20000
namespace Go.Proofs.YtabafldpnkjboaaDoor
open Go Go.Sy Go.Dg
attribute [local irreducible] AO AL AC OpT ACall Ends DGo DRun Thn Blk Nxt
variable {N N' N1 N2 T M : Nat} {F F1 F2 G : List Fo} {L L' : List Fk} {v lo hi n k k1 k2 k' i m s t a b r nx n1 n2 : Nat} {p q p' q' : Int} {z z' : Bool} {x y : Fk} {b1 b2 : Bool}
theorem tn12 (k : Nat) : ((k : Int) + 1 + 1).toNat = k + 2 := by omega
def leftL (M nx : Nat) : List Bool := (List.range M).map fun j => decide (2 ≤ j) && decide (j < nx)
theorem left_len : (leftL M nx).length = M := by simp [leftL]
theorem left_at (h : r < M) : (leftL M nx).getD r default = (decide (2 ≤ r) && decide (r < nx)) := by
  unfold leftL
  rw [List.getD_eq_getElem?_getD, List.getElem?_map, List.getElem?_range h]; rfl
theorem left_2 : leftL M 2 = List.replicate M false := by
  unfold leftL
  rw [List.eq_replicate_iff]
  refine ⟨by simp, fun b hb => ?_⟩
  obtain ⟨j, _, rfl⟩ := List.mem_map.1 hb
  by_cases h : 2 ≤ j
  · rw [decide_eq_false (show ¬ j < 2 by omega), Bool.and_false]
  · rw [decide_eq_false h, Bool.false_and]
theorem left_set (h2 : 2 ≤ r) (hr : r < M) : (cB (leftL M r)).set r (.val (.bool true)) = cB (leftL M (r + 1)) := by
  unfold cB leftL
  rw [List.map_map, List.map_map]
  apply List.ext_getElem (by simp)
  intro j h1 h3
  rw [List.getElem_set]
  simp only [List.getElem_map, List.getElem_range, Function.comp]
  by_cases e : r = j
  · subst e; simp [h2]
  · rw [if_neg e]
    have : decide (j < r) = decide (j < r + 1) := decide_eq_decide.2 ⟨fun h => by omega, fun h => by omega⟩
    rw [this]
abbrev vA (z : Bool) (n : Nat) (F : List Fo) (N : Nat) (q : Int) : List AV := [.pt 0 0, .ipt [.val (.int .i64 n), .isl z (cR F) N, .val (.int .i64 q)] 0, .pt 1 0, .pt 2 0]
abbrev vO (z : Bool) (n : Nat) (F : List Fo) (N : Nat) (q : Int) (nx : Nat) : List AObj := [.cells [.sl 3 0 (N + 2) 1] 121, .cells [.fn 75 [.pt 0 0, .ipt [.val (.int .i64 n), .isl z (cR F) N, .val (.int .i64 q)] 0, .pt 1 0, .pt 2 0]] 118, .cells [.val (.int .i64 nx)] 3, .cells (cB (leftL (N + 2) nx)) 4]
theorem visit_lt (hr : r < 2) : ACall Tryd.prog 75 (.val (.int .i64 r) :: vA z n F N q) (vO z n F N q nx) 4 (.val (.bool true)) (vO z n F N q nx) := by
  unfold vA vO
  refine ACall.enter Tryd.func75 rfl (by simp [Tryd.ntmps75]) (by simp) ?_; simp only [entry, idx, Tryd.ntmps75, List.length, List.map_cons, List.map_nil, List.append_nil, List.cons_append, List.nil_append, Nat.reduceAdd, Nat.zero_add, List.length_cons, List.length_nil]
  repeat' (first | apply AC_seq | apply AC_region_lit | ((first | refine AL_go rfl (fun K hK => ?_) | refine AL_go0 (fun K hK => ?_)); (first | apply R_move | apply R_assign | apply Q_load | apply Q_loadAgg | apply Q_fieldAddr | apply Q_indexAddr | apply Q_indexArr | apply Q_pick | apply Q_not | apply Q_neg | apply R_alloc | apply Q_store | apply Q_eqAgg | apply Q_neqAgg | apply Q_neqSelf | apply Q_bin); simp -dsimp (disch := try exact vD) only [push_cast, simprocAttr]; (repeat refine aI ?_); apply hK; clear hK K) | ((first | refine AL_guard rfl rfl (fun K1 K2 h1 h2 => ?_) rfl | refine AC_cond_k (fun K1 K2 h1 h2 => ?_)); simp -dsimp (disch := try exact vD) only [push_cast, simprocAttr]; (first | (refine ⟨fun hc => ?_, fun hc => ?_⟩ <;> first | (exfalso; omega) | (exfalso; contradiction) | refine h1 ?_ | refine h2 ?_) | refine h1 ?_ | refine h2 ?_); all_goals clear h1 h2 K1 K2) | apply AL_nil | apply Thn_normal | apply Thn_ret | apply Thn_exit | apply Blk_normal | apply Blk_ret | apply Blk_here | (refine Blk_other rfl ?_) | apply AC_block | apply AC_exit | apply AC_skip | apply AC_ret)
  all_goals ((refine Ends.mk2 (by first | exact .inr rfl | exact .inl rfl) [0, 1, 2, 3] ?_; simp -dsimp (disch := try exact vD) only [push_cast, simprocAttr, Tryd.f75]; (repeat refine aI ?_); try (first | exact vI | fail)))
theorem visit_old (h2 : 2 ≤ r) (hr : r < nx) (hN : r < N + 2) (hN2 : N < 2 ^ 40) : ACall Tryd.prog 75 (.val (.int .i64 r) :: vA z n F N q) (vO z n F N q nx) 4 (.val (.bool true)) (vO z n F N q nx) := by
  have hlen := left_len (M := N + 2) (nx := nx)
  have hl := left_at (nx := nx) hN
  rw [decide_eq_true h2, decide_eq_true hr] at hl
  unfold vA vO
  refine ACall.enter Tryd.func75 rfl (by simp [Tryd.ntmps75]) (by simp) ?_; simp only [entry, idx, Tryd.ntmps75, List.length, List.map_cons, List.map_nil, List.append_nil, List.cons_append, List.nil_append, Nat.reduceAdd, Nat.zero_add, List.length_cons, List.length_nil]
  repeat' (first | apply AC_seq | apply AC_region_lit | ((first | refine AL_go rfl (fun K hK => ?_) | refine AL_go0 (fun K hK => ?_)); (first | apply R_move | apply R_assign | apply Q_load | apply Q_loadAgg | apply Q_fieldAddr | apply Q_indexAddr | apply Q_indexArr | apply Q_pick | apply Q_not | apply Q_neg | apply R_alloc | apply Q_store | apply Q_eqAgg | apply Q_neqAgg | apply Q_neqSelf | apply Q_bin); simp -dsimp (disch := try exact vD) only [push_cast, simprocAttr, hl, left_len, cB_len]; (repeat refine aI ?_); apply hK; clear hK K) | ((first | refine AL_guard rfl rfl (fun K1 K2 h1 h2 => ?_) rfl | refine AC_cond_k (fun K1 K2 h1 h2 => ?_)); simp -dsimp (disch := try exact vD) only [push_cast, simprocAttr, hl, left_len, cB_len]; (first | (refine ⟨fun hc => ?_, fun hc => ?_⟩ <;> first | (exfalso; omega) | (exfalso; contradiction) | refine h1 ?_ | refine h2 ?_) | refine h1 ?_ | refine h2 ?_); all_goals clear h1 h2 K1 K2) | apply AL_nil | apply Thn_normal | apply Thn_ret | apply Thn_exit | apply Blk_normal | apply Blk_ret | apply Blk_here | (refine Blk_other rfl ?_) | apply AC_block | apply AC_exit | apply AC_skip | apply AC_ret)
  all_goals ((refine Ends.mk2 (by first | exact .inr rfl | exact .inl rfl) [0, 1, 2, 3] ?_; simp -dsimp (disch := try exact vD) only [push_cast, simprocAttr, Tryd.f75]; (repeat refine aI ?_); try (first | exact vI | fail)))
theorem visit_A (hN : F.length = N) (hN2 : N < 2 ^ 40) (hk : k < N) (hr : nx ≤ k + 2) 
    (h1 : ACall Tryd.prog 75 (.val (.int .i64 (F.getD k default).lo) :: vA z n F N q) (vO z n F N q nx) 4 (.val (.bool false)) (vO z n F N q n1)) :
    ACall Tryd.prog 75 (.val (.int .i64 ((k : Int) + 1 + 1)) :: vA z n F N q) (vO z n F N q nx) 4 (.val (.bool false)) (vO z n F N q n1) := by
  have hlen := left_len (M := N + 2) (nx := nx)
  have hl := left_at (nx := nx) (M := N + 2) (r := k + 2) (by omega)
  rw [decide_eq_false (show ¬ k + 2 < nx by omega), Bool.and_false] at hl
  have hl2 := left_at (nx := nx) (M := N + 2) (r := k + 1 + 1) (by omega)
  rw [decide_eq_false (show ¬ k + 1 + 1 < nx by omega), Bool.and_false] at hl2
  have h1 := PLift.up h1
  have hg : ¬ (k : Int) + 1 + 1 < 2 := by omega
  unfold vA vO at *
  refine ACall.enter Tryd.func75 rfl (by simp [Tryd.ntmps75]) (by simp) ?_; simp only [entry, idx, Tryd.ntmps75, List.length, List.map_cons, List.map_nil, List.append_nil, List.cons_append, List.nil_append, Nat.reduceAdd, Nat.zero_add, List.length_cons, List.length_nil]
  repeat' (first | apply AC_seq | apply AC_region_lit | ((first | refine AL_go rfl (fun K hK => ?_) | refine AL_go0 (fun K hK => ?_)); (first | refine R_callFnG (f := 75) (dst := some 25) [0, 1, 2, 3] 4 false ?_); simp -dsimp (disch := try exact vD) only [push_cast, simprocAttr, hg, hl, hl2, left_len, cB_len, sub12, tn12, fo_cells]; (repeat refine aI ?_); intro G hG; refine hG _ _ ?_; clear hG G; (first | refine ⟨_, _, h1.down, ?_⟩); simp -dsimp (disch := try exact vD) only [push_cast, simprocAttr, hg, hl, hl2, left_len, cB_len, sub12, tn12, fo_cells]; (repeat refine aI ?_); apply hK; clear hK K) | ((first | refine AL_go rfl (fun K hK => ?_) | refine AL_go0 (fun K hK => ?_)); (first | apply R_move | apply R_assign | apply Q_load | apply Q_loadAgg | apply Q_fieldAddr | apply Q_indexAddr | apply Q_indexArr | apply Q_pick | apply Q_not | apply Q_neg | apply R_alloc | apply Q_store | apply Q_eqAgg | apply Q_neqAgg | apply Q_neqSelf | apply Q_bin); simp -dsimp (disch := try exact vD) only [push_cast, simprocAttr, hg, hl, hl2, left_len, cB_len, sub12, tn12, fo_cells]; (repeat refine aI ?_); apply hK; clear hK K) | ((first | refine AL_guard rfl rfl (fun K1 K2 h1 h2 => ?_) rfl | refine AC_cond_k (fun K1 K2 h1 h2 => ?_)); simp -dsimp (disch := try exact vD) only [push_cast, simprocAttr, hg, hl, hl2, left_len, cB_len, sub12, tn12, fo_cells]; (first | (refine ⟨fun hc => ?_, fun hc => ?_⟩ <;> first | (exfalso; omega) | (exfalso; contradiction) | refine h1 ?_ | refine h2 ?_) | refine h1 ?_ | refine h2 ?_); all_goals clear h1 h2 K1 K2) | apply AL_nil | apply Thn_normal | apply Thn_ret | apply Thn_exit | apply Blk_normal | apply Blk_ret | apply Blk_here | (refine Blk_other rfl ?_) | apply AC_block | apply AC_exit | apply AC_skip | apply AC_ret)
  all_goals first
    | ((refine Ends.mk2 (by first | exact .inr rfl | exact .inl rfl) [0, 1, 2, 3] ?_; simp -dsimp (disch := try exact vD) only [push_cast, simprocAttr, Tryd.f75]; (repeat refine aI ?_); try (first | exact vI | fail)); done)
    | trace_state
theorem visit_B (hN : F.length = N) (hN2 : N < 2 ^ 40) (hk : k < N) (hr : nx ≤ k + 2) 
    (h1 : ACall Tryd.prog 75 (.val (.int .i64 (F.getD k default).lo) :: vA z n F N q) (vO z n F N q nx) 4 (.val (.bool true)) (vO z n F N q n1))
    (h2 : ACall Tryd.prog 75 (.val (.int .i64 (F.getD k default).hi) :: vA z n F N q) (vO z n F N q n1) 4 (.val (.bool false)) (vO z n F N q n2)) :
    ACall Tryd.prog 75 (.val (.int .i64 ((k : Int) + 1 + 1)) :: vA z n F N q) (vO z n F N q nx) 4 (.val (.bool false)) (vO z n F N q n2) := by
  have hlen := left_len (M := N + 2) (nx := nx)
  have hl := left_at (nx := nx) (M := N + 2) (r := k + 2) (by omega)
  rw [decide_eq_false (show ¬ k + 2 < nx by omega), Bool.and_false] at hl
  have hl2 := left_at (nx := nx) (M := N + 2) (r := k + 1 + 1) (by omega)
  rw [decide_eq_false (show ¬ k + 1 + 1 < nx by omega), Bool.and_false] at hl2
  have h1 := PLift.up h1
  have h2 := PLift.up h2
  have hg : ¬ (k : Int) + 1 + 1 < 2 := by omega
  unfold vA vO at *
  refine ACall.enter Tryd.func75 rfl (by simp [Tryd.ntmps75]) (by simp) ?_; simp only [entry, idx, Tryd.ntmps75, List.length, List.map_cons, List.map_nil, List.append_nil, List.cons_append, List.nil_append, Nat.reduceAdd, Nat.zero_add, List.length_cons, List.length_nil]
  repeat' (first | apply AC_seq | apply AC_region_lit | ((first | refine AL_go rfl (fun K hK => ?_) | refine AL_go0 (fun K hK => ?_)); (first | refine R_callFnG (f := 75) (dst := some 25) [0, 1, 2, 3] 4 false ?_ | refine R_callFnG (f := 75) (dst := some 31) [0, 1, 2, 3] 4 false ?_); simp -dsimp (disch := try exact vD) only [push_cast, simprocAttr, hg, hl, hl2, left_len, cB_len, sub12, tn12, fo_cells]; (repeat refine aI ?_); intro G hG; refine hG _ _ ?_; clear hG G; (first | refine ⟨_, _, h1.down, ?_⟩ | refine ⟨_, _, h2.down, ?_⟩); simp -dsimp (disch := try exact vD) only [push_cast, simprocAttr, hg, hl, hl2, left_len, cB_len, sub12, tn12, fo_cells]; (repeat refine aI ?_); apply hK; clear hK K) | ((first | refine AL_go rfl (fun K hK => ?_) | refine AL_go0 (fun K hK => ?_)); (first | apply R_move | apply R_assign | apply Q_load | apply Q_loadAgg | apply Q_fieldAddr | apply Q_indexAddr | apply Q_indexArr | apply Q_pick | apply Q_not | apply Q_neg | apply R_alloc | apply Q_store | apply Q_eqAgg | apply Q_neqAgg | apply Q_neqSelf | apply Q_bin); simp -dsimp (disch := try exact vD) only [push_cast, simprocAttr, hg, hl, hl2, left_len, cB_len, sub12, tn12, fo_cells]; (repeat refine aI ?_); apply hK; clear hK K) | ((first | refine AL_guard rfl rfl (fun K1 K2 h1 h2 => ?_) rfl | refine AC_cond_k (fun K1 K2 h1 h2 => ?_)); simp -dsimp (disch := try exact vD) only [push_cast, simprocAttr, hg, hl, hl2, left_len, cB_len, sub12, tn12, fo_cells]; (first | (refine ⟨fun hc => ?_, fun hc => ?_⟩ <;> first | (exfalso; omega) | (exfalso; contradiction) | refine h1 ?_ | refine h2 ?_) | refine h1 ?_ | refine h2 ?_); all_goals clear h1 h2 K1 K2) | apply AL_nil | apply Thn_normal | apply Thn_ret | apply Thn_exit | apply Blk_normal | apply Blk_ret | apply Blk_here | (refine Blk_other rfl ?_) | apply AC_block | apply AC_exit | apply AC_skip | apply AC_ret)
  all_goals first
    | ((refine Ends.mk2 (by first | exact .inr rfl | exact .inl rfl) [0, 1, 2, 3] ?_; simp -dsimp (disch := try exact vD) only [push_cast, simprocAttr, Tryd.f75]; (repeat refine aI ?_); try (first | exact vI | fail)); done)
    | trace_state
theorem visit_C (hN : F.length = N) (hN2 : N < 2 ^ 40) (hk : k < N) (hr : nx ≤ k + 2) (hne : ¬ k + 2 = n2)
    (h1 : ACall Tryd.prog 75 (.val (.int .i64 (F.getD k default).lo) :: vA z n F N q) (vO z n F N q nx) 4 (.val (.bool true)) (vO z n F N q n1))
    (h2 : ACall Tryd.prog 75 (.val (.int .i64 (F.getD k default).hi) :: vA z n F N q) (vO z n F N q n1) 4 (.val (.bool true)) (vO z n F N q n2)) :
    ACall Tryd.prog 75 (.val (.int .i64 ((k : Int) + 1 + 1)) :: vA z n F N q) (vO z n F N q nx) 4 (.val (.bool false)) (vO z n F N q n2) := by
  have hlen := left_len (M := N + 2) (nx := nx)
  have hl := left_at (nx := nx) (M := N + 2) (r := k + 2) (by omega)
  rw [decide_eq_false (show ¬ k + 2 < nx by omega), Bool.and_false] at hl
  have hl2 := left_at (nx := nx) (M := N + 2) (r := k + 1 + 1) (by omega)
  rw [decide_eq_false (show ¬ k + 1 + 1 < nx by omega), Bool.and_false] at hl2
  have hne2 : ¬ (k : Int) + 1 + 1 = n2 := by omega
  have h1 := PLift.up h1
  have h2 := PLift.up h2
  have hg : ¬ (k : Int) + 1 + 1 < 2 := by omega
  unfold vA vO at *
  refine ACall.enter Tryd.func75 rfl (by simp [Tryd.ntmps75]) (by simp) ?_; simp only [entry, idx, Tryd.ntmps75, List.length, List.map_cons, List.map_nil, List.append_nil, List.cons_append, List.nil_append, Nat.reduceAdd, Nat.zero_add, List.length_cons, List.length_nil]
  repeat' (first | apply AC_seq | apply AC_region_lit | ((first | refine AL_go rfl (fun K hK => ?_) | refine AL_go0 (fun K hK => ?_)); (first | refine R_callFnG (f := 75) (dst := some 25) [0, 1, 2, 3] 4 false ?_ | refine R_callFnG (f := 75) (dst := some 31) [0, 1, 2, 3] 4 false ?_); simp -dsimp (disch := try exact vD) only [push_cast, simprocAttr, hg, hl, hl2, left_len, cB_len, sub12, tn12, fo_cells, hne2]; (repeat refine aI ?_); intro G hG; refine hG _ _ ?_; clear hG G; (first | refine ⟨_, _, h1.down, ?_⟩ | refine ⟨_, _, h2.down, ?_⟩); simp -dsimp (disch := try exact vD) only [push_cast, simprocAttr, hg, hl, hl2, left_len, cB_len, sub12, tn12, fo_cells, hne2]; (repeat refine aI ?_); apply hK; clear hK K) | ((first | refine AL_go rfl (fun K hK => ?_) | refine AL_go0 (fun K hK => ?_)); (first | apply R_move | apply R_assign | apply Q_load | apply Q_loadAgg | apply Q_fieldAddr | apply Q_indexAddr | apply Q_indexArr | apply Q_pick | apply Q_not | apply Q_neg | apply R_alloc | apply Q_store | apply Q_eqAgg | apply Q_neqAgg | apply Q_neqSelf | apply Q_bin); simp -dsimp (disch := try exact vD) only [push_cast, simprocAttr, hg, hl, hl2, left_len, cB_len, sub12, tn12, fo_cells, hne2]; (repeat refine aI ?_); apply hK; clear hK K) | ((first | refine AL_guard rfl rfl (fun K1 K2 h1 h2 => ?_) rfl | refine AC_cond_k (fun K1 K2 h1 h2 => ?_)); simp -dsimp (disch := try exact vD) only [push_cast, simprocAttr, hg, hl, hl2, left_len, cB_len, sub12, tn12, fo_cells, hne2]; (first | (refine ⟨fun hc => ?_, fun hc => ?_⟩ <;> first | (exfalso; omega) | (exfalso; contradiction) | refine h1 ?_ | refine h2 ?_) | refine h1 ?_ | refine h2 ?_); all_goals clear h1 h2 K1 K2) | apply AL_nil | apply Thn_normal | apply Thn_ret | apply Thn_exit | apply Blk_normal | apply Blk_ret | apply Blk_here | (refine Blk_other rfl ?_) | apply AC_block | apply AC_exit | apply AC_skip | apply AC_ret)
  all_goals first
    | ((refine Ends.mk2 (by first | exact .inr rfl | exact .inl rfl) [0, 1, 2, 3] ?_; simp -dsimp (disch := try exact vD) only [push_cast, simprocAttr, Tryd.f75, hne2]; (repeat refine aI ?_); try (first | exact vI | fail)); done)
    | trace_state
theorem visit_D (hN : F.length = N) (hN2 : N < 2 ^ 40) (hk : k < N) (hr : nx ≤ k + 2) (he : k + 2 = n2)
    (h1 : ACall Tryd.prog 75 (.val (.int .i64 (F.getD k default).lo) :: vA z n F N q) (vO z n F N q nx) 4 (.val (.bool true)) (vO z n F N q n1))
    (h2 : ACall Tryd.prog 75 (.val (.int .i64 (F.getD k default).hi) :: vA z n F N q) (vO z n F N q n1) 4 (.val (.bool true)) (vO z n F N q n2)) :
    ACall Tryd.prog 75 (.val (.int .i64 ((k : Int) + 1 + 1)) :: vA z n F N q) (vO z n F N q nx) 4 (.val (.bool true)) (vO z n F N q (n2 + 1)) := by
  have hlen := left_len (M := N + 2) (nx := nx)
  have hl := left_at (nx := nx) (M := N + 2) (r := k + 2) (by omega)
  rw [decide_eq_false (show ¬ k + 2 < nx by omega), Bool.and_false] at hl
  have hl2 := left_at (nx := nx) (M := N + 2) (r := k + 1 + 1) (by omega)
  rw [decide_eq_false (show ¬ k + 1 + 1 < nx by omega), Bool.and_false] at hl2
  subst he
  have he2 : ((k + 2 : Nat) : Int) = (k : Int) + 1 + 1 := by omega
  have hls := left_set (M := N + 2) (r := k + 2) (by omega) (by omega)
  have h1 := PLift.up h1
  have h2 := PLift.up h2
  have hg : ¬ (k : Int) + 1 + 1 < 2 := by omega
  unfold vA vO at *
  refine ACall.enter Tryd.func75 rfl (by simp [Tryd.ntmps75]) (by simp) ?_; simp only [entry, idx, Tryd.ntmps75, List.length, List.map_cons, List.map_nil, List.append_nil, List.cons_append, List.nil_append, Nat.reduceAdd, Nat.zero_add, List.length_cons, List.length_nil]
  repeat' (first | apply AC_seq | apply AC_region_lit | ((first | refine AL_go rfl (fun K hK => ?_) | refine AL_go0 (fun K hK => ?_)); (first | refine R_callFnG (f := 75) (dst := some 25) [0, 1, 2, 3] 4 false ?_ | refine R_callFnG (f := 75) (dst := some 31) [0, 1, 2, 3] 4 false ?_); simp -dsimp (disch := try exact vD) only [push_cast, simprocAttr, hg, hl, hl2, left_len, cB_len, sub12, tn12, fo_cells, he2, hls]; (repeat refine aI ?_); intro G hG; refine hG _ _ ?_; clear hG G; (first | refine ⟨_, _, h1.down, ?_⟩ | refine ⟨_, _, h2.down, ?_⟩); simp -dsimp (disch := try exact vD) only [push_cast, simprocAttr, hg, hl, hl2, left_len, cB_len, sub12, tn12, fo_cells, he2, hls]; (repeat refine aI ?_); apply hK; clear hK K) | ((first | refine AL_go rfl (fun K hK => ?_) | refine AL_go0 (fun K hK => ?_)); (first | apply R_move | apply R_assign | apply Q_load | apply Q_loadAgg | apply Q_fieldAddr | apply Q_indexAddr | apply Q_indexArr | apply Q_pick | apply Q_not | apply Q_neg | apply R_alloc | apply Q_store | apply Q_eqAgg | apply Q_neqAgg | apply Q_neqSelf | apply Q_bin); simp -dsimp (disch := try exact vD) only [push_cast, simprocAttr, hg, hl, hl2, left_len, cB_len, sub12, tn12, fo_cells, he2, hls]; (repeat refine aI ?_); apply hK; clear hK K) | ((first | refine AL_guard rfl rfl (fun K1 K2 h1 h2 => ?_) rfl | refine AC_cond_k (fun K1 K2 h1 h2 => ?_)); simp -dsimp (disch := try exact vD) only [push_cast, simprocAttr, hg, hl, hl2, left_len, cB_len, sub12, tn12, fo_cells, he2, hls]; (first | (refine ⟨fun hc => ?_, fun hc => ?_⟩ <;> first | (exfalso; omega) | (exfalso; contradiction) | refine h1 ?_ | refine h2 ?_) | refine h1 ?_ | refine h2 ?_); all_goals clear h1 h2 K1 K2) | apply AL_nil | apply Thn_normal | apply Thn_ret | apply Thn_exit | apply Blk_normal | apply Blk_ret | apply Blk_here | (refine Blk_other rfl ?_) | apply AC_block | apply AC_exit | apply AC_skip | apply AC_ret)
  all_goals first
    | ((refine Ends.mk2 (by first | exact .inr rfl | exact .inl rfl) [0, 1, 2, 3] ?_; simp -dsimp (disch := try exact vD) only [push_cast, simprocAttr, Tryd.f75, he2, hls]; (repeat refine aI ?_); try (first | exact vI | fail)); done)
    | trace_state
theorem visS_bd (hb : Bnd F) : ∀ (f r nx : Nat), r < F.length + 2 → nx ≤ F.length + 2 → nx ≤ (visS F f r nx).2 ∧ (visS F f r nx).2 ≤ F.length + 2 := by
  intro f
  induction f with
  | zero => intro r nx hr hn; exact ⟨Nat.le_refl _, hn⟩
  | succ f ih =>
    intro r nx hr hn
    unfold visS
    split
    · exact ⟨Nat.le_refl _, hn⟩
    · rename_i hc
      have hk := hb (r - 2) (by omega)
      have h1 := ih (F.getD (r - 2) default).lo nx (by omega) hn
      split
      · exact h1
      · have h2 := ih (F.getD (r - 2) default).hi _ (by omega) h1.2
        split
        · exact ⟨by show nx ≤ _; omega, h2.2⟩
        · split
          · rename_i he
            refine ⟨by show nx ≤ _ + 1; omega, ?_⟩
            show _ + 1 ≤ F.length + 2
            rw [← he]; omega
          · exact ⟨by show nx ≤ _; omega, h2.2⟩
theorem visit_ok (hb : Bnd F) (hN : F.length = N) (hN2 : N < 2 ^ 40) : ∀ (f r nx : Nat), r ≤ f → r < N + 2 → 2 ≤ nx → nx ≤ N + 2 → ACall Tryd.prog 75 (.val (.int .i64 r) :: vA z n F N q) (vO z n F N q nx) 4 (.val (.bool (visS F f r nx).1)) (vO z n F N q (visS F f r nx).2) := by
  intro f
  induction f with
  | zero => intro r nx hf hr h2 hx; exact visit_lt (by omega)
  | succ f ih =>
    intro r nx hf hr h2 hx
    by_cases c1 : r < 2
    · rw [show visS F (f + 1) r nx = (true, nx) by simp [visS, c1]]; exact visit_lt c1
    · by_cases c2 : r < nx
      · rw [show visS F (f + 1) r nx = (true, nx) by simp [visS, c2]]; exact visit_old (by omega) c2 hr hN2
      · obtain ⟨k, rfl⟩ : ∃ k, r = k + 2 := ⟨r - 2, by omega⟩
        have hk := hb k (by omega)
        have i1 := ih (F.getD k default).lo nx (by omega) (by omega) h2 hx
        have d1 := visS_bd hb f (F.getD k default).lo nx (by omega) (by omega)
        have hvs : visS F (f + 1) (k + 2) nx = if (visS F f (F.getD k default).lo nx).1 = false then (false, (visS F f (F.getD k default).lo nx).2) else
            if (visS F f (F.getD k default).hi (visS F f (F.getD k default).lo nx).2).1 = false then (false, (visS F f (F.getD k default).hi (visS F f (F.getD k default).lo nx).2).2) else
            if k + 2 = (visS F f (F.getD k default).hi (visS F f (F.getD k default).lo nx).2).2 then (true, (visS F f (F.getD k default).hi (visS F f (F.getD k default).lo nx).2).2 + 1) else (false, (visS F f (F.getD k default).hi (visS F f (F.getD k default).lo nx).2).2) := by
          rw [visS, if_neg (by omega), Nat.add_sub_cancel]
        rw [hvs]
        generalize visS F f (F.getD k default).lo nx = R1 at i1 d1
        obtain ⟨b1, n1⟩ := R1
        dsimp only at i1 d1 ⊢
        have i2 := ih (F.getD k default).hi n1 (by omega) (by omega) (by omega) (by omega)
        generalize visS F f (F.getD k default).hi n1 = R2 at i2
        obtain ⟨b2, n2⟩ := R2
        dsimp only at i2 ⊢
        have e : ((k + 2 : Nat) : Int) = (k : Int) + 1 + 1 := by omega
        rw [e]
        cases b1 with
        | false => rw [if_pos rfl]; exact visit_A hN hN2 (by omega) (by omega) i1
        | true =>
          rw [if_neg (by simp)]
          cases b2 with
          | false => rw [if_pos rfl]; exact visit_B hN hN2 (by omega) (by omega) i1 i2
          | true =>
            rw [if_neg (by simp)]
            by_cases he : k + 2 = n2
            · rw [if_pos he]; exact visit_D hN hN2 (by omega) (by omega) he i1 i2
            · rw [if_neg he]; exact visit_C hN hN2 (by omega) (by omega) he i1 i2
theorem numbered_ok (hb : Bnd F) (hN : F.length = N) (hN2 : N < 2 ^ 30) (hr : r < N + 2) : ACall Tryd.prog 62 [.agg [.val (.int .i64 n), .isl z (cR F) N, .val (.int .i64 r)]] [] 0 (.val (.bool ((visS F r r 2).1 && decide ((visS F r r 2).2 = N + 2)))) [] := by
  have h := visit_ok (z := z) (n := n) (q := r) hb hN (by omega) r r 2 (Nat.le_refl _) hr (by omega) (by omega)
  generalize visS F r r 2 = R at h
  obtain ⟨b1, nx⟩ := R
  dsimp only at h ⊢
  unfold vA vO at h
  rw [left_2] at h
  have h := PLift.up h
  have hx := dmy_def; have hc := dmy_def
  cases b1 <;> rcases Decidable.em (nx = N + 2) with hx | hx
  all_goals (have hx2 : ((nx : Int) = (N : Int) + 2) = (nx = N + 2) := propext ⟨fun h => by omega, fun h => by omega⟩)
  all_goals (refine ACall.enter Tryd.func62 rfl (by simp [Tryd.ntmps62]) (by simp) ?_; simp only [entry, idx, Tryd.ntmps62, List.length, List.map_cons, List.map_nil, List.append_nil, List.cons_append, List.nil_append, Nat.reduceAdd, Nat.zero_add, List.length_cons, List.length_nil])
  all_goals repeat' (first | ((first | refine AC_frzS (r := 5) 0 ?_ | refine AC_frzR (r := 5) 0 ?_); simp -dsimp (disch := try exact vD) only [push_cast, simprocAttr, hx2, hx]; (repeat refine aI ?_); intro K hK; refine hK _ _ ?_; clear hK K) | apply AC_seq | apply AC_region_lit | ((first | refine AL_go rfl (fun K hK => ?_) | refine AL_go0 (fun K hK => ?_)); (first | refine R_callFnG (f := 75) (dst := some 15) [3, 4, 1, 2] 4 false ?_); simp -dsimp (disch := try exact vD) only [push_cast, simprocAttr, hx2, hx]; (repeat refine aI ?_); intro G hG; refine hG _ _ ?_; clear hG G; (first | refine ⟨_, _, h.down, ?_⟩); simp -dsimp (disch := try exact vD) only [push_cast, simprocAttr, hx2, hx]; (repeat refine aI ?_); apply hK; clear hK K) | ((first | refine AL_go rfl (fun K hK => ?_) | refine AL_go0 (fun K hK => ?_)); (first | apply R_move | apply R_assign | apply Q_load | apply Q_loadAgg | apply Q_fieldAddr | apply Q_len | apply Q_lenStr | apply Q_pick | apply Q_box | apply R_alloc | apply Q_store | apply Q_makeSlice | apply Q_makeFunc | apply Q_eqAgg | apply Q_neqAgg | apply Q_neqSelf | apply Q_bin); simp -dsimp (disch := try exact vD) only [push_cast, simprocAttr, hx2, hx]; (repeat refine aI ?_); apply hK; clear hK K) | ((first | refine AL_guard rfl rfl (fun K1 K2 h1 h2 => ?_) rfl | refine AC_cond_k (fun K1 K2 h1 h2 => ?_)); simp -dsimp (disch := try exact vD) only [push_cast, simprocAttr, hx2, hx]; (first | (refine ⟨fun hc => ?_, fun hc => ?_⟩ <;> first | (exfalso; omega) | (exfalso; contradiction) | refine h1 ?_ | refine h2 ?_) | refine h1 ?_ | refine h2 ?_); all_goals clear h1 h2 K1 K2) | apply AL_nil | apply Thn_normal | apply Thn_ret | apply Thn_exit | apply Blk_normal | apply Blk_ret | apply Blk_here | (refine Blk_other rfl ?_) | apply AC_block | apply AC_exit | apply AC_skip | apply AC_ret)
  all_goals first
    | ((refine Ends.mk2 (by first | exact .inr rfl | exact .inl rfl) [] ?_; simp -dsimp (disch := try exact vD) only [push_cast, simprocAttr, Tryd.f62, hx2, hx]; (repeat refine aI ?_); try (first | exact vI | fail)); done)
    | ((refine Ends.mk2 (by first | exact .inr rfl | exact .inl rfl) [] ?_; simp -dsimp (disch := try exact vD) only [push_cast, simprocAttr, Tryd.f62]; (repeat refine aI ?_); try (first | exact vI | fail)); done)
    | (exfalso; omega)
    | trace_state
structure DOk (n : Nat) (F : List Fo) (r : Nat) : Prop where
  good : Go.Dg.Good n F
  lt : r < F.length + 2
  vis : visF F r r 2 = some (F.length + 2)
  n12 : n ≤ 12
  few : F.length ≤ 765
theorem DOk.root (h : DOk n F r) : F.length = 0 ∨ r = F.length + 1 := vis_root h.vis (Nat.le_refl _)
theorem DOk.bnd (h : DOk n F r) : Bnd F := h.good.bnd
theorem DOk.v16 (h : DOk n F r) : ∀ k, k < F.length → (F.getD k default).v < 16 := fun k hk => by have := (h.good.ok k hk).v; have := h.n12; omega
theorem DOk.num (h : DOk n F r) : ((visS F r r 2).1 && decide ((visS F r r 2).2 = F.length + 2)) = true := by
  have hv := h.vis
  rw [visS_F] at hv
  split at hv
  · rename_i hc
    have := Option.some.inj hv
    rw [hc, decide_eq_true this]; rfl
  · cases hv
theorem valid_0 (h : DOk n F r) (hN : F.length = N) : ACall Tryd.prog 31 [.agg [.val (.int .i64 n), .isl z (cR F) N, .val (.int .i64 r)]] [] 0 (.val (.int .i64 0)) [] := by
  have h12 := h.n12; have hfew := h.few; have hlt := h.lt
  have hn40 : N < 2 ^ 40 := by omega
  have hn30 : N < 2 ^ 30 := by omega
  have hrN : r < N + 2 := by omega
  have ho := PLift.up (ordered_0 (z := z) (q := r) h.good hN hn40)
  have hn := numbered_ok (z := z) (n := n) h.bnd hN hn30 hrN
  rw [← hN, h.num] at hn
  rw [hN] at hn
  have hn := PLift.up hn
  have hroot := h.root
  rw [hN] at hroot hfew hlt
  clear h
  have hx := dmy_def
  rcases hroot with hx | hx
  · subst hx
    all_goals (refine ACall.enter Tryd.func31 rfl (by simp [Tryd.ntmps31]) (by simp) ?_; simp only [entry, idx, Tryd.ntmps31, List.length, List.map_cons, List.map_nil, List.append_nil, List.cons_append, List.nil_append, Nat.reduceAdd, Nat.zero_add, List.length_cons, List.length_nil])
    all_goals repeat' (first | apply AC_seq | apply AC_region_lit | ((first | refine AL_go rfl (fun K hK => ?_) | refine AL_go0 (fun K hK => ?_)); (first | refine R_callG (f := 61) [] 0 false ?_ | refine R_callG (f := 62) [] 0 false ?_); simp -dsimp (disch := try exact vD) only [push_cast, simprocAttr]; (repeat refine aI ?_); intro G hG; refine hG _ _ ?_; clear hG G; (first | refine ⟨_, _, ho.down, ?_⟩ | refine ⟨_, _, hn.down, ?_⟩); simp -dsimp (disch := try exact vD) only [push_cast, simprocAttr]; (repeat refine aI ?_); apply hK; clear hK K) | ((first | refine AL_go rfl (fun K hK => ?_) | refine AL_go0 (fun K hK => ?_)); (first | apply R_move | apply R_assign | apply Q_load | apply Q_loadAgg | apply Q_fieldAddr | apply Q_len | apply Q_lenStr | apply Q_pick | apply Q_not | apply Q_neg | apply Q_box | apply Q_eqAgg | apply Q_neqAgg | apply Q_neqSelf | apply Q_bin); simp -dsimp (disch := try exact vD) only [push_cast, simprocAttr]; (repeat refine aI ?_); apply hK; clear hK K) | ((first | refine AL_guard rfl rfl (fun K1 K2 h1 h2 => ?_) rfl | refine AC_cond_k (fun K1 K2 h1 h2 => ?_)); simp -dsimp (disch := try exact vD) only [push_cast, simprocAttr]; (first | (refine ⟨fun hc => ?_, fun hc => ?_⟩ <;> first | (exfalso; omega) | (exfalso; contradiction) | refine h1 ?_ | refine h2 ?_) | refine h1 ?_ | refine h2 ?_); all_goals clear h1 h2 K1 K2) | apply AL_nil | apply Thn_normal | apply Thn_ret | apply Thn_exit | apply Blk_normal | apply Blk_ret | apply Blk_here | (refine Blk_other rfl ?_) | apply AC_block | apply AC_exit | apply AC_skip | apply AC_ret)
    all_goals ((refine Ends.mk2 (by first | exact .inr rfl | exact .inl rfl) [] ?_; simp -dsimp (disch := try exact vD) only [push_cast, simprocAttr, Tryd.f31]; (repeat refine aI ?_); try (first | exact vI | fail)))
  · have hx2 : ((r : Int) = 1 + (N : Int)) := by omega
    have ho := ho.down; have hn := hn.down
    rw [hx2] at ho hn ⊢
    have ho := PLift.up ho; have hn := PLift.up hn
    all_goals (refine ACall.enter Tryd.func31 rfl (by simp [Tryd.ntmps31]) (by simp) ?_; simp only [entry, idx, Tryd.ntmps31, List.length, List.map_cons, List.map_nil, List.append_nil, List.cons_append, List.nil_append, Nat.reduceAdd, Nat.zero_add, List.length_cons, List.length_nil])
    all_goals repeat' (first | apply AC_seq | apply AC_region_lit | ((first | refine AL_go rfl (fun K hK => ?_) | refine AL_go0 (fun K hK => ?_)); (first | refine R_callG (f := 61) [] 0 false ?_ | refine R_callG (f := 62) [] 0 false ?_); simp -dsimp (disch := try exact vD) only [push_cast, simprocAttr, hx2]; (repeat refine aI ?_); intro G hG; refine hG _ _ ?_; clear hG G; (first | refine ⟨_, _, ho.down, ?_⟩ | refine ⟨_, _, hn.down, ?_⟩); simp -dsimp (disch := try exact vD) only [push_cast, simprocAttr, hx2]; (repeat refine aI ?_); apply hK; clear hK K) | ((first | refine AL_go rfl (fun K hK => ?_) | refine AL_go0 (fun K hK => ?_)); (first | apply R_move | apply R_assign | apply Q_load | apply Q_loadAgg | apply Q_fieldAddr | apply Q_len | apply Q_lenStr | apply Q_pick | apply Q_not | apply Q_neg | apply Q_box | apply Q_eqAgg | apply Q_neqAgg | apply Q_neqSelf | apply Q_bin); simp -dsimp (disch := try exact vD) only [push_cast, simprocAttr, hx2]; (repeat refine aI ?_); apply hK; clear hK K) | ((first | refine AL_guard rfl rfl (fun K1 K2 h1 h2 => ?_) rfl | refine AC_cond_k (fun K1 K2 h1 h2 => ?_)); simp -dsimp (disch := try exact vD) only [push_cast, simprocAttr, hx2]; (first | (refine ⟨fun hc => ?_, fun hc => ?_⟩ <;> first | (exfalso; omega) | (exfalso; contradiction) | refine h1 ?_ | refine h2 ?_) | refine h1 ?_ | refine h2 ?_); all_goals clear h1 h2 K1 K2) | apply AL_nil | apply Thn_normal | apply Thn_ret | apply Thn_exit | apply Blk_normal | apply Blk_ret | apply Blk_here | (refine Blk_other rfl ?_) | apply AC_block | apply AC_exit | apply AC_skip | apply AC_ret)
    all_goals ((refine Ends.mk2 (by first | exact .inr rfl | exact .inl rfl) [] ?_; simp -dsimp (disch := try exact vD) only [push_cast, simprocAttr, Tryd.f31]; (repeat refine aI ?_); try (first | exact vI | fail)))
theorem eval_0 (h : DOk n F r) (hN : F.length = N) (ht : t < 65536) : ACall Tryd.prog 26 [.agg [.val (.int .i64 n), .isl z (cR F) N, .val (.int .i64 r)], .val (.int .u16 (U t))] [] 0 (.tup [.val (.bool (valN F t r)), .val (.int .i64 0)]) [] := by
  have hfew := h.few; have hlt := h.lt
  have hn40 : N < 2 ^ 40 := by omega
  have hrN : r < N + 2 := by omega
  have hv := PLift.up (valid_0 (z := z) h hN)
  have ha := PLift.up (accepts_ok (z := z) (p := n) h.bnd h.v16 hN hn40 hrN ht)
  refine ACall.enter Tryd.func26 rfl (by simp [Tryd.ntmps26]) (by simp) ?_; simp only [entry, idx, Tryd.ntmps26, List.length, List.map_cons, List.map_nil, List.append_nil, List.cons_append, List.nil_append, Nat.reduceAdd, Nat.zero_add, List.length_cons, List.length_nil]
  repeat' (first | apply AC_seq | apply AC_region_lit | ((first | refine AL_go rfl (fun K hK => ?_) | refine AL_go0 (fun K hK => ?_)); (first | refine R_callG (f := 31) [] 0 false ?_ | refine R_callG (f := 34) [] 0 false ?_); simp -dsimp (disch := try exact vD) only [push_cast, simprocAttr]; (repeat refine aI ?_); intro G hG; refine hG _ _ ?_; clear hG G; (first | refine ⟨_, _, hv.down, ?_⟩ | refine ⟨_, _, ha.down, ?_⟩); simp -dsimp (disch := try exact vD) only [push_cast, simprocAttr]; (repeat refine aI ?_); apply hK; clear hK K) | ((first | refine AL_go rfl (fun K hK => ?_) | refine AL_go0 (fun K hK => ?_)); (first | apply R_move | apply R_assign | apply Q_load | apply Q_loadAgg | apply Q_box | apply Q_eqAgg | apply Q_neqAgg | apply Q_neqSelf | apply Q_bin); simp -dsimp (disch := try exact vD) only [push_cast, simprocAttr]; (repeat refine aI ?_); apply hK; clear hK K) | ((first | refine AL_guard rfl rfl (fun K1 K2 h1 h2 => ?_) rfl | refine AC_cond_k (fun K1 K2 h1 h2 => ?_)); simp -dsimp (disch := try exact vD) only [push_cast, simprocAttr]; (first | (refine ⟨fun hc => ?_, fun hc => ?_⟩ <;> first | (exfalso; omega) | (exfalso; contradiction) | refine h1 ?_ | refine h2 ?_) | refine h1 ?_ | refine h2 ?_); all_goals clear h1 h2 K1 K2) | apply AL_nil | apply Thn_normal | apply Thn_ret | apply Thn_exit | apply Blk_normal | apply Blk_ret | apply Blk_here | (refine Blk_other rfl ?_) | apply AC_block | apply AC_exit | apply AC_skip | apply AC_ret)
  all_goals ((refine Ends.mk2 (by first | exact .inr rfl | exact .inl rfl) [] ?_; simp -dsimp (disch := try exact vD) only [push_cast, simprocAttr, Tryd.f26]; (repeat refine aI ?_); try (first | exact vI | fail)))
theorem from_DOk {tab : Nat → Bool} (hn : n ≤ 9) : DOk n (fromT n tab).1 (fromT n tab).2 := by
  have h := from_ok (n := n) (tab := tab)
  have hl := from_len (n := n) (tab := tab)
  have hp : 2 ^ n ≤ 2 ^ 9 := Nat.pow_le_pow_right (by omega) hn
  exact ⟨h.good, h.lt, h.vis, by omega, by omega⟩
theorem DOk.eq {tab : Nat → Bool} (h : DOk n F r) (ht : ∀ t, t < 2 ^ n → valN F t r = tab t) : fromT n tab = (F, r) := from_of h.good h.lt h.vis ht
end Go.Proofs.YtabafldpnkjboaaDoor
