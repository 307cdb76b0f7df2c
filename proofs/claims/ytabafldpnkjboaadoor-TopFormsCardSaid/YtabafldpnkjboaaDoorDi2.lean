/- Diagrams: the program's table. No condition. -/
import Derived.Test.YtabafldpnkjboaaDoorDi1
set_option linter.unusedVariables false
set_option linter.unusedSectionVars false
set_option linter.unusedSimpArgs false
set_option maxHeartbeats 4000000
set_option maxRecDepth 20000
namespace Go.Proofs.YtabafldpnkjboaaDoor
open Go Go.Sy Go.Dg
attribute [local irreducible] AO AL AC OpT ACall Ends DGo DRun Thn Blk Nxt
variable {F F1 F2 G : List Fo} {v lo hi n k k1 k2 k' i m s a b r : Nat} {A : FuncId} [TPlain Tryd.prog A] {c1 : List AV} {tab : Nat → Bool}
abbrev gB (n : Nat) (A : FuncId) (c1 : List AV) : AObj := .cells [.fn 55 [.ipt [.val (.int .i64 n)] 0, .ipt [.fn A [.ipt c1 0]] 0, .pt 0 0, .pt 1 0]] 101
abbrev g0 (n : Nat) (A : FuncId) (c1 : List AV) : List AObj := [gB n A c1, .cells [.pt 2 0] 81, .cells [.isl true [] 0, .mp 3] 110, .map true 3 []]
abbrev gS (n : Nat) (A : FuncId) (c1 : List AV) (F : List Fo) (k : Nat) : List AObj := [gB n A c1, .cells [.pt 2 0] 81, .cells [.sl 4 0 k 3, .mp 3] 110, .map true 3 (atM F), .cells (cR F) 87]
abbrev gA (n : Nat) (A : FuncId) (c1 : List AV) (i s : Nat) : List AV := [.val (.int .i64 i), .val (.int .u16 (U s)), .ipt [.val (.int .i64 n)] 0, .ipt [.fn A [.ipt c1 0]] 0, .pt 0 0, .pt 1 0]
theorem grow_leaf (hacc : ACall Tryd.prog A [.val (.int .u16 (U s)), .ipt c1 0] [] 0 (.val (.bool (tab s))) []) : ACall Tryd.prog 55 (gA n A c1 n s) (g0 n A c1) 4 (.val (.int .i64 (if tab s = true then 1 else 0))) (g0 n A c1) := by
  have hacc := PLift.up hacc
  unfold gA g0 gB
  refine ACall.enter Tryd.func55 rfl (by simp [Tryd.ntmps55]) (by simp) ?_; simp only [entry, idx, Tryd.ntmps55, List.length, List.map_cons, List.map_nil, List.append_nil, List.cons_append, List.nil_append, Nat.reduceAdd, Nat.zero_add, List.length_cons, List.length_nil]
  repeat' (first | apply AC_seq | apply AC_region_lit | ((first | refine AL_go rfl (fun K hK => ?_) | refine AL_go0 (fun K hK => ?_) | refine DG_run (fun K hK => ?_)); (first | refine R_callFnG (f := A) (dst := some 15) [] 0 false ?_ | refine R_callG (f := 56) [] 0 false ?_); simp -dsimp (disch := try exact vD) only [push_cast, simprocAttr]; (repeat refine aI ?_); intro G hG; refine hG _ _ ?_; clear hG G; (first | refine ⟨_, _, hacc.down, ?_⟩ | refine ⟨_, _, leaf_ok, ?_⟩); simp -dsimp (disch := try exact vD) only [push_cast, simprocAttr]; (repeat refine aI ?_); apply hK; clear hK K) | ((first | refine AL_go rfl (fun K hK => ?_) | refine AL_go0 (fun K hK => ?_) | refine DG_run (fun K hK => ?_)); (first | apply R_move | apply R_assign | apply Q_load | apply Q_loadAgg | apply Q_eqAgg | apply Q_neqAgg | apply Q_neqSelf | apply Q_bin); simp -dsimp (disch := try exact vD) only [push_cast, simprocAttr]; (repeat refine aI ?_); apply hK; clear hK K) | ((first | refine AL_guard rfl rfl (fun K1 K2 h1 h2 => ?_) rfl | refine AC_cond_k (fun K1 K2 h1 h2 => ?_) | refine DG_guard rfl rfl (fun K1 K2 h1 h2 => ?_)); simp -dsimp (disch := try exact vD) only [push_cast, simprocAttr]; (first | (refine ⟨fun hc => ?_, fun hc => ?_⟩ <;> first | (exfalso; omega) | (exfalso; contradiction) | refine h1 ?_ | refine h2 ?_) | refine h1 ?_ | refine h2 ?_); all_goals clear h1 h2 K1 K2) | (refine AC_draw (id := 4) (by kernel_rfl) [⟨0, [], [23, 24, 25, 26, 27, 28, 29, 30, 31, 32], [], [], 0⟩, ⟨1, [], [22, 24, 25, 26, 27, 28, 29, 30, 31, 32], [], [], 0⟩, ⟨2, [], [22, 23, 25, 26, 27, 28, 29, 30, 31, 32], [], [], 0⟩, ⟨3, [], [22, 23, 24, 26, 27, 28, 29, 30, 31], [], [], 0⟩, ⟨4, [], [22, 23, 24, 25, 28, 29, 30, 31], [], [], 0⟩, ⟨5, [4], [22, 23, 24, 25, 28, 29, 30, 31], [], [], 0⟩, ⟨6, [], [22, 23, 24, 25, 26, 27, 29, 30], [], [], 0⟩, ⟨7, [], [22, 23, 24, 25, 26, 27, 28], [], [], 0⟩, ⟨8, [7], [22, 23, 24, 25, 26, 27, 28], [], [], 0⟩, ⟨9, [6, 7, 8], [22, 23, 24, 25, 26, 27], [], [], 0⟩, ⟨10, [3, 4, 5, 6, 7, 8, 9], [22, 23, 24], [], [], 0⟩, ⟨11, [0, 1, 2, 3, 4, 5, 6, 7, 8, 9, 10], [], [], [], 0⟩, ⟨12, [0, 1, 2, 3, 4, 5, 6, 7, 8, 9, 10, 11], [], [], [], 0⟩] (by kernel_rfl) (by kernel_rfl) (by kernel_rfl) ?_) | ((first | refine DG_next' (by kernel_rfl) (fun K hK => ?_) | refine DG_nil (by kernel_rfl) (fun K hK => ?_)); simp only [↓Go.Sy.dsnE_some, ↓Go.Sy.dsnE_none, ↓Go.Sy.dsnE_nil, ↓Go.Sy.dsnO_snoc, ↓Go.Sy.dsnO_nil, ↓Go.Sy.nidAt_snoc, ↓Go.Sy.nidAt_nil, push_cast, Nat.reduceLeDiff, Nat.reduceSub, Nat.reduceBEq, Nat.reduceEqDiff, Nat.reduceAdd, Nat.reduceLT, ↓reduceIte, reduceCtorEq]; refine hK _ _ _ ?_; clear hK K) | apply DG_go | apply AL_nil | apply Thn_normal | apply Thn_ret | apply Thn_exit | apply Blk_normal | apply Blk_ret | apply Blk_here | (refine Blk_other rfl ?_) | apply AC_block | apply AC_exit | apply AC_skip | apply AC_ret)
  all_goals ((refine Ends.mk2 (by first | exact .inr rfl | exact .inl rfl) [0, 1, 2, 3] ?_; simp -dsimp (disch := try exact vD) only [push_cast, simprocAttr, Tryd.f55]; (repeat refine aI ?_); try (first | exact vI | fail)))
theorem grow_leafS (hacc : ACall Tryd.prog A [.val (.int .u16 (U s)), .ipt c1 0] [] 0 (.val (.bool (tab s))) []) : ACall Tryd.prog 55 (gA n A c1 n s) (gS n A c1 F k) 4 (.val (.int .i64 (if tab s = true then 1 else 0))) (gS n A c1 F k) := by
  have hacc := PLift.up hacc
  unfold gA gS gB
  refine ACall.enter Tryd.func55 rfl (by simp [Tryd.ntmps55]) (by simp) ?_; simp only [entry, idx, Tryd.ntmps55, List.length, List.map_cons, List.map_nil, List.append_nil, List.cons_append, List.nil_append, Nat.reduceAdd, Nat.zero_add, List.length_cons, List.length_nil]
  repeat' (first | apply AC_seq | apply AC_region_lit | ((first | refine AL_go rfl (fun K hK => ?_) | refine AL_go0 (fun K hK => ?_) | refine DG_run (fun K hK => ?_)); (first | refine R_callFnG (f := A) (dst := some 15) [] 0 false ?_ | refine R_callG (f := 56) [] 0 false ?_); simp -dsimp (disch := try exact vD) only [push_cast, simprocAttr]; (repeat refine aI ?_); intro G hG; refine hG _ _ ?_; clear hG G; (first | refine ⟨_, _, hacc.down, ?_⟩ | refine ⟨_, _, leaf_ok, ?_⟩); simp -dsimp (disch := try exact vD) only [push_cast, simprocAttr]; (repeat refine aI ?_); apply hK; clear hK K) | ((first | refine AL_go rfl (fun K hK => ?_) | refine AL_go0 (fun K hK => ?_) | refine DG_run (fun K hK => ?_)); (first | apply R_move | apply R_assign | apply Q_load | apply Q_loadAgg | apply Q_eqAgg | apply Q_neqAgg | apply Q_neqSelf | apply Q_bin); simp -dsimp (disch := try exact vD) only [push_cast, simprocAttr]; (repeat refine aI ?_); apply hK; clear hK K) | ((first | refine AL_guard rfl rfl (fun K1 K2 h1 h2 => ?_) rfl | refine AC_cond_k (fun K1 K2 h1 h2 => ?_) | refine DG_guard rfl rfl (fun K1 K2 h1 h2 => ?_)); simp -dsimp (disch := try exact vD) only [push_cast, simprocAttr]; (first | (refine ⟨fun hc => ?_, fun hc => ?_⟩ <;> first | (exfalso; omega) | (exfalso; contradiction) | refine h1 ?_ | refine h2 ?_) | refine h1 ?_ | refine h2 ?_); all_goals clear h1 h2 K1 K2) | (refine AC_draw (id := 4) (by kernel_rfl) [⟨0, [], [23, 24, 25, 26, 27, 28, 29, 30, 31, 32], [], [], 0⟩, ⟨1, [], [22, 24, 25, 26, 27, 28, 29, 30, 31, 32], [], [], 0⟩, ⟨2, [], [22, 23, 25, 26, 27, 28, 29, 30, 31, 32], [], [], 0⟩, ⟨3, [], [22, 23, 24, 26, 27, 28, 29, 30, 31], [], [], 0⟩, ⟨4, [], [22, 23, 24, 25, 28, 29, 30, 31], [], [], 0⟩, ⟨5, [4], [22, 23, 24, 25, 28, 29, 30, 31], [], [], 0⟩, ⟨6, [], [22, 23, 24, 25, 26, 27, 29, 30], [], [], 0⟩, ⟨7, [], [22, 23, 24, 25, 26, 27, 28], [], [], 0⟩, ⟨8, [7], [22, 23, 24, 25, 26, 27, 28], [], [], 0⟩, ⟨9, [6, 7, 8], [22, 23, 24, 25, 26, 27], [], [], 0⟩, ⟨10, [3, 4, 5, 6, 7, 8, 9], [22, 23, 24], [], [], 0⟩, ⟨11, [0, 1, 2, 3, 4, 5, 6, 7, 8, 9, 10], [], [], [], 0⟩, ⟨12, [0, 1, 2, 3, 4, 5, 6, 7, 8, 9, 10, 11], [], [], [], 0⟩] (by kernel_rfl) (by kernel_rfl) (by kernel_rfl) ?_) | ((first | refine DG_next' (by kernel_rfl) (fun K hK => ?_) | refine DG_nil (by kernel_rfl) (fun K hK => ?_)); simp only [↓Go.Sy.dsnE_some, ↓Go.Sy.dsnE_none, ↓Go.Sy.dsnE_nil, ↓Go.Sy.dsnO_snoc, ↓Go.Sy.dsnO_nil, ↓Go.Sy.nidAt_snoc, ↓Go.Sy.nidAt_nil, push_cast, Nat.reduceLeDiff, Nat.reduceSub, Nat.reduceBEq, Nat.reduceEqDiff, Nat.reduceAdd, Nat.reduceLT, ↓reduceIte, reduceCtorEq]; refine hK _ _ _ ?_; clear hK K) | apply DG_go | apply AL_nil | apply Thn_normal | apply Thn_ret | apply Thn_exit | apply Blk_normal | apply Blk_ret | apply Blk_here | (refine Blk_other rfl ?_) | apply AC_block | apply AC_exit | apply AC_skip | apply AC_ret)
  all_goals ((refine Ends.mk2 (by first | exact .inr rfl | exact .inl rfl) [0, 1, 2, 3, 4] ?_; simp -dsimp (disch := try exact vD) only [push_cast, simprocAttr, Tryd.f55]; (repeat refine aI ?_); try (first | exact vI | fail)))
theorem grow_000 (hi : i < n) (hn : n ≤ 16) (h1 : ACall Tryd.prog 55 (gA n A c1 (i + 1) s) (g0 n A c1) 4 (.val (.int .i64 lo)) (g0 n A c1)) (h2 : ACall Tryd.prog 55 (gA n A c1 (i + 1) (sor s (2 ^ i))) (g0 n A c1) 4 (.val (.int .i64 lo)) (g0 n A c1)) :
    ACall Tryd.prog 55 (gA n A c1 i s) (g0 n A c1) 4 (.val (.int .i64 lo)) (g0 n A c1) := by
  have h1 := PLift.up h1
  have h2 := PLift.up h2
  have h3 := PLift.up (fork_nil_eq (v := i) (lo := lo))
  unfold gA g0 gB at *
  unfold b0 at h3
  have hne : ¬ (i : Int) = n := by omega
  refine ACall.enter Tryd.func55 rfl (by simp [Tryd.ntmps55]) (by simp) ?_; simp only [entry, idx, Tryd.ntmps55, List.length, List.map_cons, List.map_nil, List.append_nil, List.cons_append, List.nil_append, Nat.reduceAdd, Nat.zero_add, List.length_cons, List.length_nil]
  repeat' (first | apply AC_seq | apply AC_region_lit | ((first | refine AL_go rfl (fun K hK => ?_) | refine AL_go0 (fun K hK => ?_) | refine DG_runB [0, 1] (fun K hK => ?_)); refine R_callFnG (f := 55) (dst := some 32) [0, 1, 2, 3] 4 false ?_; simp -dsimp (disch := try exact vD) only [push_cast, simprocAttr, hne]; (repeat refine aI ?_); intro G hG; refine hG _ _ ?_; clear hG G; refine ⟨_, _, h2.down, ?_⟩; simp -dsimp (disch := try exact vD) only [push_cast, simprocAttr, hne]; (repeat refine aI ?_); apply hK; clear hK K) | ((first | refine AL_go rfl (fun K hK => ?_) | refine AL_go0 (fun K hK => ?_) | refine DG_run (fun K hK => ?_)); (first | refine R_callFnG (f := 55) (dst := some 21) [0, 1, 2, 3] 4 false ?_ | refine R_callG (f := 40) [2, 3] 2 false ?_); simp -dsimp (disch := try exact vD) only [push_cast, simprocAttr, hne]; (repeat refine aI ?_); intro G hG; refine hG _ _ ?_; clear hG G; (first | refine ⟨_, _, h1.down, ?_⟩ | refine ⟨_, _, h3.down, ?_⟩); simp -dsimp (disch := try exact vD) only [push_cast, simprocAttr, hne]; (repeat refine aI ?_); apply hK; clear hK K) | ((first | refine AL_go rfl (fun K hK => ?_) | refine AL_go0 (fun K hK => ?_) | refine DG_run (fun K hK => ?_)); (first | apply R_move | apply R_assign | apply Q_load | apply Q_loadAgg | apply Q_eqAgg | apply Q_neqAgg | apply Q_neqSelf | apply Q_bin); simp -dsimp (disch := try exact vD) only [push_cast, simprocAttr, hne]; (repeat refine aI ?_); apply hK; clear hK K) | ((first | refine AL_guard rfl rfl (fun K1 K2 h1 h2 => ?_) rfl | refine AC_cond_k (fun K1 K2 h1 h2 => ?_) | refine DG_guard rfl rfl (fun K1 K2 h1 h2 => ?_)); simp -dsimp (disch := try exact vD) only [push_cast, simprocAttr, hne]; (first | (refine ⟨fun hc => ?_, fun hc => ?_⟩ <;> first | (exfalso; omega) | (exfalso; contradiction) | refine h1 ?_ | refine h2 ?_) | refine h1 ?_ | refine h2 ?_); all_goals clear h1 h2 K1 K2) | (refine AC_draw (id := 4) (by kernel_rfl) [⟨0, [], [23, 24, 25, 26, 27, 28, 29, 30, 31, 32], [5, 6], [], 0⟩, ⟨1, [], [22, 24, 25, 26, 27, 28, 29, 30, 31, 32], [5, 6], [], 0⟩, ⟨2, [], [22, 23, 25, 26, 27, 28, 29, 30, 31, 32], [5, 6], [], 0⟩, ⟨3, [], [22, 23, 24, 26, 27, 28, 29, 30, 31], [], [], 0⟩, ⟨4, [], [22, 23, 24, 25, 28, 29, 30, 31], [], [], 0⟩, ⟨5, [4], [22, 23, 24, 25, 28, 29, 30, 31], [], [], 0⟩, ⟨6, [], [22, 23, 24, 25, 26, 27, 29, 30], [], [], 0⟩, ⟨7, [], [22, 23, 24, 25, 26, 27, 28], [], [], 0⟩, ⟨8, [7], [22, 23, 24, 25, 26, 27, 28], [], [], 0⟩, ⟨9, [6, 7, 8], [22, 23, 24, 25, 26, 27], [], [], 0⟩, ⟨10, [3, 4, 5, 6, 7, 8, 9], [22, 23, 24], [], [5, 6], 0⟩, ⟨11, [0, 1, 2, 3, 4, 5, 6, 7, 8, 9, 10], [], [], [5, 6], 0⟩, ⟨12, [0, 1, 2, 3, 4, 5, 6, 7, 8, 9, 10, 11], [], [], [], 0⟩] (by kernel_rfl) (by kernel_rfl) (by kernel_rfl) ?_) | ((first | refine DG_next' (by kernel_rfl) (fun K hK => ?_) | refine DG_nil (by kernel_rfl) (fun K hK => ?_)); simp only [↓Go.Sy.dsnE_some, ↓Go.Sy.dsnE_none, ↓Go.Sy.dsnE_nil, ↓Go.Sy.dsnO_snoc, ↓Go.Sy.dsnO_nil, ↓Go.Sy.nidAt_snoc, ↓Go.Sy.nidAt_nil, push_cast, Nat.reduceLeDiff, Nat.reduceSub, Nat.reduceBEq, Nat.reduceEqDiff, Nat.reduceAdd, Nat.reduceLT, ↓reduceIte, reduceCtorEq]; refine hK _ _ _ ?_; clear hK K) | apply DG_go | apply AL_nil | apply Thn_normal | apply Thn_ret | apply Thn_exit | apply Blk_normal | apply Blk_ret | apply Blk_here | (refine Blk_other rfl ?_) | apply AC_block | apply AC_exit | apply AC_skip | apply AC_ret)
  all_goals ((refine Ends.mk2 (by first | exact .inr rfl | exact .inl rfl) [0, 1, 2, 3] ?_; simp -dsimp (disch := try exact vD) only [push_cast, simprocAttr, Tryd.f55]; (repeat refine aI ?_); try (first | exact vI | fail)))
theorem grow_00n (hi : i < n) (hn : n ≤ 16) (h1 : ACall Tryd.prog 55 (gA n A c1 (i + 1) s) (g0 n A c1) 4 (.val (.int .i64 a)) (g0 n A c1)) (h2 : ACall Tryd.prog 55 (gA n A c1 (i + 1) (sor s (2 ^ i))) (g0 n A c1) 4 (.val (.int .i64 b)) (g0 n A c1))
    (h3 : ACall Tryd.prog 40 [.pt 0 0, .val (.int .i64 i), .val (.int .i64 a), .val (.int .i64 b)] b0 2 (.val (.int .i64 r)) (bS G k')) :
    ACall Tryd.prog 55 (gA n A c1 i s) (g0 n A c1) 4 (.val (.int .i64 r)) (gS n A c1 G k') := by
  have h1 := PLift.up h1
  have h2 := PLift.up h2
  have h3 := PLift.up h3
  unfold gA g0 gS gB at *
  unfold b0 bS at h3
  have hne : ¬ (i : Int) = n := by omega
  refine ACall.enter Tryd.func55 rfl (by simp [Tryd.ntmps55]) (by simp) ?_; simp only [entry, idx, Tryd.ntmps55, List.length, List.map_cons, List.map_nil, List.append_nil, List.cons_append, List.nil_append, Nat.reduceAdd, Nat.zero_add, List.length_cons, List.length_nil]
  repeat' (first | apply AC_seq | apply AC_region_lit | ((first | refine AL_go rfl (fun K hK => ?_) | refine AL_go0 (fun K hK => ?_) | refine DG_runB [0, 1] (fun K hK => ?_)); refine R_callFnG (f := 55) (dst := some 32) [0, 1, 2, 3] 4 false ?_; simp -dsimp (disch := try exact vD) only [push_cast, simprocAttr, hne]; (repeat refine aI ?_); intro G hG; refine hG _ _ ?_; clear hG G; refine ⟨_, _, h2.down, ?_⟩; simp -dsimp (disch := try exact vD) only [push_cast, simprocAttr, hne]; (repeat refine aI ?_); apply hK; clear hK K) | ((first | refine AL_go rfl (fun K hK => ?_) | refine AL_go0 (fun K hK => ?_) | refine DG_run (fun K hK => ?_)); (first | refine R_callFnG (f := 55) (dst := some 21) [0, 1, 2, 3] 4 false ?_ | refine R_callG (f := 40) [2, 3] 2 false ?_); simp -dsimp (disch := try exact vD) only [push_cast, simprocAttr, hne]; (repeat refine aI ?_); intro G hG; refine hG _ _ ?_; clear hG G; (first | refine ⟨_, _, h1.down, ?_⟩ | refine ⟨_, _, h3.down, ?_⟩); simp -dsimp (disch := try exact vD) only [push_cast, simprocAttr, hne]; (repeat refine aI ?_); apply hK; clear hK K) | ((first | refine AL_go rfl (fun K hK => ?_) | refine AL_go0 (fun K hK => ?_) | refine DG_run (fun K hK => ?_)); (first | apply R_move | apply R_assign | apply Q_load | apply Q_loadAgg | apply Q_eqAgg | apply Q_neqAgg | apply Q_neqSelf | apply Q_bin); simp -dsimp (disch := try exact vD) only [push_cast, simprocAttr, hne]; (repeat refine aI ?_); apply hK; clear hK K) | ((first | refine AL_guard rfl rfl (fun K1 K2 h1 h2 => ?_) rfl | refine AC_cond_k (fun K1 K2 h1 h2 => ?_) | refine DG_guard rfl rfl (fun K1 K2 h1 h2 => ?_)); simp -dsimp (disch := try exact vD) only [push_cast, simprocAttr, hne]; (first | (refine ⟨fun hc => ?_, fun hc => ?_⟩ <;> first | (exfalso; omega) | (exfalso; contradiction) | refine h1 ?_ | refine h2 ?_) | refine h1 ?_ | refine h2 ?_); all_goals clear h1 h2 K1 K2) | (refine AC_draw (id := 4) (by kernel_rfl) [⟨0, [], [23, 24, 25, 26, 27, 28, 29, 30, 31, 32], [5, 6], [], 0⟩, ⟨1, [], [22, 24, 25, 26, 27, 28, 29, 30, 31, 32], [5, 6], [], 0⟩, ⟨2, [], [22, 23, 25, 26, 27, 28, 29, 30, 31, 32], [5, 6], [], 0⟩, ⟨3, [], [22, 23, 24, 26, 27, 28, 29, 30, 31], [], [], 0⟩, ⟨4, [], [22, 23, 24, 25, 28, 29, 30, 31], [], [], 0⟩, ⟨5, [4], [22, 23, 24, 25, 28, 29, 30, 31], [], [], 0⟩, ⟨6, [], [22, 23, 24, 25, 26, 27, 29, 30], [], [], 0⟩, ⟨7, [], [22, 23, 24, 25, 26, 27, 28], [], [], 0⟩, ⟨8, [7], [22, 23, 24, 25, 26, 27, 28], [], [], 0⟩, ⟨9, [6, 7, 8], [22, 23, 24, 25, 26, 27], [], [], 0⟩, ⟨10, [3, 4, 5, 6, 7, 8, 9], [22, 23, 24], [], [5, 6], 0⟩, ⟨11, [0, 1, 2, 3, 4, 5, 6, 7, 8, 9, 10], [], [], [5, 6], 1⟩, ⟨12, [0, 1, 2, 3, 4, 5, 6, 7, 8, 9, 10, 11], [], [], [], 0⟩] (by kernel_rfl) (by kernel_rfl) (by kernel_rfl) ?_) | ((first | refine DG_next' (by kernel_rfl) (fun K hK => ?_) | refine DG_nil (by kernel_rfl) (fun K hK => ?_)); simp only [↓Go.Sy.dsnE_some, ↓Go.Sy.dsnE_none, ↓Go.Sy.dsnE_nil, ↓Go.Sy.dsnO_snoc, ↓Go.Sy.dsnO_nil, ↓Go.Sy.nidAt_snoc, ↓Go.Sy.nidAt_nil, push_cast, Nat.reduceLeDiff, Nat.reduceSub, Nat.reduceBEq, Nat.reduceEqDiff, Nat.reduceAdd, Nat.reduceLT, ↓reduceIte, reduceCtorEq]; refine hK _ _ _ ?_; clear hK K) | apply DG_go | apply AL_nil | apply Thn_normal | apply Thn_ret | apply Thn_exit | apply Blk_normal | apply Blk_ret | apply Blk_here | (refine Blk_other rfl ?_) | apply AC_block | apply AC_exit | apply AC_skip | apply AC_ret)
  all_goals ((refine Ends.mk2 (by first | exact .inr rfl | exact .inl rfl) [0, 1, 2, 3, 4] ?_; simp -dsimp (disch := try exact vD) only [push_cast, simprocAttr, Tryd.f55]; (repeat refine aI ?_); try (first | exact vI | fail)))
theorem grow_00S (hi : i < n) (hn : n ≤ 16) (h1 : ACall Tryd.prog 55 (gA n A c1 (i + 1) s) (g0 n A c1) 4 (.val (.int .i64 a)) (g0 n A c1)) (h2 : ACall Tryd.prog 55 (gA n A c1 (i + 1) (sor s (2 ^ i))) (g0 n A c1) 4 (.val (.int .i64 b)) (gS n A c1 F2 k2))
    (h3 : ACall Tryd.prog 40 [.pt 0 0, .val (.int .i64 i), .val (.int .i64 a), .val (.int .i64 b)] (bS F2 k2) 2 (.val (.int .i64 r)) (bS G k')) :
    ACall Tryd.prog 55 (gA n A c1 i s) (g0 n A c1) 4 (.val (.int .i64 r)) (gS n A c1 G k') := by
  have h1 := PLift.up h1
  have h2 := PLift.up h2
  have h3 := PLift.up h3
  unfold gA g0 gS gB at *
  unfold bS at h3
  have hne : ¬ (i : Int) = n := by omega
  refine ACall.enter Tryd.func55 rfl (by simp [Tryd.ntmps55]) (by simp) ?_; simp only [entry, idx, Tryd.ntmps55, List.length, List.map_cons, List.map_nil, List.append_nil, List.cons_append, List.nil_append, Nat.reduceAdd, Nat.zero_add, List.length_cons, List.length_nil]
  repeat' (first | apply AC_seq | apply AC_region_lit | ((first | refine AL_go rfl (fun K hK => ?_) | refine AL_go0 (fun K hK => ?_) | refine DG_runB [0, 1] (fun K hK => ?_)); refine R_callFnG (f := 55) (dst := some 32) [0, 1, 2, 3] 4 false ?_; simp -dsimp (disch := try exact vD) only [push_cast, simprocAttr, hne]; (repeat refine aI ?_); intro G hG; refine hG _ _ ?_; clear hG G; refine ⟨_, _, h2.down, ?_⟩; simp -dsimp (disch := try exact vD) only [push_cast, simprocAttr, hne]; (repeat refine aI ?_); apply hK; clear hK K) | ((first | refine AL_go rfl (fun K hK => ?_) | refine AL_go0 (fun K hK => ?_) | refine DG_run (fun K hK => ?_)); (first | refine R_callFnG (f := 55) (dst := some 21) [0, 1, 2, 3] 4 false ?_ | refine R_callG (f := 40) [2, 3, 4] 2 false ?_); simp -dsimp (disch := try exact vD) only [push_cast, simprocAttr, hne]; (repeat refine aI ?_); intro G hG; refine hG _ _ ?_; clear hG G; (first | refine ⟨_, _, h1.down, ?_⟩ | refine ⟨_, _, h3.down, ?_⟩); simp -dsimp (disch := try exact vD) only [push_cast, simprocAttr, hne]; (repeat refine aI ?_); apply hK; clear hK K) | ((first | refine AL_go rfl (fun K hK => ?_) | refine AL_go0 (fun K hK => ?_) | refine DG_run (fun K hK => ?_)); (first | apply R_move | apply R_assign | apply Q_load | apply Q_loadAgg | apply Q_eqAgg | apply Q_neqAgg | apply Q_neqSelf | apply Q_bin); simp -dsimp (disch := try exact vD) only [push_cast, simprocAttr, hne]; (repeat refine aI ?_); apply hK; clear hK K) | ((first | refine AL_guard rfl rfl (fun K1 K2 h1 h2 => ?_) rfl | refine AC_cond_k (fun K1 K2 h1 h2 => ?_) | refine DG_guard rfl rfl (fun K1 K2 h1 h2 => ?_)); simp -dsimp (disch := try exact vD) only [push_cast, simprocAttr, hne]; (first | (refine ⟨fun hc => ?_, fun hc => ?_⟩ <;> first | (exfalso; omega) | (exfalso; contradiction) | refine h1 ?_ | refine h2 ?_) | refine h1 ?_ | refine h2 ?_); all_goals clear h1 h2 K1 K2) | (refine AC_draw (id := 4) (by kernel_rfl) [⟨0, [], [23, 24, 25, 26, 27, 28, 29, 30, 31, 32], [5, 6], [], 0⟩, ⟨1, [], [22, 24, 25, 26, 27, 28, 29, 30, 31, 32], [5, 6], [], 0⟩, ⟨2, [], [22, 23, 25, 26, 27, 28, 29, 30, 31, 32], [5, 6], [], 0⟩, ⟨3, [], [22, 23, 24, 26, 27, 28, 29, 30, 31], [], [], 0⟩, ⟨4, [], [22, 23, 24, 25, 28, 29, 30, 31], [], [], 0⟩, ⟨5, [4], [22, 23, 24, 25, 28, 29, 30, 31], [], [], 0⟩, ⟨6, [], [22, 23, 24, 25, 26, 27, 29, 30], [], [], 0⟩, ⟨7, [], [22, 23, 24, 25, 26, 27, 28], [], [], 0⟩, ⟨8, [7], [22, 23, 24, 25, 26, 27, 28], [], [], 0⟩, ⟨9, [6, 7, 8], [22, 23, 24, 25, 26, 27], [], [], 0⟩, ⟨10, [3, 4, 5, 6, 7, 8, 9], [22, 23, 24], [], [5, 6], 1⟩, ⟨11, [0, 1, 2, 3, 4, 5, 6, 7, 8, 9, 10], [], [], [5, 6, 7], 1⟩, ⟨12, [0, 1, 2, 3, 4, 5, 6, 7, 8, 9, 10, 11], [], [], [], 0⟩] (by kernel_rfl) (by kernel_rfl) (by kernel_rfl) ?_) | ((first | refine DG_next' (by kernel_rfl) (fun K hK => ?_) | refine DG_nil (by kernel_rfl) (fun K hK => ?_)); simp only [↓Go.Sy.dsnE_some, ↓Go.Sy.dsnE_none, ↓Go.Sy.dsnE_nil, ↓Go.Sy.dsnO_snoc, ↓Go.Sy.dsnO_nil, ↓Go.Sy.nidAt_snoc, ↓Go.Sy.nidAt_nil, push_cast, Nat.reduceLeDiff, Nat.reduceSub, Nat.reduceBEq, Nat.reduceEqDiff, Nat.reduceAdd, Nat.reduceLT, ↓reduceIte, reduceCtorEq]; refine hK _ _ _ ?_; clear hK K) | apply DG_go | apply AL_nil | apply Thn_normal | apply Thn_ret | apply Thn_exit | apply Blk_normal | apply Blk_ret | apply Blk_here | (refine Blk_other rfl ?_) | apply AC_block | apply AC_exit | apply AC_skip | apply AC_ret)
  all_goals ((refine Ends.mk2 (by first | exact .inr rfl | exact .inl rfl) [0, 1, 2, 3, 5] ?_; simp -dsimp (disch := try exact vD) only [push_cast, simprocAttr, Tryd.f55]; (repeat refine aI ?_); try (first | exact vI | fail)))
theorem grow_0SS (hi : i < n) (hn : n ≤ 16) (h1 : ACall Tryd.prog 55 (gA n A c1 (i + 1) s) (g0 n A c1) 4 (.val (.int .i64 a)) (gS n A c1 F1 k1)) (h2 : ACall Tryd.prog 55 (gA n A c1 (i + 1) (sor s (2 ^ i))) (gS n A c1 F1 k1) 4 (.val (.int .i64 b)) (gS n A c1 F2 k2))
    (h3 : ACall Tryd.prog 40 [.pt 0 0, .val (.int .i64 i), .val (.int .i64 a), .val (.int .i64 b)] (bS F2 k2) 2 (.val (.int .i64 r)) (bS G k')) :
    ACall Tryd.prog 55 (gA n A c1 i s) (g0 n A c1) 4 (.val (.int .i64 r)) (gS n A c1 G k') := by
  have h1 := PLift.up h1
  have h2 := PLift.up h2
  have h3 := PLift.up h3
  unfold gA g0 gS gB at *
  unfold bS at h3
  have hne : ¬ (i : Int) = n := by omega
  refine ACall.enter Tryd.func55 rfl (by simp [Tryd.ntmps55]) (by simp) ?_; simp only [entry, idx, Tryd.ntmps55, List.length, List.map_cons, List.map_nil, List.append_nil, List.cons_append, List.nil_append, Nat.reduceAdd, Nat.zero_add, List.length_cons, List.length_nil]
  repeat' (first | apply AC_seq | apply AC_region_lit | ((first | refine AL_go rfl (fun K hK => ?_) | refine AL_go0 (fun K hK => ?_) | refine DG_runB [0, 1] (fun K hK => ?_)); refine R_callFnG (f := 55) (dst := some 32) [0, 1, 2, 3, 4] 4 false ?_; simp -dsimp (disch := try exact vD) only [push_cast, simprocAttr, hne]; (repeat refine aI ?_); intro G hG; refine hG _ _ ?_; clear hG G; refine ⟨_, _, h2.down, ?_⟩; simp -dsimp (disch := try exact vD) only [push_cast, simprocAttr, hne]; (repeat refine aI ?_); apply hK; clear hK K) | ((first | refine AL_go rfl (fun K hK => ?_) | refine AL_go0 (fun K hK => ?_) | refine DG_run (fun K hK => ?_)); (first | refine R_callFnG (f := 55) (dst := some 21) [0, 1, 2, 3] 4 false ?_ | refine R_callG (f := 40) [2, 3, 5] 2 false ?_); simp -dsimp (disch := try exact vD) only [push_cast, simprocAttr, hne]; (repeat refine aI ?_); intro G hG; refine hG _ _ ?_; clear hG G; (first | refine ⟨_, _, h1.down, ?_⟩ | refine ⟨_, _, h3.down, ?_⟩); simp -dsimp (disch := try exact vD) only [push_cast, simprocAttr, hne]; (repeat refine aI ?_); apply hK; clear hK K) | ((first | refine AL_go rfl (fun K hK => ?_) | refine AL_go0 (fun K hK => ?_) | refine DG_run (fun K hK => ?_)); (first | apply R_move | apply R_assign | apply Q_load | apply Q_loadAgg | apply Q_eqAgg | apply Q_neqAgg | apply Q_neqSelf | apply Q_bin); simp -dsimp (disch := try exact vD) only [push_cast, simprocAttr, hne]; (repeat refine aI ?_); apply hK; clear hK K) | ((first | refine AL_guard rfl rfl (fun K1 K2 h1 h2 => ?_) rfl | refine AC_cond_k (fun K1 K2 h1 h2 => ?_) | refine DG_guard rfl rfl (fun K1 K2 h1 h2 => ?_)); simp -dsimp (disch := try exact vD) only [push_cast, simprocAttr, hne]; (first | (refine ⟨fun hc => ?_, fun hc => ?_⟩ <;> first | (exfalso; omega) | (exfalso; contradiction) | refine h1 ?_ | refine h2 ?_) | refine h1 ?_ | refine h2 ?_); all_goals clear h1 h2 K1 K2) | (refine AC_draw (id := 4) (by kernel_rfl) [⟨0, [], [23, 24, 25, 26, 27, 28, 29, 30, 31, 32], [5, 6, 7], [], 0⟩, ⟨1, [], [22, 24, 25, 26, 27, 28, 29, 30, 31, 32], [5, 6, 7], [], 0⟩, ⟨2, [], [22, 23, 25, 26, 27, 28, 29, 30, 31, 32], [5, 6, 7], [], 0⟩, ⟨3, [], [22, 23, 24, 26, 27, 28, 29, 30, 31], [], [], 0⟩, ⟨4, [], [22, 23, 24, 25, 28, 29, 30, 31], [], [], 0⟩, ⟨5, [4], [22, 23, 24, 25, 28, 29, 30, 31], [], [], 0⟩, ⟨6, [], [22, 23, 24, 25, 26, 27, 29, 30], [], [], 0⟩, ⟨7, [], [22, 23, 24, 25, 26, 27, 28], [], [], 0⟩, ⟨8, [7], [22, 23, 24, 25, 26, 27, 28], [], [], 0⟩, ⟨9, [6, 7, 8], [22, 23, 24, 25, 26, 27], [], [], 0⟩, ⟨10, [3, 4, 5, 6, 7, 8, 9], [22, 23, 24], [], [5, 6, 7], 1⟩, ⟨11, [0, 1, 2, 3, 4, 5, 6, 7, 8, 9, 10], [], [], [5, 6, 8], 1⟩, ⟨12, [0, 1, 2, 3, 4, 5, 6, 7, 8, 9, 10, 11], [], [], [], 0⟩] (by kernel_rfl) (by kernel_rfl) (by kernel_rfl) ?_) | ((first | refine DG_next' (by kernel_rfl) (fun K hK => ?_) | refine DG_nil (by kernel_rfl) (fun K hK => ?_)); simp only [↓Go.Sy.dsnE_some, ↓Go.Sy.dsnE_none, ↓Go.Sy.dsnE_nil, ↓Go.Sy.dsnO_snoc, ↓Go.Sy.dsnO_nil, ↓Go.Sy.nidAt_snoc, ↓Go.Sy.nidAt_nil, push_cast, Nat.reduceLeDiff, Nat.reduceSub, Nat.reduceBEq, Nat.reduceEqDiff, Nat.reduceAdd, Nat.reduceLT, ↓reduceIte, reduceCtorEq]; refine hK _ _ _ ?_; clear hK K) | apply DG_go | apply AL_nil | apply Thn_normal | apply Thn_ret | apply Thn_exit | apply Blk_normal | apply Blk_ret | apply Blk_here | (refine Blk_other rfl ?_) | apply AC_block | apply AC_exit | apply AC_skip | apply AC_ret)
  all_goals ((refine Ends.mk2 (by first | exact .inr rfl | exact .inl rfl) [0, 1, 2, 3, 6] ?_; simp -dsimp (disch := try exact vD) only [push_cast, simprocAttr, Tryd.f55]; (repeat refine aI ?_); try (first | exact vI | fail)))
theorem grow_SSS (hi : i < n) (hn : n ≤ 16) (h1 : ACall Tryd.prog 55 (gA n A c1 (i + 1) s) (gS n A c1 F k) 4 (.val (.int .i64 a)) (gS n A c1 F1 k1)) (h2 : ACall Tryd.prog 55 (gA n A c1 (i + 1) (sor s (2 ^ i))) (gS n A c1 F1 k1) 4 (.val (.int .i64 b)) (gS n A c1 F2 k2))
    (h3 : ACall Tryd.prog 40 [.pt 0 0, .val (.int .i64 i), .val (.int .i64 a), .val (.int .i64 b)] (bS F2 k2) 2 (.val (.int .i64 r)) (bS G k')) :
    ACall Tryd.prog 55 (gA n A c1 i s) (gS n A c1 F k) 4 (.val (.int .i64 r)) (gS n A c1 G k') := by
  have h1 := PLift.up h1
  have h2 := PLift.up h2
  have h3 := PLift.up h3
  unfold gA gS gB at *
  unfold bS at h3
  have hne : ¬ (i : Int) = n := by omega
  refine ACall.enter Tryd.func55 rfl (by simp [Tryd.ntmps55]) (by simp) ?_; simp only [entry, idx, Tryd.ntmps55, List.length, List.map_cons, List.map_nil, List.append_nil, List.cons_append, List.nil_append, Nat.reduceAdd, Nat.zero_add, List.length_cons, List.length_nil]
  repeat' (first | apply AC_seq | apply AC_region_lit | ((first | refine AL_go rfl (fun K hK => ?_) | refine AL_go0 (fun K hK => ?_) | refine DG_runB [0, 1] (fun K hK => ?_)); refine R_callFnG (f := 55) (dst := some 32) [0, 1, 2, 3, 5] 4 false ?_; simp -dsimp (disch := try exact vD) only [push_cast, simprocAttr, hne]; (repeat refine aI ?_); intro G hG; refine hG _ _ ?_; clear hG G; refine ⟨_, _, h2.down, ?_⟩; simp -dsimp (disch := try exact vD) only [push_cast, simprocAttr, hne]; (repeat refine aI ?_); apply hK; clear hK K) | ((first | refine AL_go rfl (fun K hK => ?_) | refine AL_go0 (fun K hK => ?_) | refine DG_run (fun K hK => ?_)); (first | refine R_callFnG (f := 55) (dst := some 21) [0, 1, 2, 3, 4] 4 false ?_ | refine R_callG (f := 40) [2, 3, 6] 2 false ?_); simp -dsimp (disch := try exact vD) only [push_cast, simprocAttr, hne]; (repeat refine aI ?_); intro G hG; refine hG _ _ ?_; clear hG G; (first | refine ⟨_, _, h1.down, ?_⟩ | refine ⟨_, _, h3.down, ?_⟩); simp -dsimp (disch := try exact vD) only [push_cast, simprocAttr, hne]; (repeat refine aI ?_); apply hK; clear hK K) | ((first | refine AL_go rfl (fun K hK => ?_) | refine AL_go0 (fun K hK => ?_) | refine DG_run (fun K hK => ?_)); (first | apply R_move | apply R_assign | apply Q_load | apply Q_loadAgg | apply Q_eqAgg | apply Q_neqAgg | apply Q_neqSelf | apply Q_bin); simp -dsimp (disch := try exact vD) only [push_cast, simprocAttr, hne]; (repeat refine aI ?_); apply hK; clear hK K) | ((first | refine AL_guard rfl rfl (fun K1 K2 h1 h2 => ?_) rfl | refine AC_cond_k (fun K1 K2 h1 h2 => ?_) | refine DG_guard rfl rfl (fun K1 K2 h1 h2 => ?_)); simp -dsimp (disch := try exact vD) only [push_cast, simprocAttr, hne]; (first | (refine ⟨fun hc => ?_, fun hc => ?_⟩ <;> first | (exfalso; omega) | (exfalso; contradiction) | refine h1 ?_ | refine h2 ?_) | refine h1 ?_ | refine h2 ?_); all_goals clear h1 h2 K1 K2) | (refine AC_draw (id := 4) (by kernel_rfl) [⟨0, [], [23, 24, 25, 26, 27, 28, 29, 30, 31, 32], [5, 6, 8], [], 0⟩, ⟨1, [], [22, 24, 25, 26, 27, 28, 29, 30, 31, 32], [5, 6, 8], [], 0⟩, ⟨2, [], [22, 23, 25, 26, 27, 28, 29, 30, 31, 32], [5, 6, 8], [], 0⟩, ⟨3, [], [22, 23, 24, 26, 27, 28, 29, 30, 31], [], [], 0⟩, ⟨4, [], [22, 23, 24, 25, 28, 29, 30, 31], [], [], 0⟩, ⟨5, [4], [22, 23, 24, 25, 28, 29, 30, 31], [], [], 0⟩, ⟨6, [], [22, 23, 24, 25, 26, 27, 29, 30], [], [], 0⟩, ⟨7, [], [22, 23, 24, 25, 26, 27, 28], [], [], 0⟩, ⟨8, [7], [22, 23, 24, 25, 26, 27, 28], [], [], 0⟩, ⟨9, [6, 7, 8], [22, 23, 24, 25, 26, 27], [], [], 0⟩, ⟨10, [3, 4, 5, 6, 7, 8, 9], [22, 23, 24], [], [5, 6, 8], 1⟩, ⟨11, [0, 1, 2, 3, 4, 5, 6, 7, 8, 9, 10], [], [], [5, 6, 9], 1⟩, ⟨12, [0, 1, 2, 3, 4, 5, 6, 7, 8, 9, 10, 11], [], [], [], 0⟩] (by kernel_rfl) (by kernel_rfl) (by kernel_rfl) ?_) | ((first | refine DG_next' (by kernel_rfl) (fun K hK => ?_) | refine DG_nil (by kernel_rfl) (fun K hK => ?_)); simp only [↓Go.Sy.dsnE_some, ↓Go.Sy.dsnE_none, ↓Go.Sy.dsnE_nil, ↓Go.Sy.dsnO_snoc, ↓Go.Sy.dsnO_nil, ↓Go.Sy.nidAt_snoc, ↓Go.Sy.nidAt_nil, push_cast, Nat.reduceLeDiff, Nat.reduceSub, Nat.reduceBEq, Nat.reduceEqDiff, Nat.reduceAdd, Nat.reduceLT, ↓reduceIte, reduceCtorEq]; refine hK _ _ _ ?_; clear hK K) | apply DG_go | apply AL_nil | apply Thn_normal | apply Thn_ret | apply Thn_exit | apply Blk_normal | apply Blk_ret | apply Blk_here | (refine Blk_other rfl ?_) | apply AC_block | apply AC_exit | apply AC_skip | apply AC_ret)
  all_goals ((refine Ends.mk2 (by first | exact .inr rfl | exact .inl rfl) [0, 1, 2, 3, 7] ?_; simp -dsimp (disch := try exact vD) only [push_cast, simprocAttr, Tryd.f55]; (repeat refine aI ?_); try (first | exact vI | fail)))
def bF (F : List Fo) : List AObj := if F = [] then b0 else bS F F.length
theorem bF_S (h : ¬ F = []) : bF F = bS F F.length := if_neg h
theorem mkF_ne (h : ¬ F = []) : ¬ (mkF F v lo hi).1 = [] := by
  unfold mkF
  split
  · exact h
  · split
    · exact h
    · simp
theorem fork_ok (hl : F.length < 2 ^ 40) : ACall Tryd.prog 40 [.pt 0 0, .val (.int .i64 v), .val (.int .i64 lo), .val (.int .i64 hi)] (bF F) 2 (.val (.int .i64 ((mkF F v lo hi).2 : Nat))) (bF (mkF F v lo hi).1) := by
  by_cases e : lo = hi
  · subst e
    rw [mkF_eq]
    by_cases hF : F = []
    · subst hF; exact fork_nil_eq
    · rw [bF_S hF]; exact fork_eq
  · by_cases hF : F = []
    · subst hF
      rw [mkF_out e (by simp)]
      exact fork_nil e
    · have hp : 0 < F.length := List.length_pos_iff.2 hF
      by_cases hm : (⟨v, lo, hi⟩ : Fo) ∈ F
      · rw [mkF_in e hm, bF_S hF]
        have := fork_hit (n := F.length) e hm
        dsimp only
        rw [Int.natCast_add]; exact this
      · rw [mkF_out e hm]
        have := fork_new e hm rfl hp hl
        dsimp only
        rw [bF_S hF, bF_S (by simp), List.length_append, List.length_singleton, Int.natCast_add]; exact this
def oF (n : Nat) (A : FuncId) (c1 : List AV) (F : List Fo) : List AObj := if F = [] then g0 n A c1 else gS n A c1 F F.length
theorem oF_0 : oF n A c1 [] = g0 n A c1 := rfl
theorem oF_S (h : ¬ F = []) : oF n A c1 F = gS n A c1 F F.length := if_neg h
theorem gen_pre : ∀ (m i s : Nat) (F : List Fo), F ≠ [] → (gen tab m i s F).1 ≠ []
  | 0, i, s, F, h => h
  | m + 1, i, s, F, h => mkF_ne (gen_pre m _ _ _ (gen_pre m _ _ _ h))
theorem grow_ok (hn : n ≤ 16) (hacc : ∀ s, s < 2 ^ n → ACall Tryd.prog A [.val (.int .u16 (U s)), .ipt c1 0] [] 0 (.val (.bool (tab s))) []) : ∀ (m i s : Nat) (F : List Fo), i + m = n → s < 2 ^ i → F.length + 2 ^ m < 2 ^ 20 →
    ACall Tryd.prog 55 (gA n A c1 i s) (oF n A c1 F) 4 (.val (.int .i64 ((gen tab m i s F).2 : Nat))) (oF n A c1 (gen tab m i s F).1) := by
  intro m
  induction m with
  | zero =>
    intro i s F hi hs hl
    have hin : i = n := by omega
    subst hin
    rw [gen_0]
    dsimp only
    have e : ((if tab s = true then 1 else 0 : Nat) : Int) = if tab s = true then 1 else 0 := by split <;> rfl
    rw [e]
    by_cases hF : F = []
    · subst hF; exact grow_leaf (hacc s hs)
    · rw [oF_S hF]; exact grow_leafS (hacc s hs)
  | succ m ih =>
    intro i s F hi hs hl
    have hpm := Nat.two_pow_pos m
    have hp2 : 2 ^ (m + 1) = 2 ^ m + 2 ^ m := by rw [Nat.pow_succ]; omega
    have l1 := gen_len (tab := tab) m (i + 1) s F
    have h1 := ih (i + 1) s F (by omega) (lt_s hs) (by omega)
    have p1 : F ≠ [] → (gen tab m (i + 1) s F).1 ≠ [] := gen_pre m (i + 1) s F
    generalize hA : gen tab m (i + 1) s F = R1 at h1 l1 p1
    obtain ⟨F1, a⟩ := R1
    dsimp only at h1 l1 p1
    have l2 := gen_len (tab := tab) m (i + 1) (s ||| 2 ^ i) F1
    have h2 := ih (i + 1) (s ||| 2 ^ i) F1 (by omega) (or_lt hs) (by omega)
    have p2 : F1 ≠ [] → (gen tab m (i + 1) (s ||| 2 ^ i) F1).1 ≠ [] := gen_pre m (i + 1) (s ||| 2 ^ i) F1
    generalize hB : gen tab m (i + 1) (s ||| 2 ^ i) F1 = R2 at h2 l2 p2
    obtain ⟨F2, b⟩ := R2
    dsimp only at h2 l2 p2
    rw [gen_s hA hB]
    have h3 := fork_ok (F := F2) (v := i) (lo := a) (hi := b) (by omega)
    have p3 : F2 ≠ [] → (mkF F2 i a b).1 ≠ [] := fun h => mkF_ne h
    have p0 : F2 = [] → (mkF F2 i a b).1 = [] → a = b := fun h h4 => by
      subst h
      unfold mkF at h4
      split at h4
      · assumption
      · simp at h4
    have hin : i < n := by omega
    by_cases hF2 : F2 = []
    · have hF1 : F1 = [] := Decidable.not_not.1 fun h => p2 h hF2
      have hF : F = [] := Decidable.not_not.1 fun h => p1 h hF1
      subst hF2; subst hF1; subst hF
      by_cases hG : (mkF [] i a b).1 = []
      · have := p0 rfl hG
        subst this
        rw [mkF_eq]
        exact grow_000 hin hn h1 h2
      · rw [bF_S hG] at h3
        rw [oF_S hG]
        exact grow_00n hin hn h1 h2 h3
    · have hG := p3 hF2
      rw [bF_S hF2, bF_S hG] at h3
      rw [oF_S hG]
      rw [oF_S hF2] at h2
      by_cases hF1 : F1 = []
      · have hF : F = [] := Decidable.not_not.1 fun h => p1 h hF1
        subst hF1; subst hF
        exact grow_00S hin hn h1 h2 h3
      · rw [oF_S hF1] at h1 h2
        by_cases hF : F = []
        · subst hF; exact grow_0SS hin hn h1 h2 h3
        · rw [oF_S hF] at h1 ⊢
          exact grow_SSS hin hn h1 h2 h3
end Go.Proofs.YtabafldpnkjboaaDoor
