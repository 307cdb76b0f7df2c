/- Diagrams: the reference's Table and From. No condition. -/
import Derived.Test.YtebinjcofclfaaaDoorDi4
set_option linter.unusedVariables false
set_option linter.unusedSectionVars false
set_option linter.unusedSimpArgs false
set_option maxHeartbeats 4000000
set_option maxRecDepth 20000
namespace Go.Proofs.YtebinjcofclfaaaDoor
open Go Go.Sy Go.Dg
attribute [local irreducible] AO AL AC OpT ACall Ends DGo DRun Thn Blk Nxt
variable {N N' N1 N2 T : Nat} {F F1 F2 G : List Fo} {L L' : List Fk} {v lo hi n k k1 k2 k' i m s t a b r : Nat} {p q p' q' : Int} {z z' : Bool} {x y : Fk}
theorem cB_tabs : cB (tabL F r s) ++ [AV.val (.bool (valN F s r))] = cB (tabL F r (s + 1)) := by rw [tabL_s]; simp [cB]
theorem cB_len {l : List Bool} : (cB l).length = l.length := by simp [cB]
theorem tk_tab : (cB (tabL F r s)).take s = cB (tabL F r s) := List.take_of_length_le (by rw [cB_len, tabL_len]; exact Nat.le_refl _)
theorem shl64 (hn : n ≤ 16) : IntKind.wrap .i64 (1 * 2 ^ min n (IntKind.bits .i64)) = ((2 ^ n : Nat) : Int) := by
  have hp : 2 ^ n ≤ 2 ^ 16 := Nat.pow_le_pow_right (by omega) hn
  rw [show min n (IntKind.bits .i64) = n from Nat.min_eq_left (by show n ≤ 64; omega), Int.one_mul]
  have e : (2 : Int) ^ n = ((2 ^ n : Nat) : Int) := by norm_cast
  rw [e]
  generalize 2 ^ n = T at hp
  exact w_i64 (by omega)
def rtI (z : Bool) (n : Nat) (F : List Fo) (N r T : Nat) (s : {s : Nat // s ≤ T}) : St :=
  ⟨22, 0, [(1,.pt 0 0), (3,nilOr s.val 1 1), (4,.val (.int .i64 s.val))], [(0, some (.cells [.val (.int .i64 n), .isl z (cR F) N, .val (.int .i64 r)] 28))] ++ nilOb s.val 1 (cB (tabL F r s.val)) 4⟩
abbrev dN (n : Nat) (F : List Fo) (N : Nat) (q : Int) : AV := .agg [.val (.int .i64 n), .isl (N == 0) (cR F) N, .val (.int .i64 q)]
theorem eqI_fo {x : Fo} {v lo hi : Nat} : eqI [(x.v : Int), (x.lo : Int), (x.hi : Int)] [(v : Int), (lo : Int), (hi : Int)] = decide (x = ⟨v, lo, hi⟩) := by
  rw [eqI_eq]
  congr 1
  cases x
  simp only [List.cons.injEq, and_true, Fo.mk.injEq, eq_iff_iff]
  omega
theorem node_leaf {tb : List Bool} {M : Nat} (hM : tb.length = M) (hs : s < M) (h16 : s < 65536) (hn : n ≤ 16) : ACall Tryd.prog 76 [dN n F N q, .isl false (cB tb) M, .val (.int .i64 n), .val (.int .u16 (U s))] [] 0 (.tup [dN n F N q, .val (.int .i64 (if tb.getD s false = true then 1 else 0))]) [] := by
  rw [U_of h16]
  unfold dN
  show ACall Tryd.prog 76 _ [] 0 (.tup [_, .val (.int .i64 (if tb.getD s default = true then 1 else 0))]) []
  rcases Bool.eq_false_or_eq_true (tb.getD s default) with hb | hb <;> rw [hb]
  all_goals (refine ACall.enter Tryd.func76 rfl (by simp [Tryd.ntmps76]) (by simp) ?_; simp only [entry, idx, Tryd.ntmps76, List.length, List.map_cons, List.map_nil, List.append_nil, List.cons_append, List.nil_append, Nat.reduceAdd, Nat.zero_add, List.length_cons, List.length_nil])
  all_goals repeat' (first | apply AC_seq | apply AC_region_lit | ((first | refine AL_go rfl (fun K hK => ?_) | refine AL_go0 (fun K hK => ?_) | refine DG_run (fun K hK => ?_)); (first | apply R_move | apply R_assign | apply Q_load | apply Q_loadAgg | apply Q_fieldAddr | apply Q_indexAddr | apply Q_indexArr | apply Q_len | apply Q_lenStr | apply Q_extract | apply Q_box | apply R_alloc | apply Q_store | apply Q_build | apply Q_buildArr | apply Q_buildSlice | apply Q_eqAgg | apply Q_neqAgg | apply Q_neqSelf | apply Q_bin | apply Q_appendNil); simp -dsimp (disch := try exact vD) only [push_cast, simprocAttr, hb]; (repeat refine aI ?_); apply hK; clear hK K) | ((first | refine AL_go rfl (fun K hK => ?_) | refine AL_go0 (fun K hK => ?_) | refine DG_run (fun K hK => ?_)); (first | apply Q_append); simp -dsimp (disch := try exact vD) only [push_cast, simprocAttr, hb]; (repeat refine aI ?_); apply hK; clear hK K) | ((first | refine AL_go rfl (fun K hK => ?_) | refine AL_go0 (fun K hK => ?_) | refine DG_run (fun K hK => ?_)); (first | apply Q_append00); simp -dsimp (disch := try exact vD) only [push_cast, simprocAttr, hb]; (repeat refine aI ?_); apply hK; clear hK K) | ((first | refine AL_go rfl (fun K hK => ?_) | refine AL_go0 (fun K hK => ?_) | refine DG_run (fun K hK => ?_)); (first | apply Q_appendIn); simp -dsimp (disch := try exact vD) only [push_cast, simprocAttr, hb]; (repeat refine aI ?_); apply hK; clear hK K) | ((first | refine AL_guard rfl rfl (fun K1 K2 h1 h2 => ?_) rfl | refine AC_cond_k (fun K1 K2 h1 h2 => ?_) | refine DG_guard rfl rfl (fun K1 K2 h1 h2 => ?_)); simp -dsimp (disch := try exact vD) only [push_cast, simprocAttr, hb]; (first | (refine ⟨fun hc => ?_, fun hc => ?_⟩ <;> first | (exfalso; omega) | (exfalso; contradiction) | refine h1 ?_ | refine h2 ?_) | refine h1 ?_ | refine h2 ?_); all_goals clear h1 h2 K1 K2) | (refine AC_draw (id := 6) (by kernel_rfl) [⟨0, [], [35, 36, 37, 38, 39, 40, 41], [], [], 0⟩, ⟨1, [], [34, 36, 37, 38, 39, 40, 41], [], [], 0⟩, ⟨2, [], [34, 35, 38, 39, 40, 41], [], [], 0⟩, ⟨3, [2], [34, 35, 38, 39, 40, 41], [], [], 0⟩, ⟨4, [], [34, 35, 36, 37, 39, 40], [], [], 0⟩, ⟨5, [], [34, 35, 36, 37, 38], [], [], 0⟩, ⟨6, [5], [34, 35, 36, 37, 38], [], [], 0⟩, ⟨7, [4, 5, 6], [34, 35, 36, 37], [], [], 0⟩, ⟨8, [0, 1, 2, 3, 4, 5, 6, 7], [], [], [], 0⟩, ⟨9, [0, 1, 2, 3, 4, 5, 6, 7, 8], [], [], [], 0⟩, ⟨10, [0, 1, 2, 3, 4, 5, 6, 7, 8, 9], [44], [], [], 0⟩, ⟨11, [0, 1, 2, 3, 4, 5, 6, 7, 8, 9], [43], [2], [], 0⟩, ⟨12, [0, 1, 2, 3, 4, 5, 6, 7, 8, 9, 10], [44], [], [2], 0⟩, ⟨13, [0, 1, 2, 3, 4, 5, 6, 7, 8, 9, 10, 11, 12], [], [], [], 0⟩] (by kernel_rfl) (by kernel_rfl) (by kernel_rfl) ?_) | (refine AC_draw (id := 13) (by kernel_rfl) [⟨0, [], [63, 66], [], [], 0⟩, ⟨1, [0], [63, 66], [], [], 0⟩, ⟨2, [], [61, 62, 66], [], [], 0⟩, ⟨3, [0, 1, 2], [66], [], [], 0⟩, ⟨4, [0, 1, 2, 3], [66], [], [], 0⟩, ⟨5, [], [61, 62, 63, 64, 65], [], [], 0⟩, ⟨6, [0, 1, 2, 3, 4, 5], [], [], [], 0⟩] (by kernel_rfl) (by kernel_rfl) (by kernel_rfl) ?_) | (refine AC_draw (id := 15) (by kernel_rfl) [⟨0, [], [72, 73, 75, 76], [], [], 1⟩, ⟨1, [], [71, 75, 76], [], [], 0⟩, ⟨2, [1], [71, 75, 76], [], [], 0⟩, ⟨3, [0, 1, 2], [75, 76], [], [1], 1⟩, ⟨4, [], [71, 72, 73, 74], [1], [], 0⟩, ⟨5, [4], [71, 72, 73, 74], [1], [], 1⟩, ⟨6, [0, 1, 2, 3, 4, 5], [], [], [2], 1⟩, ⟨7, [0, 1, 2, 3, 4, 5, 6], [], [], [], 0⟩, ⟨8, [0, 1, 2, 3, 4, 5, 6, 7], [], [], [2], 0⟩] (by kernel_rfl) (by kernel_rfl) (by kernel_rfl) ?_) | (refine AC_draw (id := 16) (by kernel_rfl) [⟨0, [], [80, 81, 82, 83], [], [], 0⟩, ⟨1, [], [79], [2], [], 0⟩, ⟨2, [1], [79], [2], [], 0⟩, ⟨3, [1, 2], [79], [2], [], 0⟩, ⟨4, [1, 2, 3], [79], [2], [], 0⟩, ⟨5, [0], [80, 81, 82, 83], [], [2], 0⟩, ⟨6, [0, 1, 2, 3, 4, 5], [], [], [], 0⟩] (by kernel_rfl) (by kernel_rfl) (by kernel_rfl) ?_) | ((first | refine DG_next' (by kernel_rfl) (fun K hK => ?_) | refine DG_nil (by kernel_rfl) (fun K hK => ?_)); simp only [↓Go.Sy.dsnE_some, ↓Go.Sy.dsnE_none, ↓Go.Sy.dsnE_nil, ↓Go.Sy.dsnO_snoc, ↓Go.Sy.dsnO_nil, ↓Go.Sy.nidAt_snoc, ↓Go.Sy.nidAt_nil, push_cast, Nat.reduceLeDiff, Nat.reduceSub, Nat.reduceBEq, Nat.reduceEqDiff, Nat.reduceAdd, Nat.reduceLT, ↓reduceIte, reduceCtorEq]; refine hK _ _ _ ?_; clear hK K) | apply DG_go | apply AL_nil | apply Thn_normal | apply Thn_ret | apply Thn_exit | apply Blk_normal | apply Blk_ret | apply Blk_here | (refine Blk_other rfl ?_) | apply AC_block | apply AC_exit | apply AC_skip | apply AC_ret)
  all_goals ((refine Ends.mk2 (by first | exact .inr rfl | exact .inl rfl) [] ?_; simp -dsimp (disch := try exact vD) only [push_cast, simprocAttr, Tryd.f76]; (repeat refine aI ?_); try (first | exact vI | fail)))
theorem node_eq {tb : List Bool} {M : Nat} (hi : i < n) (hn : n ≤ 16) (h1 : ACall Tryd.prog 76 [dN n F N q, .isl false (cB tb) M, .val (.int .i64 ((i : Int) + 1)), .val (.int .u16 (U s))] [] 0 (.tup [dN n F1 N1 q, .val (.int .i64 a)]) [])
    (h2 : ACall Tryd.prog 76 [dN n F1 N1 q, .isl false (cB tb) M, .val (.int .i64 ((i : Int) + 1)), .val (.int .u16 (U (sor s (2 ^ i))))] [] 0 (.tup [dN n F2 N2 q, .val (.int .i64 a)]) []) :
    ACall Tryd.prog 76 [dN n F N q, .isl false (cB tb) M, .val (.int .i64 i), .val (.int .u16 (U s))] [] 0 (.tup [dN n F2 N2 q, .val (.int .i64 a)]) [] := by
  have hne : ¬ (i : Int) = n := by omega
  have h1 := PLift.up h1; have h2 := PLift.up h2
  unfold dN at *
  refine ACall.enter Tryd.func76 rfl (by simp [Tryd.ntmps76]) (by simp) ?_; simp only [entry, idx, Tryd.ntmps76, List.length, List.map_cons, List.map_nil, List.append_nil, List.cons_append, List.nil_append, Nat.reduceAdd, Nat.zero_add, List.length_cons, List.length_nil]
  repeat' (first | apply AC_seq | apply AC_region_lit | ((first | refine AL_go rfl (fun K hK => ?_) | refine AL_go0 (fun K hK => ?_) | refine DG_run (fun K hK => ?_)); (first | refine R_callG (f := 76) (dst := some 30) [] 0 false ?_ | refine R_callG (f := 76) (dst := some 42) [] 0 false ?_); simp -dsimp (disch := try exact vD) only [push_cast, simprocAttr, hne]; (repeat refine aI ?_); intro G hG; refine hG _ _ ?_; clear hG G; (first | refine ⟨_, _, h1.down, ?_⟩ | refine ⟨_, _, h2.down, ?_⟩); simp -dsimp (disch := try exact vD) only [push_cast, simprocAttr, hne]; (repeat refine aI ?_); apply hK; clear hK K) | ((first | refine AL_go rfl (fun K hK => ?_) | refine AL_go0 (fun K hK => ?_) | refine DG_run (fun K hK => ?_)); (first | apply R_move | apply R_assign | apply Q_load | apply Q_loadAgg | apply Q_fieldAddr | apply Q_indexAddr | apply Q_indexArr | apply Q_len | apply Q_lenStr | apply Q_extract | apply Q_box | apply R_alloc | apply Q_store | apply Q_build | apply Q_buildArr | apply Q_buildSlice | apply Q_eqAgg | apply Q_neqAgg | apply Q_neqSelf | apply Q_bin | apply Q_appendNil); simp -dsimp (disch := try exact vD) only [push_cast, simprocAttr, hne]; (repeat refine aI ?_); apply hK; clear hK K) | ((first | refine AL_go rfl (fun K hK => ?_) | refine AL_go0 (fun K hK => ?_) | refine DG_run (fun K hK => ?_)); (first | apply Q_append); simp -dsimp (disch := try exact vD) only [push_cast, simprocAttr, hne]; (repeat refine aI ?_); apply hK; clear hK K) | ((first | refine AL_go rfl (fun K hK => ?_) | refine AL_go0 (fun K hK => ?_) | refine DG_run (fun K hK => ?_)); (first | apply Q_append00); simp -dsimp (disch := try exact vD) only [push_cast, simprocAttr, hne]; (repeat refine aI ?_); apply hK; clear hK K) | ((first | refine AL_go rfl (fun K hK => ?_) | refine AL_go0 (fun K hK => ?_) | refine DG_run (fun K hK => ?_)); (first | apply Q_appendIn); simp -dsimp (disch := try exact vD) only [push_cast, simprocAttr, hne]; (repeat refine aI ?_); apply hK; clear hK K) | ((first | refine AL_guard rfl rfl (fun K1 K2 h1 h2 => ?_) rfl | refine AC_cond_k (fun K1 K2 h1 h2 => ?_) | refine DG_guard rfl rfl (fun K1 K2 h1 h2 => ?_)); simp -dsimp (disch := try exact vD) only [push_cast, simprocAttr, hne]; (first | (refine ⟨fun hc => ?_, fun hc => ?_⟩ <;> first | (exfalso; omega) | (exfalso; contradiction) | refine h1 ?_ | refine h2 ?_) | refine h1 ?_ | refine h2 ?_); all_goals clear h1 h2 K1 K2) | (refine AC_draw (id := 6) (by kernel_rfl) [⟨0, [], [35, 36, 37, 38, 39, 40, 41], [], [], 0⟩, ⟨1, [], [34, 36, 37, 38, 39, 40, 41], [], [], 0⟩, ⟨2, [], [34, 35, 38, 39, 40, 41], [], [], 0⟩, ⟨3, [2], [34, 35, 38, 39, 40, 41], [], [], 0⟩, ⟨4, [], [34, 35, 36, 37, 39, 40], [], [], 0⟩, ⟨5, [], [34, 35, 36, 37, 38], [], [], 0⟩, ⟨6, [5], [34, 35, 36, 37, 38], [], [], 0⟩, ⟨7, [4, 5, 6], [34, 35, 36, 37], [], [], 0⟩, ⟨8, [0, 1, 2, 3, 4, 5, 6, 7], [], [], [], 0⟩, ⟨9, [0, 1, 2, 3, 4, 5, 6, 7, 8], [], [], [], 0⟩, ⟨10, [0, 1, 2, 3, 4, 5, 6, 7, 8, 9], [44], [], [], 0⟩, ⟨11, [0, 1, 2, 3, 4, 5, 6, 7, 8, 9], [43], [2], [], 0⟩, ⟨12, [0, 1, 2, 3, 4, 5, 6, 7, 8, 9, 10], [44], [], [2], 0⟩, ⟨13, [0, 1, 2, 3, 4, 5, 6, 7, 8, 9, 10, 11, 12], [], [], [], 0⟩] (by kernel_rfl) (by kernel_rfl) (by kernel_rfl) ?_) | (refine AC_draw (id := 13) (by kernel_rfl) [⟨0, [], [63, 66], [], [], 0⟩, ⟨1, [0], [63, 66], [], [], 0⟩, ⟨2, [], [61, 62, 66], [], [], 0⟩, ⟨3, [0, 1, 2], [66], [], [], 0⟩, ⟨4, [0, 1, 2, 3], [66], [], [], 0⟩, ⟨5, [], [61, 62, 63, 64, 65], [], [], 0⟩, ⟨6, [0, 1, 2, 3, 4, 5], [], [], [], 0⟩] (by kernel_rfl) (by kernel_rfl) (by kernel_rfl) ?_) | (refine AC_draw (id := 15) (by kernel_rfl) [⟨0, [], [72, 73, 75, 76], [], [], 1⟩, ⟨1, [], [71, 75, 76], [], [], 0⟩, ⟨2, [1], [71, 75, 76], [], [], 0⟩, ⟨3, [0, 1, 2], [75, 76], [], [1], 1⟩, ⟨4, [], [71, 72, 73, 74], [1], [], 0⟩, ⟨5, [4], [71, 72, 73, 74], [1], [], 1⟩, ⟨6, [0, 1, 2, 3, 4, 5], [], [], [2], 1⟩, ⟨7, [0, 1, 2, 3, 4, 5, 6], [], [], [], 0⟩, ⟨8, [0, 1, 2, 3, 4, 5, 6, 7], [], [], [2], 0⟩] (by kernel_rfl) (by kernel_rfl) (by kernel_rfl) ?_) | (refine AC_draw (id := 16) (by kernel_rfl) [⟨0, [], [80, 81, 82, 83], [], [], 0⟩, ⟨1, [], [79], [2], [], 0⟩, ⟨2, [1], [79], [2], [], 0⟩, ⟨3, [1, 2], [79], [2], [], 0⟩, ⟨4, [1, 2, 3], [79], [2], [], 0⟩, ⟨5, [0], [80, 81, 82, 83], [], [2], 0⟩, ⟨6, [0, 1, 2, 3, 4, 5], [], [], [], 0⟩] (by kernel_rfl) (by kernel_rfl) (by kernel_rfl) ?_) | ((first | refine DG_next' (by kernel_rfl) (fun K hK => ?_) | refine DG_nil (by kernel_rfl) (fun K hK => ?_)); simp only [↓Go.Sy.dsnE_some, ↓Go.Sy.dsnE_none, ↓Go.Sy.dsnE_nil, ↓Go.Sy.dsnO_snoc, ↓Go.Sy.dsnO_nil, ↓Go.Sy.nidAt_snoc, ↓Go.Sy.nidAt_nil, push_cast, Nat.reduceLeDiff, Nat.reduceSub, Nat.reduceBEq, Nat.reduceEqDiff, Nat.reduceAdd, Nat.reduceLT, ↓reduceIte, reduceCtorEq]; refine hK _ _ _ ?_; clear hK K) | apply DG_go | apply AL_nil | apply Thn_normal | apply Thn_ret | apply Thn_exit | apply Blk_normal | apply Blk_ret | apply Blk_here | (refine Blk_other rfl ?_) | apply AC_block | apply AC_exit | apply AC_skip | apply AC_ret)
  all_goals ((refine Ends.mk2 (by first | exact .inr rfl | exact .inl rfl) [] ?_; simp -dsimp (disch := try exact vD) only [push_cast, simprocAttr, Tryd.f76]; (repeat refine aI ?_); try (first | exact vI | fail)))
def ndI (n : Nat) (F2 : List Fo) (N2 : Nat) (q : Int) (i a b : Nat) (k : {k : Nat // k ≤ N2 ∧ ∀ j, j < k → ¬ F2.getD j default = ⟨i, a, b⟩}) : St :=
  ⟨84, 0, [(4,.pt 0 0), (8,.pt 1 0), (12,.pt 2 0), (13,.val (.int .i64 k.val))], [(0, some (.cells [.val (.int .i64 n), .isl (N2 == 0) (cR F2) N2, .val (.int .i64 q)] 28)), (1, some (.cells [.val (.int .i64 0), .isl true [] 0, .val (.int .i64 0)] 28)), (2, some (.cells [.val (.int .i64 i), .val (.int .i64 a), .val (.int .i64 b)] 76))]⟩
theorem nd_s {i a b : Nat} (h : ∀ j, j < k → ¬ F.getD j default = ⟨i, a, b⟩) (h2 : ¬ F.getD k default = ⟨i, a, b⟩) : ∀ j, j < k + 1 → ¬ F.getD j default = ⟨i, a, b⟩ := fun j hj => by
  by_cases e : j = k
  · rw [e]; exact h2
  · exact h j (by omega)
theorem idx_le {f : Fo} (hk : k < F.length) (h : F.getD k default = f) : F.idxOf f ≤ k := by
  have hm : f ∈ F := by rw [← h]; exact mem_at hk
  have e : F[k] = f := by rw [← h]; simp [List.getD_eq_getElem?_getD, hk]
  by_cases hc : k < F.idxOf f
  · have := List.not_of_lt_findIdx (p := fun x => x == f) (xs := F) (i := k) (by simpa [List.idxOf] using hc)
    simp [e] at this
  · omega
theorem node_ne {tb : List Bool} {M : Nat} (hi : i < n) (hn : n ≤ 16) (hab : ¬ a = b) (hN : F2.length = N2) (hN2 : N2 < 2 ^ 40) (h1 : ACall Tryd.prog 76 [dN n F N q, .isl false (cB tb) M, .val (.int .i64 ((i : Int) + 1)), .val (.int .u16 (U s))] [] 0 (.tup [dN n F1 N1 q, .val (.int .i64 a)]) [])
    (h2 : ACall Tryd.prog 76 [dN n F1 N1 q, .isl false (cB tb) M, .val (.int .i64 ((i : Int) + 1)), .val (.int .u16 (U (sor s (2 ^ i))))] [] 0 (.tup [dN n F2 N2 q, .val (.int .i64 b)]) []) :
    ACall Tryd.prog 76 [dN n F N q, .isl false (cB tb) M, .val (.int .i64 i), .val (.int .u16 (U s))] [] 0 (.tup [dN n (mkF F2 i a b).1 (mkF F2 i a b).1.length q, .val (.int .i64 ((mkF F2 i a b).2 : Nat))]) [] := by
  have hne : ¬ (i : Int) = n := by omega
  have h1 := PLift.up h1; have h2 := PLift.up h2
  have hx := dmy_def
  unfold dN at *
  refine ACall.enter Tryd.func76 rfl (by simp [Tryd.ntmps76]) (by simp) ?_; simp only [entry, idx, Tryd.ntmps76, List.length, List.map_cons, List.map_nil, List.append_nil, List.cons_append, List.nil_append, Nat.reduceAdd, Nat.zero_add, List.length_cons, List.length_nil]
  repeat' (first | (refine AC_loop_id ?_; refine AC_loop' [0, 1, 2] ([0, 1, 2].length) (ndI n F2 N2 q i a b) (fun k => N2 - k.val) (⟨0, by omega, fun j h => absurd h (by omega)⟩) rfl (by unfold ndI; (try simp only [List.cons_append, List.nil_append]); refine Sub.mk2 ?_; (simp -dsimp (disch := try exact vD) only [push_cast, simprocAttr, hne, hab, hx, eqI_fo, fo_cells]); (repeat refine aI ?_); first | done | exact vI) ?_; (rintro ⟨k, hk, hno⟩; rcases Nat.lt_or_eq_of_le hk with hkl | hkl <;> first | (have ek : N2 = k := hkl.symm; subst ek; (simp -dsimp (disch := try exact vD) only [push_cast, simprocAttr, ndI])) | (rcases Decidable.em (F2.getD k default = ⟨i, a, b⟩) with hx | hx <;> (simp -dsimp (disch := try exact vD) only [push_cast, simprocAttr, ndI])))) | (refine Nxt_id ?_; refine Nxt.mk [0, 1, 2] (⟨k + 1, by omega, nd_s hno hx⟩) rfl (by unfold ndI; (try simp only [List.cons_append, List.nil_append]); refine Sub.mk2 ?_; (simp -dsimp (disch := try exact vD) only [push_cast, simprocAttr, hne, hab, hx, eqI_fo, fo_cells]); (repeat refine aI ?_); first | done | exact vI) (by first | omega | (dsimp only; omega) | (simp; done) | (simp; omega))) | apply AC_seq | apply AC_region_lit | ((first | refine AL_go rfl (fun K hK => ?_) | refine AL_go0 (fun K hK => ?_) | refine DG_run (fun K hK => ?_)); (first | refine R_callG (f := 76) (dst := some 30) [] 0 false ?_ | refine R_callG (f := 76) (dst := some 42) [] 0 false ?_); simp -dsimp (disch := try exact vD) only [push_cast, simprocAttr, hne, hab, hx, eqI_fo, fo_cells]; (repeat refine aI ?_); intro G hG; refine hG _ _ ?_; clear hG G; (first | refine ⟨_, _, h1.down, ?_⟩ | refine ⟨_, _, h2.down, ?_⟩); simp -dsimp (disch := try exact vD) only [push_cast, simprocAttr, hne, hab, hx, eqI_fo, fo_cells]; (repeat refine aI ?_); apply hK; clear hK K) | ((first | refine AL_go rfl (fun K hK => ?_) | refine AL_go0 (fun K hK => ?_) | refine DG_run (fun K hK => ?_)); (first | apply R_move | apply R_assign | apply Q_load | apply Q_loadAgg | apply Q_fieldAddr | apply Q_indexAddr | apply Q_indexArr | apply Q_len | apply Q_lenStr | apply Q_extract | apply Q_box | apply R_alloc | apply Q_store | apply Q_build | apply Q_buildArr | apply Q_buildSlice | apply Q_eqAgg | apply Q_neqAgg | apply Q_neqSelf | apply Q_bin | apply Q_appendNil); simp -dsimp (disch := try exact vD) only [push_cast, simprocAttr, hne, hab, hx, eqI_fo, fo_cells]; (repeat refine aI ?_); apply hK; clear hK K) | ((first | refine AL_go rfl (fun K hK => ?_) | refine AL_go0 (fun K hK => ?_) | refine DG_run (fun K hK => ?_)); (first | apply Q_append); simp -dsimp (disch := try exact vD) only [push_cast, simprocAttr, hne, hab, hx, eqI_fo, fo_cells]; (repeat refine aI ?_); apply hK; clear hK K) | ((first | refine AL_go rfl (fun K hK => ?_) | refine AL_go0 (fun K hK => ?_) | refine DG_run (fun K hK => ?_)); (first | apply Q_append00); simp -dsimp (disch := try exact vD) only [push_cast, simprocAttr, hne, hab, hx, eqI_fo, fo_cells]; (repeat refine aI ?_); apply hK; clear hK K) | ((first | refine AL_go rfl (fun K hK => ?_) | refine AL_go0 (fun K hK => ?_) | refine DG_run (fun K hK => ?_)); (first | apply Q_appendIn); simp -dsimp (disch := try exact vD) only [push_cast, simprocAttr, hne, hab, hx, eqI_fo, fo_cells]; (repeat refine aI ?_); apply hK; clear hK K) | ((first | refine AL_guard rfl rfl (fun K1 K2 h1 h2 => ?_) rfl | refine AC_cond_k (fun K1 K2 h1 h2 => ?_) | refine DG_guard rfl rfl (fun K1 K2 h1 h2 => ?_)); simp -dsimp (disch := try exact vD) only [push_cast, simprocAttr, hne, hab, hx, eqI_fo, fo_cells]; (first | (refine ⟨fun hc => ?_, fun hc => ?_⟩ <;> first | (exfalso; omega) | (exfalso; contradiction) | refine h1 ?_ | refine h2 ?_) | refine h1 ?_ | refine h2 ?_); all_goals clear h1 h2 K1 K2) | (refine AC_draw (id := 6) (by kernel_rfl) [⟨0, [], [35, 36, 37, 38, 39, 40, 41], [], [], 0⟩, ⟨1, [], [34, 36, 37, 38, 39, 40, 41], [], [], 0⟩, ⟨2, [], [34, 35, 38, 39, 40, 41], [], [], 0⟩, ⟨3, [2], [34, 35, 38, 39, 40, 41], [], [], 0⟩, ⟨4, [], [34, 35, 36, 37, 39, 40], [], [], 0⟩, ⟨5, [], [34, 35, 36, 37, 38], [], [], 0⟩, ⟨6, [5], [34, 35, 36, 37, 38], [], [], 0⟩, ⟨7, [4, 5, 6], [34, 35, 36, 37], [], [], 0⟩, ⟨8, [0, 1, 2, 3, 4, 5, 6, 7], [], [], [], 0⟩, ⟨9, [0, 1, 2, 3, 4, 5, 6, 7, 8], [], [], [], 0⟩, ⟨10, [0, 1, 2, 3, 4, 5, 6, 7, 8, 9], [44], [], [], 0⟩, ⟨11, [0, 1, 2, 3, 4, 5, 6, 7, 8, 9], [43], [2], [], 0⟩, ⟨12, [0, 1, 2, 3, 4, 5, 6, 7, 8, 9, 10], [44], [], [2], 0⟩, ⟨13, [0, 1, 2, 3, 4, 5, 6, 7, 8, 9, 10, 11, 12], [], [], [], 0⟩] (by kernel_rfl) (by kernel_rfl) (by kernel_rfl) ?_) | (refine AC_draw (id := 13) (by kernel_rfl) [⟨0, [], [63, 66], [], [], 0⟩, ⟨1, [0], [63, 66], [], [], 0⟩, ⟨2, [], [61, 62, 66], [], [], 0⟩, ⟨3, [0, 1, 2], [66], [], [], 0⟩, ⟨4, [0, 1, 2, 3], [66], [], [], 0⟩, ⟨5, [], [61, 62, 63, 64, 65], [], [], 0⟩, ⟨6, [0, 1, 2, 3, 4, 5], [], [], [], 0⟩] (by kernel_rfl) (by kernel_rfl) (by kernel_rfl) ?_) | (refine AC_draw (id := 15) (by kernel_rfl) [⟨0, [], [72, 73, 75, 76], [], [], 1⟩, ⟨1, [], [71, 75, 76], [], [], 0⟩, ⟨2, [1], [71, 75, 76], [], [], 0⟩, ⟨3, [0, 1, 2], [75, 76], [], [1], 1⟩, ⟨4, [], [71, 72, 73, 74], [1], [], 0⟩, ⟨5, [4], [71, 72, 73, 74], [1], [], 1⟩, ⟨6, [0, 1, 2, 3, 4, 5], [], [], [2], 1⟩, ⟨7, [0, 1, 2, 3, 4, 5, 6], [], [], [], 0⟩, ⟨8, [0, 1, 2, 3, 4, 5, 6, 7], [], [], [2], 0⟩] (by kernel_rfl) (by kernel_rfl) (by kernel_rfl) ?_) | (refine AC_draw (id := 16) (by kernel_rfl) [⟨0, [], [80, 81, 82, 83], [], [], 0⟩, ⟨1, [], [79], [4], [], 0⟩, ⟨2, [1], [79], [4], [], 0⟩, ⟨3, [1, 2], [79], [4], [], 0⟩, ⟨4, [1, 2, 3], [79], [4], [], 0⟩, ⟨5, [0], [80, 81, 82, 83], [], [4], 0⟩, ⟨6, [0, 1, 2, 3, 4, 5], [], [], [], 0⟩] (by kernel_rfl) (by kernel_rfl) (by kernel_rfl) ?_) | ((first | refine DG_next' (by kernel_rfl) (fun K hK => ?_) | refine DG_nil (by kernel_rfl) (fun K hK => ?_)); simp only [↓Go.Sy.dsnE_some, ↓Go.Sy.dsnE_none, ↓Go.Sy.dsnE_nil, ↓Go.Sy.dsnO_snoc, ↓Go.Sy.dsnO_nil, ↓Go.Sy.nidAt_snoc, ↓Go.Sy.nidAt_nil, push_cast, Nat.reduceLeDiff, Nat.reduceSub, Nat.reduceBEq, Nat.reduceEqDiff, Nat.reduceAdd, Nat.reduceLT, ↓reduceIte, reduceCtorEq]; refine hK _ _ _ ?_; clear hK K) | apply DG_go | apply AL_nil | apply Thn_normal | apply Thn_ret | apply Thn_exit | apply Blk_normal | apply Blk_ret | apply Blk_here | (refine Blk_other rfl ?_) | apply AC_block | apply AC_exit | apply AC_skip | apply AC_ret)
  all_goals first
    | (have hkl2 : k < F2.length := (by omega)
       have hm : (⟨i, a, b⟩ : Fo) ∈ F2 := (by rw [← hx]; exact mem_at hkl2)
       have hix : F2.idxOf ⟨i, a, b⟩ = k := (by
        have hle := List.idxOf_lt_length_iff.2 hm
        have he : F2.getD (F2.idxOf ⟨i, a, b⟩) default = ⟨i, a, b⟩ := (by rw [List.getD_eq_getElem?_getD, List.getElem?_eq_getElem hle, Option.getD_some, List.getElem_idxOf])
        rcases Nat.lt_trichotomy (F2.idxOf ⟨i, a, b⟩) k with h | h | h
        · exact absurd he (hno _ h)
        · exact h
        · exact absurd hx (fun _ => by have := idx_le hkl2 hx; omega))
       rw [mkF_in hab hm, hix, hN]
       (refine Ends.mk2 (by first | exact .inr rfl | exact .inl rfl) [] ?_; simp -dsimp (disch := try exact vD) only [push_cast, simprocAttr, Tryd.f76, Int.natCast_add]; (repeat refine aI ?_); try (first | exact vI | fail)); done)
    | (have hm : ¬ (⟨i, a, b⟩ : Fo) ∈ F2 := (fun hm => by
        obtain ⟨j, hj, e⟩ := List.getElem_of_mem hm
        refine hno j (by omega) ?_
        rw [List.getD_eq_getElem?_getD, List.getElem?_eq_getElem hj, Option.getD_some, e])
       have hbe : (N2 + 1 == 0) = false := (by simp)
       have hsn := fo_snoc (F := F2) (v := i) (lo := a) (hi := b)
       have hgl : (F2 ++ [(⟨i, a, b⟩ : Fo)]).length = N2 + 1 := (by simp [hN])
       rw [mkF_out hab hm]
       dsimp only
       rw [hgl, hN, hbe]
       generalize F2 ++ [(⟨i, a, b⟩ : Fo)] = G at hsn hgl
       have htk : (cR G).take ((N2 + 1) * 3) = cR G := (by rw [← hgl, ← cR_len]; exact List.take_length)
       ((refine Ends.frz 6 ?_; simp -dsimp (disch := try exact vD) only [push_cast, simprocAttr, Tryd.f76, Int.natCast_add, add11, hsn, htk]; (repeat refine aI ?_); intro K hK; refine hK _ _ ?_; clear hK K); refine Ends.mk2 (by first | exact .inr rfl | exact .inl rfl) [] ?_; simp -dsimp (disch := try exact vD) only [push_cast, simprocAttr, Tryd.f76, Int.natCast_add, add11, hsn, htk]; (repeat refine aI ?_); try (first | exact vI | fail)); done)
    | trace_state
theorem node_ok {tb : List Bool} {M : Nat} (hn : n ≤ 16) (hM : tb.length = M) (hM2 : M = 2 ^ n) : ∀ (m i s : Nat) (F : List Fo), i + m = n → s < 2 ^ i → F.length + 2 ^ m < 2 ^ 20 →
    ACall Tryd.prog 76 [dN n F F.length q, .isl false (cB tb) M, .val (.int .i64 i), .val (.int .u16 (U s))] [] 0 (.tup [dN n (gen (fun t => tb.getD t false) m i s F).1 (gen (fun t => tb.getD t false) m i s F).1.length q, .val (.int .i64 ((gen (fun t => tb.getD t false) m i s F).2 : Nat))]) [] := by
  have hp : 2 ^ n ≤ 2 ^ 16 := Nat.pow_le_pow_right (by omega) hn
  intro m
  induction m with
  | zero =>
    intro i s F hi hs hl
    have hin : i = n := by omega
    subst hin
    have := node_leaf (F := F) (N := F.length) (q := q) (s := s) (n := i) hM (by omega) (by omega) hn
    rw [gen_0]
    dsimp only
    have e : ((if tb.getD s false = true then 1 else 0 : Nat) : Int) = if tb.getD s false = true then 1 else 0 := by split <;> rfl
    rw [e]; exact this
  | succ m ih =>
    intro i s F hi hs hl
    have hpm := Nat.two_pow_pos m
    have hp2 : 2 ^ (m + 1) = 2 ^ m + 2 ^ m := by rw [Nat.pow_succ]; omega
    have l1 := gen_len (tab := fun t => tb.getD t false) m (i + 1) s F
    have h1 := ih (i + 1) s F (by omega) (lt_s hs) (by omega)
    generalize hA : gen (fun t => tb.getD t false) m (i + 1) s F = R1 at h1 l1
    obtain ⟨F1, a⟩ := R1
    dsimp only at h1 l1
    have l2 := gen_len (tab := fun t => tb.getD t false) m (i + 1) (s ||| 2 ^ i) F1
    have h2 := ih (i + 1) (s ||| 2 ^ i) F1 (by omega) (or_lt hs) (by omega)
    generalize hB : gen (fun t => tb.getD t false) m (i + 1) (s ||| 2 ^ i) F1 = R2 at h2 l2
    obtain ⟨F2, b⟩ := R2
    dsimp only at h2 l2
    rw [gen_s hA hB]
    by_cases hab : a = b
    · subst hab
      rw [mkF_eq]
      exact node_eq (by omega) hn h1 h2
    · exact node_ne (by omega) hn hab rfl (by omega) h1 h2
theorem from_ok' {tb : List Bool} {M : Nat} (hn : n ≤ 16) (hM : tb.length = M) (hM2 : M = 2 ^ n) : ACall Tryd.prog 41 [.val (.int .i64 n), .isl false (cB tb) M] [] 0 (dgV ((fromL n tb).1.length == 0) n (fromL n tb).1 (fromL n tb).2) [] := by
  have hp : 2 ^ n ≤ 2 ^ 16 := Nat.pow_le_pow_right (by omega) hn
  have h := node_ok (q := 0) hn hM hM2 n 0 0 [] (by omega) (by decide) (by simp only [List.length_nil, Nat.zero_add]; omega)
  show ACall Tryd.prog 41 _ [] 0 (dgV ((gen (fun t => tb.getD t false) n 0 0 []).1.length == 0) n (gen (fun t => tb.getD t false) n 0 0 []).1 (gen (fun t => tb.getD t false) n 0 0 []).2) []
  generalize gen (fun t => tb.getD t false) n 0 0 [] = R at h
  obtain ⟨F, r⟩ := R
  dsimp only at h ⊢
  unfold dN at h
  rw [List.length_nil, cR_nil, show ((0 == 0 : Bool)) = true from rfl, U_zero] at h
  unfold dgV
  have h := PLift.up h
  refine ACall.enter Tryd.func41 rfl (by simp [Tryd.ntmps41]) (by simp) ?_; simp only [entry, idx, Tryd.ntmps41, List.length, List.map_cons, List.map_nil, List.append_nil, List.cons_append, List.nil_append, Nat.reduceAdd, Nat.zero_add, List.length_cons, List.length_nil]
  repeat' (first | apply AC_seq | apply AC_region_lit | ((first | refine AL_go rfl (fun K hK => ?_) | refine AL_go0 (fun K hK => ?_)); (first | refine R_callG (f := 76) [] 0 false ?_); simp -dsimp (disch := try exact vD) only [push_cast, simprocAttr]; (repeat refine aI ?_); intro G hG; refine hG _ _ ?_; clear hG G; (first | refine ⟨_, _, h.down, ?_⟩); simp -dsimp (disch := try exact vD) only [push_cast, simprocAttr]; (repeat refine aI ?_); apply hK; clear hK K) | ((first | refine AL_go rfl (fun K hK => ?_) | refine AL_go0 (fun K hK => ?_)); (first | apply R_move | apply R_assign | apply Q_load | apply Q_loadAgg | apply Q_fieldAddr | apply Q_extract | apply R_alloc | apply Q_store | apply Q_build | apply Q_buildArr); simp -dsimp (disch := try exact vD) only [push_cast, simprocAttr]; (repeat refine aI ?_); apply hK; clear hK K) | ((first | refine AL_guard rfl rfl (fun K1 K2 h1 h2 => ?_) rfl | refine AC_cond_k (fun K1 K2 h1 h2 => ?_)); simp -dsimp (disch := try exact vD) only [push_cast, simprocAttr]; (first | (refine ⟨fun hc => ?_, fun hc => ?_⟩ <;> first | (exfalso; omega) | (exfalso; contradiction) | refine h1 ?_ | refine h2 ?_) | refine h1 ?_ | refine h2 ?_); all_goals clear h1 h2 K1 K2) | apply AL_nil | apply Thn_normal | apply Thn_ret | apply Thn_exit | apply Blk_normal | apply Blk_ret | apply Blk_here | (refine Blk_other rfl ?_) | apply AC_block | apply AC_exit | apply AC_skip | apply AC_ret)
  all_goals first
    | ((refine Ends.mk2 (by first | exact .inr rfl | exact .inl rfl) [] ?_; simp -dsimp (disch := try exact vD) only [push_cast, simprocAttr, Tryd.f41]; (repeat refine aI ?_); try (first | exact vI | fail)); done)
    | trace_state
end Go.Proofs.YtebinjcofclfaaaDoor
