/- Diagrams: the law of DeMorgan. No condition. -/
import Derived.Test.YtebinjcofclfaaaDoorLawDD
import Derived.Test.YtebinjcofclfaaaDoorDi10
set_option linter.unusedVariables false
set_option linter.unusedSectionVars false
set_option linter.unusedSimpArgs false
set_option maxHeartbeats 4000000
set_option maxRecDepth 20000
namespace Go.Proofs.YtebinjcofclfaaaDoor
open Go Go.Sy Go.Bp Go.Dg
attribute [local irreducible] AO AL AC OpT ACall Ends DGo DRun Thn Blk Nxt
variable {n N M T L k i m r a b j w u v s q x y d : Nat} {z z' up up' : Bool} {B B' : List Nat} {F : List Fo} {p f g : Nat → Bool}
theorem apply_dg {D G : List Fo} {op : Nat} (hD : DOk n F r) (hE : DOk n G u) (hM : F.length = M) (hN : G.length = N) (h1 : 1 ≤ op) (h4 : op ≤ 4) (he : (fromT n fun t => opB op (valN F t r) (valN G t u)) = (D, w)) : ACall Tryd.prog 33 [.val (.int .i64 op), .agg [.val (.int .i64 n), .isl z (cR F) M, .val (.int .i64 r)], .agg [.val (.int .i64 n), .isl z' (cR G) N, .val (.int .i64 u)]] [] 0 (.tup [.agg [.val (.int .i64 n), .isl (D.length == 0) (cR D) D.length, .val (.int .i64 w)], .val (.int .i64 0)]) [] := by
  subst hM; subst hN
  have := apply_ok (z := z) (z' := z') hD hE (Nat.max_self n) h1 h4
  rw [he, ← rgV_dg, ← rgV_dg] at this; exact this
theorem lawDem {N' L' : Nat} (h : DrOk N B L) (h' : DrOk N' B' L') : ACall Tryd.prog 9 [.agg (drC N z B L up), .agg (drC N' z' B' L' up')] [] 0 (.val (.bool true)) [] := by
  by_cases h16 : L ≤ 16
  · by_cases h16' : L' ≤ 16
    · obtain ⟨F, r, hD, hM⟩ := made_M (z := z) (up := up) h h16
      obtain ⟨G, u, hE, hM'⟩ := made_M (z := z') (up := up') (N := N) ⟨h.n, h'.len, h'.lt, h'.b⟩ h16'
      have hn6 : N % 7 ≤ 6 := by omega
      generalize N % 7 = n at hD hM hE hM' hn6
      obtain ⟨M, hMe⟩ : ∃ M, F.length = M := ⟨_, rfl⟩
      obtain ⟨Q, hQe⟩ : ∃ Q, G.length = Q := ⟨_, rfl⟩
      rw [hMe] at hM; rw [hQe] at hM'
      generalize (M == 0) = zb at hM
      generalize (Q == 0) = zc at hM'
      obtain ⟨⟨D1, w1⟩, e1⟩ : ∃ R, (fromT n fun t => opB 1 (valN F t r) (valN G t u)) = R := ⟨_, rfl⟩
      have hD1 := DOk.of e1 (by omega)
      obtain ⟨⟨D2, w2⟩, e2⟩ : ∃ R, (fromT n fun t => !valN D1 (cpl n t) w1) = R := ⟨_, rfl⟩
      obtain ⟨⟨D3, w3⟩, e3⟩ : ∃ R, (fromT n fun t => !valN F (cpl n t) r) = R := ⟨_, rfl⟩
      obtain ⟨⟨D4, w4⟩, e4⟩ : ∃ R, (fromT n fun t => !valN G (cpl n t) u) = R := ⟨_, rfl⟩
      have hD2 := DOk.of e2 (by omega)
      have hD3 := DOk.of e3 (by omega)
      have hD4 := DOk.of e4 (by omega)
      have e5 : (fromT n fun t => opB 2 (valN D3 t w3) (valN D4 t w4)) = (D2, w2) := by
        rw [← e2]
        refine from_congr fun t ht => ?_
        rw [from_fn e3 t ht, from_fn e4 t ht, from_fn e1 _ cpl_lt]
        show (!valN F (cpl n t) r || !valN G (cpl n t) u) = !(valN F (cpl n t) r && valN G (cpl n t) u)
        rw [Bool.not_and]
      have ha1 := apply_dg (z := zb) (z' := zc) (op := 1) hD hE hMe hQe (by omega) (by omega) e1
      obtain ⟨K1, hK1⟩ : ∃ K, D1.length = K := ⟨_, rfl⟩
      rw [hK1] at ha1
      generalize (K1 == 0) = z1 at ha1
      have hd2 := dual_dg (z := z1) hD1 hK1 e2
      have hd3 := rdual_dg (z := zb) hD hMe e3
      have hd4 := rdual_dg (z := zc) hE hQe e4
      obtain ⟨K2, hK2⟩ : ∃ K, D2.length = K := ⟨_, rfl⟩
      obtain ⟨K3, hK3⟩ : ∃ K, D3.length = K := ⟨_, rfl⟩
      obtain ⟨K4, hK4⟩ : ∃ K, D4.length = K := ⟨_, rfl⟩
      rw [hK2] at hd2; rw [hK3] at hd3; rw [hK4] at hd4
      generalize (K3 == 0) = z3 at hd3
      generalize (K4 == 0) = z4 at hd4
      have ha5 := apply_dg (z := z3) (z' := z4) (op := 2) hD3 hD4 hK3 hK4 (by omega) (by omega) e5
      rw [hK2] at ha5
      generalize (K2 == 0) = z2 at hd2 ha5
      have hf2 := hD2.few
      have heq := PLift.up (eq_dg (z := z2) (z' := z2) (n := n) (r := w2) hK2 (by omega))
      have ha1 : ACall Tryd.prog 33 [.val (.int .i64 1), .agg [.val (.int .i64 n), .isl zb (cR F) M, .val (.int .i64 r)], .agg [.val (.int .i64 n), .isl zc (cR G) Q, .val (.int .i64 u)]] [] 0 (.tup [.agg [.val (.int .i64 n), .isl z1 (cR D1) K1, .val (.int .i64 w1)], .val (.int .i64 0)]) [] := ha1
      have ha5 : ACall Tryd.prog 33 [.val (.int .i64 2), .agg [.val (.int .i64 n), .isl z3 (cR D3) K3, .val (.int .i64 w3)], .agg [.val (.int .i64 n), .isl z4 (cR D4) K4, .val (.int .i64 w4)]] [] 0 (.tup [.agg [.val (.int .i64 n), .isl z2 (cR D2) K2, .val (.int .i64 w2)], .val (.int .i64 0)]) [] := ha5
      have hM := PLift.up hM; have hM' := PLift.up hM'; have ha1 := PLift.up ha1; have ha5 := PLift.up ha5; have hd2 := PLift.up hd2; have hd3 := PLift.up hd3; have hd4 := PLift.up hd4
      clear hD hE hD1 hD2 hD3 hD4 e1 e2 e3 e4 e5 h h'
      unfold drC at *
      refine ACall.enter Tryd.func9 rfl (by simp [Tryd.ntmps9]) (by simp) ?_; simp only [entry, idx, Tryd.ntmps9, List.length, List.map_cons, List.map_nil, List.append_nil, List.cons_append, List.nil_append, Nat.reduceAdd, Nat.zero_add, List.length_cons, List.length_nil]
      repeat' (first | apply AC_seq | apply AC_region_lit | ((first | refine AL_go rfl (fun K hK => ?_) | refine AL_go0 (fun K hK => ?_) | refine DG_run (fun K hK => ?_)); (first | refine R_callG (f := 12) [] 0 false ?_ | refine R_callG (f := 13) (dst := some 32) [] 0 false ?_ | refine R_callG (f := 13) (dst := some 34) [] 0 false ?_ | refine R_callG (f := 33) (dst := some 38) [] 0 false ?_ | refine R_callG (f := 26) [] 0 false ?_ | refine R_callG (f := 15) (dst := some 48) [] 0 false ?_ | refine R_callG (f := 15) (dst := some 50) [] 0 false ?_ | refine R_callG (f := 33) (dst := some 51) [] 0 false ?_ | refine R_callG (f := 24) [] 0 false ?_); simp -dsimp (disch := try exact vD) only [push_cast, simprocAttr]; (repeat refine aI ?_); intro G hG; refine hG _ _ ?_; clear hG G; (first | refine ⟨_, _, awake_ok, ?_⟩ | refine ⟨_, _, hM.down, ?_⟩ | refine ⟨_, _, hM'.down, ?_⟩ | refine ⟨_, _, ha1.down, ?_⟩ | refine ⟨_, _, hd2.down, ?_⟩ | refine ⟨_, _, hd3.down, ?_⟩ | refine ⟨_, _, hd4.down, ?_⟩ | refine ⟨_, _, ha5.down, ?_⟩ | refine ⟨_, _, heq.down, ?_⟩); simp -dsimp (disch := try exact vD) only [push_cast, simprocAttr]; (repeat refine aI ?_); apply hK; clear hK K) | ((first | refine AL_go rfl (fun K hK => ?_) | refine AL_go0 (fun K hK => ?_) | refine DG_run (fun K hK => ?_)); (first | apply R_move | apply R_assign | apply Q_load | apply Q_loadAgg | apply Q_fieldAddr | apply Q_len | apply Q_lenStr | apply Q_pick | apply Q_not | apply Q_neg | apply Q_extract | apply Q_box | apply R_alloc | apply Q_store | apply Q_eqAgg | apply Q_neqAgg | apply Q_neqSelf | apply Q_bin); simp -dsimp (disch := try exact vD) only [push_cast, simprocAttr]; (repeat refine aI ?_); apply hK; clear hK K) | ((first | refine AL_guard rfl rfl (fun K1 K2 h1 h2 => ?_) rfl | refine AC_cond_k (fun K1 K2 h1 h2 => ?_) | refine DG_guard rfl rfl (fun K1 K2 h1 h2 => ?_)); simp -dsimp (disch := try exact vD) only [push_cast, simprocAttr]; (first | (refine ⟨fun hc => ?_, fun hc => ?_⟩ <;> first | (exfalso; omega) | (exfalso; contradiction) | refine h1 ?_ | refine h2 ?_) | refine h1 ?_ | refine h2 ?_); all_goals clear h1 h2 K1 K2) | (refine AC_draw (id := 4) (by kernel_rfl) [⟨0, [], [5, 6, 33], [], [], 0⟩, ⟨1, [0], [5, 6, 33], [], [], 0⟩, ⟨2, [], [5, 6, 31, 32], [], [], 0⟩, ⟨3, [0, 1, 2], [5, 6], [], [], 0⟩, ⟨4, [], [6, 31, 32, 33, 34], [], [], 1⟩, ⟨5, [], [5, 31, 32, 33, 34], [], [], 1⟩, ⟨6, [0, 1, 2, 3, 4, 5], [], [], [2], 0⟩, ⟨7, [0, 1, 2, 3, 4, 5, 6], [], [], [2], 0⟩] (by kernel_rfl) (by kernel_rfl) (by kernel_rfl) ?_) | (refine AC_draw (id := 7) (by kernel_rfl) [⟨0, [], [11, 49], [], [], 0⟩, ⟨1, [0], [11, 49], [], [], 0⟩, ⟨2, [], [11, 47, 48], [], [], 0⟩, ⟨3, [0, 1, 2], [11], [], [], 0⟩, ⟨4, [0, 1, 2, 3], [11], [], [], 0⟩, ⟨5, [0, 1, 2, 3, 4], [11], [], [], 0⟩, ⟨6, [0, 1, 2, 3, 4, 5], [11, 53], [], [], 0⟩, ⟨7, [0, 1, 2, 3, 4, 5], [11, 52], [2], [], 0⟩, ⟨8, [], [46, 47, 48, 49, 50, 51, 52, 53], [], [], 1⟩, ⟨9, [0, 1, 2, 3, 4, 5, 6, 8], [53], [], [2], 0⟩, ⟨10, [0, 1, 2, 3, 4, 5, 6, 7, 8, 9], [], [], [], 0⟩] (by kernel_rfl) (by kernel_rfl) (by kernel_rfl) ?_) | ((first | refine DG_next' (by kernel_rfl) (fun K hK => ?_) | refine DG_nil (by kernel_rfl) (fun K hK => ?_)); simp only [↓Go.Sy.dsnE_some, ↓Go.Sy.dsnE_none, ↓Go.Sy.dsnE_nil, ↓Go.Sy.dsnO_snoc, ↓Go.Sy.dsnO_nil, ↓Go.Sy.nidAt_snoc, ↓Go.Sy.nidAt_nil, push_cast, Nat.reduceLeDiff, Nat.reduceSub, Nat.reduceBEq, Nat.reduceEqDiff, Nat.reduceAdd, Nat.reduceLT, ↓reduceIte, reduceCtorEq]; refine hK _ _ _ ?_; clear hK K) | apply DG_go | apply AL_nil | apply Thn_normal | apply Thn_ret | apply Thn_exit | apply Blk_normal | apply Blk_ret | apply Blk_here | (refine Blk_other rfl ?_) | apply AC_block | apply AC_exit | apply AC_skip | apply AC_ret)
      all_goals first
        | ((refine Ends.mk2 (by first | exact .inr rfl | exact .inl rfl) [] ?_; simp -dsimp (disch := try exact vD) only [push_cast, simprocAttr, Tryd.f9]; (repeat refine aI ?_); try (first | exact vI | fail)); done)
        | trace_state
    · unfold drC
      refine ACall.enter Tryd.func9 rfl (by simp [Tryd.ntmps9]) (by simp) ?_; simp only [entry, idx, Tryd.ntmps9, List.length, List.map_cons, List.map_nil, List.append_nil, List.cons_append, List.nil_append, Nat.reduceAdd, Nat.zero_add, List.length_cons, List.length_nil]
      repeat' (first | apply AC_seq | apply AC_region_lit | ((first | refine AL_go rfl (fun K hK => ?_) | refine AL_go0 (fun K hK => ?_) | refine DG_run (fun K hK => ?_)); (first | refine R_callG (f := 12) [] 0 false ?_); simp -dsimp (disch := try exact vD) only [push_cast, simprocAttr]; (repeat refine aI ?_); intro G hG; refine hG _ _ ?_; clear hG G; (first | refine ⟨_, _, awake_ok, ?_⟩); simp -dsimp (disch := try exact vD) only [push_cast, simprocAttr]; (repeat refine aI ?_); apply hK; clear hK K) | ((first | refine AL_go rfl (fun K hK => ?_) | refine AL_go0 (fun K hK => ?_) | refine DG_run (fun K hK => ?_)); (first | apply R_move | apply R_assign | apply Q_load | apply Q_loadAgg | apply Q_fieldAddr | apply Q_len | apply Q_lenStr | apply Q_pick | apply Q_not | apply Q_neg | apply Q_extract | apply Q_box | apply R_alloc | apply Q_store | apply Q_eqAgg | apply Q_neqAgg | apply Q_neqSelf | apply Q_bin); simp -dsimp (disch := try exact vD) only [push_cast, simprocAttr]; (repeat refine aI ?_); apply hK; clear hK K) | ((first | refine AL_guard rfl rfl (fun K1 K2 h1 h2 => ?_) rfl | refine AC_cond_k (fun K1 K2 h1 h2 => ?_) | refine DG_guard rfl rfl (fun K1 K2 h1 h2 => ?_)); simp -dsimp (disch := try exact vD) only [push_cast, simprocAttr]; (first | (refine ⟨fun hc => ?_, fun hc => ?_⟩ <;> first | (exfalso; omega) | (exfalso; contradiction) | refine h1 ?_ | refine h2 ?_) | refine h1 ?_ | refine h2 ?_); all_goals clear h1 h2 K1 K2) | (refine AC_draw (id := 4) (by kernel_rfl) [⟨0, [], [5, 6, 33], [], [], 0⟩, ⟨1, [0], [5, 6, 33], [], [], 0⟩, ⟨2, [], [5, 6, 31, 32], [], [], 0⟩, ⟨3, [0, 1, 2], [5, 6], [], [], 0⟩, ⟨4, [], [6, 31, 32, 33, 34], [], [], 1⟩, ⟨5, [], [5, 31, 32, 33, 34], [], [], 1⟩, ⟨6, [0, 1, 2, 3, 4, 5], [], [], [2], 0⟩, ⟨7, [0, 1, 2, 3, 4, 5, 6], [], [], [2], 0⟩] (by kernel_rfl) (by kernel_rfl) (by kernel_rfl) ?_) | (refine AC_draw (id := 7) (by kernel_rfl) [⟨0, [], [11, 49], [], [], 0⟩, ⟨1, [0], [11, 49], [], [], 0⟩, ⟨2, [], [11, 47, 48], [], [], 0⟩, ⟨3, [0, 1, 2], [11], [], [], 0⟩, ⟨4, [0, 1, 2, 3], [11], [], [], 0⟩, ⟨5, [0, 1, 2, 3, 4], [11], [], [], 0⟩, ⟨6, [0, 1, 2, 3, 4, 5], [11, 53], [], [], 0⟩, ⟨7, [0, 1, 2, 3, 4, 5], [11, 52], [2], [], 0⟩, ⟨8, [], [46, 47, 48, 49, 50, 51, 52, 53], [], [], 1⟩, ⟨9, [0, 1, 2, 3, 4, 5, 6, 8], [53], [], [2], 0⟩, ⟨10, [0, 1, 2, 3, 4, 5, 6, 7, 8, 9], [], [], [], 0⟩] (by kernel_rfl) (by kernel_rfl) (by kernel_rfl) ?_) | ((first | refine DG_next' (by kernel_rfl) (fun K hK => ?_) | refine DG_nil (by kernel_rfl) (fun K hK => ?_)); simp only [↓Go.Sy.dsnE_some, ↓Go.Sy.dsnE_none, ↓Go.Sy.dsnE_nil, ↓Go.Sy.dsnO_snoc, ↓Go.Sy.dsnO_nil, ↓Go.Sy.nidAt_snoc, ↓Go.Sy.nidAt_nil, push_cast, Nat.reduceLeDiff, Nat.reduceSub, Nat.reduceBEq, Nat.reduceEqDiff, Nat.reduceAdd, Nat.reduceLT, ↓reduceIte, reduceCtorEq]; refine hK _ _ _ ?_; clear hK K) | apply DG_go | apply AL_nil | apply Thn_normal | apply Thn_ret | apply Thn_exit | apply Blk_normal | apply Blk_ret | apply Blk_here | (refine Blk_other rfl ?_) | apply AC_block | apply AC_exit | apply AC_skip | apply AC_ret)
      all_goals first
        | ((refine Ends.mk2 (by first | exact .inr rfl | exact .inl rfl) [] ?_; simp -dsimp (disch := try exact vD) only [push_cast, simprocAttr, Tryd.f9]; (repeat refine aI ?_); try (first | exact vI | fail)); done)
        | trace_state
  · unfold drC
    refine ACall.enter Tryd.func9 rfl (by simp [Tryd.ntmps9]) (by simp) ?_; simp only [entry, idx, Tryd.ntmps9, List.length, List.map_cons, List.map_nil, List.append_nil, List.cons_append, List.nil_append, Nat.reduceAdd, Nat.zero_add, List.length_cons, List.length_nil]
    repeat' (first | apply AC_seq | apply AC_region_lit | ((first | refine AL_go rfl (fun K hK => ?_) | refine AL_go0 (fun K hK => ?_) | refine DG_run (fun K hK => ?_)); (first | refine R_callG (f := 12) [] 0 false ?_); simp -dsimp (disch := try exact vD) only [push_cast, simprocAttr]; (repeat refine aI ?_); intro G hG; refine hG _ _ ?_; clear hG G; (first | refine ⟨_, _, awake_ok, ?_⟩); simp -dsimp (disch := try exact vD) only [push_cast, simprocAttr]; (repeat refine aI ?_); apply hK; clear hK K) | ((first | refine AL_go rfl (fun K hK => ?_) | refine AL_go0 (fun K hK => ?_) | refine DG_run (fun K hK => ?_)); (first | apply R_move | apply R_assign | apply Q_load | apply Q_loadAgg | apply Q_fieldAddr | apply Q_len | apply Q_lenStr | apply Q_pick | apply Q_not | apply Q_neg | apply Q_extract | apply Q_box | apply R_alloc | apply Q_store | apply Q_eqAgg | apply Q_neqAgg | apply Q_neqSelf | apply Q_bin); simp -dsimp (disch := try exact vD) only [push_cast, simprocAttr]; (repeat refine aI ?_); apply hK; clear hK K) | ((first | refine AL_guard rfl rfl (fun K1 K2 h1 h2 => ?_) rfl | refine AC_cond_k (fun K1 K2 h1 h2 => ?_) | refine DG_guard rfl rfl (fun K1 K2 h1 h2 => ?_)); simp -dsimp (disch := try exact vD) only [push_cast, simprocAttr]; (first | (refine ⟨fun hc => ?_, fun hc => ?_⟩ <;> first | (exfalso; omega) | (exfalso; contradiction) | refine h1 ?_ | refine h2 ?_) | refine h1 ?_ | refine h2 ?_); all_goals clear h1 h2 K1 K2) | (refine AC_draw (id := 4) (by kernel_rfl) [⟨0, [], [5, 6, 33], [], [], 0⟩, ⟨1, [0], [5, 6, 33], [], [], 0⟩, ⟨2, [], [5, 6, 31, 32], [], [], 0⟩, ⟨3, [0, 1, 2], [5, 6], [], [], 0⟩, ⟨4, [], [6, 31, 32, 33, 34], [], [], 1⟩, ⟨5, [], [5, 31, 32, 33, 34], [], [], 1⟩, ⟨6, [0, 1, 2, 3, 4, 5], [], [], [2], 0⟩, ⟨7, [0, 1, 2, 3, 4, 5, 6], [], [], [2], 0⟩] (by kernel_rfl) (by kernel_rfl) (by kernel_rfl) ?_) | (refine AC_draw (id := 7) (by kernel_rfl) [⟨0, [], [11, 49], [], [], 0⟩, ⟨1, [0], [11, 49], [], [], 0⟩, ⟨2, [], [11, 47, 48], [], [], 0⟩, ⟨3, [0, 1, 2], [11], [], [], 0⟩, ⟨4, [0, 1, 2, 3], [11], [], [], 0⟩, ⟨5, [0, 1, 2, 3, 4], [11], [], [], 0⟩, ⟨6, [0, 1, 2, 3, 4, 5], [11, 53], [], [], 0⟩, ⟨7, [0, 1, 2, 3, 4, 5], [11, 52], [2], [], 0⟩, ⟨8, [], [46, 47, 48, 49, 50, 51, 52, 53], [], [], 1⟩, ⟨9, [0, 1, 2, 3, 4, 5, 6, 8], [53], [], [2], 0⟩, ⟨10, [0, 1, 2, 3, 4, 5, 6, 7, 8, 9], [], [], [], 0⟩] (by kernel_rfl) (by kernel_rfl) (by kernel_rfl) ?_) | ((first | refine DG_next' (by kernel_rfl) (fun K hK => ?_) | refine DG_nil (by kernel_rfl) (fun K hK => ?_)); simp only [↓Go.Sy.dsnE_some, ↓Go.Sy.dsnE_none, ↓Go.Sy.dsnE_nil, ↓Go.Sy.dsnO_snoc, ↓Go.Sy.dsnO_nil, ↓Go.Sy.nidAt_snoc, ↓Go.Sy.nidAt_nil, push_cast, Nat.reduceLeDiff, Nat.reduceSub, Nat.reduceBEq, Nat.reduceEqDiff, Nat.reduceAdd, Nat.reduceLT, ↓reduceIte, reduceCtorEq]; refine hK _ _ _ ?_; clear hK K) | apply DG_go | apply AL_nil | apply Thn_normal | apply Thn_ret | apply Thn_exit | apply Blk_normal | apply Blk_ret | apply Blk_here | (refine Blk_other rfl ?_) | apply AC_block | apply AC_exit | apply AC_skip | apply AC_ret)
    all_goals first
      | ((refine Ends.mk2 (by first | exact .inr rfl | exact .inl rfl) [] ?_; simp -dsimp (disch := try exact vD) only [push_cast, simprocAttr, Tryd.f9]; (repeat refine aI ?_); try (first | exact vI | fail)); done)
      | trace_state
end Go.Proofs.YtebinjcofclfaaaDoor
