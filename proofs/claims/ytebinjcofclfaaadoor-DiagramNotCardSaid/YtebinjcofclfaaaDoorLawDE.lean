/- Diagrams: the law of Not. No condition. -/
import Derived.Test.YtebinjcofclfaaaDoorLawDD
import Derived.Test.YtebinjcofclfaaaDoorDi29
import Derived.Test.YtebinjcofclfaaaDoorDi9
set_option linter.unusedVariables false
set_option linter.unusedSectionVars false
set_option linter.unusedSimpArgs false
set_option maxHeartbeats 4000000
set_option maxRecDepth 20000
namespace Go.Proofs.YtebinjcofclfaaaDoor
open Go Go.Sy Go.Bp Go.Dg
attribute [local irreducible] AO AL AC OpT ACall Ends DGo DRun Thn Blk Nxt
variable {n N M T L k i m r a b j w u v s q x y d : Nat} {z z' up up' : Bool} {B B' : List Nat} {F : List Fo} {p f g : Nat → Bool}
theorem rnot_dg (hD : DOk n F r) (hM : F.length = M) (he : (fromT n fun t => !valN F t r) = (notF F, oth r)) : ACall Tryd.prog 27 [.agg [.val (.int .i64 n), .isl z (cR F) M, .val (.int .i64 r)]] [] 0 (.agg [.val (.int .i64 n), .isl (M == 0) (cR (notF F)) M, .val (.int .i64 (oth r : Nat))]) [] := by
  have hf := hD.few; have hl := hD.lt
  have := rnot_w (z := z) hD.n12 hD.bnd hD.v16 hM (by omega) (show r < 2 ^ 50 by omega) rfl
  rw [he] at this
  unfold dgV at this
  dsimp only at this
  rw [notF_len, hM] at this; exact this
theorem oth_oth : oth (oth r) = r := by
  unfold oth
  by_cases h : r < 2
  · rw [if_pos h, if_pos (by omega)]; omega
  · rw [if_neg h, if_neg h]
theorem notF_notF : notF (notF F) = F := by
  unfold notF
  rw [List.map_map]
  conv => rhs; rw [← List.map_id F]
  refine List.map_congr_left fun f _ => ?_
  simp only [Function.comp, oth_oth, id]
theorem DOk.not (hD : DOk n F r) (h9 : n ≤ 9) : (fromT n fun t => !valN F t r) = (notF F, oth r) ∧ DOk n (notF F) (oth r) := by
  have e : (fromT n fun t => !valN F t r) = (notF F, oth r) := from_not hD.good hD.lt hD.vis (fun _ _ => rfl)
  have := from_DOk (n := n) (tab := fun t => !valN F t r) h9
  rw [e] at this
  exact ⟨e, this⟩
theorem lawNot (h : DrOk N B L) : ACall Tryd.prog 6 [.agg (drC N z B L up)] [] 0 (.val (.bool true)) [] := by
  by_cases h16 : L ≤ 16
  · obtain ⟨F, r, hD, hM⟩ := made_M (z := z) (up := up) h h16
    have hn6 : N % 7 ≤ 6 := by omega
    generalize N % 7 = n at hD hM hn6
    obtain ⟨M, hMe⟩ : ∃ M, F.length = M := ⟨_, rfl⟩
    rw [hMe] at hM
    generalize hzb : (M == 0) = zb at hM
    obtain ⟨e1, hDN⟩ := hD.not (by omega)
    have hn1 := not_w (z := zb) hD hMe
    have hl2 : (notF F).length = M := by rw [notF_len, hMe]
    have hn2 := not_w (z := zb) hDN hl2
    rw [notF_notF, oth_oth] at hn2
    have hrn := rnot_dg (z := zb) hD hMe e1
    rw [hzb] at hn1 hn2 hrn
    obtain ⟨⟨D, w⟩, e2⟩ : ∃ R, (fromT n fun t => !valN F (cpl n t) r) = R := ⟨_, rfl⟩
    have hDD := DOk.of e2 (by omega)
    have e3 : (fromT n fun t => !valN D (cpl n t) w) = (F, r) := by
      refine hD.eq fun t ht => ?_
      rw [from_fn e2 _ cpl_lt, cpl_cpl ht, Bool.not_not]
    have hd1 := dual_dg (z := zb) hD hMe e2
    have hrd := rdual_dg (z := zb) hD hMe e2
    obtain ⟨K, hK⟩ : ∃ K, D.length = K := ⟨_, rfl⟩
    rw [hK] at hd1 hrd
    generalize (K == 0) = zk at hd1 hrd
    have hd2 := dual_dg (z := zk) hDD hK e3
    rw [hMe, hzb] at hd2
    have hf := hD.few; have hf2 := hDD.few
    have he1 := eq_dg (z := zb) (z' := zb) (n := n) (r := oth r) hl2 (by omega)
    have he2 := eq_dg (z := zk) (z' := zk) (n := n) (r := w) hK (by omega)
    have he3 := eq_dg (z := zb) (z' := zb) (n := n) (r := r) hMe (by omega)
    have hM := PLift.up hM; have hn1 := PLift.up hn1; have hn2 := PLift.up hn2; have hrn := PLift.up hrn; have hd1 := PLift.up hd1; have hrd := PLift.up hrd; have hd2 := PLift.up hd2; have he1 := PLift.up he1; have he2 := PLift.up he2; have he3 := PLift.up he3
    clear hD hDN hDD e1 e2 e3 h
    unfold drC at *
    generalize notF F = A at *
    generalize oth r = r1 at *
    refine ACall.enter Tryd.func6 rfl (by simp [Tryd.ntmps6]) (by simp) ?_; simp only [entry, idx, Tryd.ntmps6, List.length, List.map_cons, List.map_nil, List.append_nil, List.cons_append, List.nil_append, Nat.reduceAdd, Nat.zero_add, List.length_cons, List.length_nil]
    repeat' (first | apply AC_seq | apply AC_region_lit | ((first | refine AL_go rfl (fun K hK => ?_) | refine AL_go0 (fun K hK => ?_) | refine DG_run (fun K hK => ?_)); (first | refine R_callG (f := 12) [] 0 false ?_ | refine R_callG (f := 13) [] 0 false ?_ | refine R_callG (f := 25) (dst := some 25) [] 0 false ?_ | refine R_callG (f := 25) (dst := some 55) [] 0 false ?_ | refine R_callG (f := 26) (dst := some 30) [] 0 false ?_ | refine R_callG (f := 26) (dst := some 60) [] 0 false ?_ | refine R_callG (f := 27) [] 0 false ?_ | refine R_callG (f := 15) [] 0 false ?_ | refine R_callG (f := 24) (dst := some 43) [] 0 false ?_ | refine R_callG (f := 24) (dst := some 50) [] 0 false ?_ | refine R_callG (f := 24) (dst := some 72) [] 0 false ?_ | refine R_callG (f := 24) (dst := some 77) [] 0 false ?_); simp -dsimp (disch := try exact vD) only [push_cast, simprocAttr]; (repeat refine aI ?_); intro G hG; refine hG _ _ ?_; clear hG G; (first | refine ⟨_, _, awake_ok, ?_⟩ | refine ⟨_, _, hM.down, ?_⟩ | refine ⟨_, _, hn1.down, ?_⟩ | refine ⟨_, _, hn2.down, ?_⟩ | refine ⟨_, _, hd1.down, ?_⟩ | refine ⟨_, _, hd2.down, ?_⟩ | refine ⟨_, _, hrn.down, ?_⟩ | refine ⟨_, _, hrd.down, ?_⟩ | refine ⟨_, _, he1.down, ?_⟩ | refine ⟨_, _, he2.down, ?_⟩ | refine ⟨_, _, he3.down, ?_⟩ | refine ⟨_, _, he3.down, ?_⟩); simp -dsimp (disch := try exact vD) only [push_cast, simprocAttr]; (repeat refine aI ?_); apply hK; clear hK K) | ((first | refine AL_go rfl (fun K hK => ?_) | refine AL_go0 (fun K hK => ?_) | refine DG_run (fun K hK => ?_)); (first | apply R_move | apply R_assign | apply Q_load | apply Q_loadAgg | apply Q_fieldAddr | apply Q_len | apply Q_lenStr | apply Q_pick | apply Q_not | apply Q_neg | apply Q_extract | apply Q_box | apply R_alloc | apply Q_store | apply Q_eqAgg | apply Q_neqAgg | apply Q_neqSelf | apply Q_bin); simp -dsimp (disch := try exact vD) only [push_cast, simprocAttr]; (repeat refine aI ?_); apply hK; clear hK K) | ((first | refine AL_guard rfl rfl (fun K1 K2 h1 h2 => ?_) rfl | refine AC_cond_k (fun K1 K2 h1 h2 => ?_) | refine DG_guard rfl rfl (fun K1 K2 h1 h2 => ?_)); simp -dsimp (disch := try exact vD) only [push_cast, simprocAttr]; (first | (refine ⟨fun hc => ?_, fun hc => ?_⟩ <;> first | (exfalso; omega) | (exfalso; contradiction) | refine h1 ?_ | refine h2 ?_) | refine h1 ?_ | refine h2 ?_); all_goals clear h1 h2 K1 K2) | (refine AC_draw (id := 6) (by kernel_rfl) [⟨0, [], [], [], [], 0⟩, ⟨1, [0], [], [], [], 0⟩, ⟨2, [0, 1], [], [], [], 0⟩, ⟨3, [0, 1, 2], [], [], [], 0⟩, ⟨4, [0, 1, 2, 3], [], [], [], 0⟩, ⟨5, [0, 1, 2, 3, 4], [], [], [], 0⟩, ⟨6, [0, 1, 2, 3, 4, 5], [], [], [], 0⟩, ⟨7, [0, 1, 2, 3, 4, 5, 6], [41, 42], [], [], 0⟩, ⟨8, [0, 1, 2, 3, 4, 5, 6], [40], [], [], 0⟩, ⟨9, [0, 1, 2, 3, 4, 5, 6, 8], [40], [], [], 0⟩, ⟨10, [0, 1, 2, 3, 4, 5, 6, 7, 8, 9], [], [], [], 0⟩, ⟨11, [0, 1, 2, 3, 4, 5, 6, 7, 8, 9, 10], [], [], [], 0⟩, ⟨12, [0, 1, 2, 3, 4, 5, 6, 7, 8, 9, 10, 11], [], [], [], 0⟩, ⟨13, [0, 1, 2, 3, 4, 5, 6, 7, 8, 9, 10, 11, 12], [], [], [], 0⟩, ⟨14, [0, 1, 2, 3, 4, 5, 6, 7, 8, 9, 10, 11, 12, 13], [48, 49], [], [], 0⟩, ⟨15, [0, 1, 2, 3, 4, 5, 6, 7, 8, 9, 10, 11, 12, 13], [47], [], [], 0⟩, ⟨16, [0, 1, 2, 3, 4, 5, 6, 7, 8, 9, 10, 11, 12, 13, 15], [47], [], [], 0⟩, ⟨17, [0, 1, 2, 3, 4, 5, 6, 7, 8, 9, 10, 11, 12, 13, 14, 15, 16], [], [], [], 0⟩, ⟨18, [0, 1, 2, 3, 4, 5, 6, 7, 8, 9, 10, 11, 12, 13, 14, 15, 16, 17], [], [], [], 0⟩, ⟨19, [0, 1, 2, 3, 4, 5, 6, 7, 8, 9, 10, 11, 12, 13, 14, 15, 16, 17, 18], [], [], [], 0⟩] (by kernel_rfl) (by kernel_rfl) (by kernel_rfl) ?_) | ((first | refine DG_next' (by kernel_rfl) (fun K hK => ?_) | refine DG_nil (by kernel_rfl) (fun K hK => ?_)); simp only [↓Go.Sy.dsnE_some, ↓Go.Sy.dsnE_none, ↓Go.Sy.dsnE_nil, ↓Go.Sy.dsnO_snoc, ↓Go.Sy.dsnO_nil, ↓Go.Sy.nidAt_snoc, ↓Go.Sy.nidAt_nil, push_cast, Nat.reduceLeDiff, Nat.reduceSub, Nat.reduceBEq, Nat.reduceEqDiff, Nat.reduceAdd, Nat.reduceLT, ↓reduceIte, reduceCtorEq]; refine hK _ _ _ ?_; clear hK K) | apply DG_go | apply AL_nil | apply Thn_normal | apply Thn_ret | apply Thn_exit | apply Blk_normal | apply Blk_ret | apply Blk_here | (refine Blk_other rfl ?_) | apply AC_block | apply AC_exit | apply AC_skip | apply AC_ret)
    all_goals first
      | ((refine Ends.mk2 (by first | exact .inr rfl | exact .inl rfl) [] ?_; simp -dsimp (disch := try exact vD) only [push_cast, simprocAttr, Tryd.f6]; (repeat refine aI ?_); try (first | exact vI | fail)); done)
      | trace_state
  · unfold drC
    refine ACall.enter Tryd.func6 rfl (by simp [Tryd.ntmps6]) (by simp) ?_; simp only [entry, idx, Tryd.ntmps6, List.length, List.map_cons, List.map_nil, List.append_nil, List.cons_append, List.nil_append, Nat.reduceAdd, Nat.zero_add, List.length_cons, List.length_nil]
    repeat' (first | apply AC_seq | apply AC_region_lit | ((first | refine AL_go rfl (fun K hK => ?_) | refine AL_go0 (fun K hK => ?_) | refine DG_run (fun K hK => ?_)); (first | refine R_callG (f := 12) [] 0 false ?_); simp -dsimp (disch := try exact vD) only [push_cast, simprocAttr]; (repeat refine aI ?_); intro G hG; refine hG _ _ ?_; clear hG G; (first | refine ⟨_, _, awake_ok, ?_⟩); simp -dsimp (disch := try exact vD) only [push_cast, simprocAttr]; (repeat refine aI ?_); apply hK; clear hK K) | ((first | refine AL_go rfl (fun K hK => ?_) | refine AL_go0 (fun K hK => ?_) | refine DG_run (fun K hK => ?_)); (first | apply R_move | apply R_assign | apply Q_load | apply Q_loadAgg | apply Q_fieldAddr | apply Q_len | apply Q_lenStr | apply Q_pick | apply Q_not | apply Q_neg | apply Q_extract | apply Q_box | apply R_alloc | apply Q_store | apply Q_eqAgg | apply Q_neqAgg | apply Q_neqSelf | apply Q_bin); simp -dsimp (disch := try exact vD) only [push_cast, simprocAttr]; (repeat refine aI ?_); apply hK; clear hK K) | ((first | refine AL_guard rfl rfl (fun K1 K2 h1 h2 => ?_) rfl | refine AC_cond_k (fun K1 K2 h1 h2 => ?_) | refine DG_guard rfl rfl (fun K1 K2 h1 h2 => ?_)); simp -dsimp (disch := try exact vD) only [push_cast, simprocAttr]; (first | (refine ⟨fun hc => ?_, fun hc => ?_⟩ <;> first | (exfalso; omega) | (exfalso; contradiction) | refine h1 ?_ | refine h2 ?_) | refine h1 ?_ | refine h2 ?_); all_goals clear h1 h2 K1 K2) | (refine AC_draw (id := 6) (by kernel_rfl) [⟨0, [], [], [], [], 0⟩, ⟨1, [0], [], [], [], 0⟩, ⟨2, [0, 1], [], [], [], 0⟩, ⟨3, [0, 1, 2], [], [], [], 0⟩, ⟨4, [0, 1, 2, 3], [], [], [], 0⟩, ⟨5, [0, 1, 2, 3, 4], [], [], [], 0⟩, ⟨6, [0, 1, 2, 3, 4, 5], [], [], [], 0⟩, ⟨7, [0, 1, 2, 3, 4, 5, 6], [41, 42], [], [], 0⟩, ⟨8, [0, 1, 2, 3, 4, 5, 6], [40], [], [], 0⟩, ⟨9, [0, 1, 2, 3, 4, 5, 6, 8], [40], [], [], 0⟩, ⟨10, [0, 1, 2, 3, 4, 5, 6, 7, 8, 9], [], [], [], 0⟩, ⟨11, [0, 1, 2, 3, 4, 5, 6, 7, 8, 9, 10], [], [], [], 0⟩, ⟨12, [0, 1, 2, 3, 4, 5, 6, 7, 8, 9, 10, 11], [], [], [], 0⟩, ⟨13, [0, 1, 2, 3, 4, 5, 6, 7, 8, 9, 10, 11, 12], [], [], [], 0⟩, ⟨14, [0, 1, 2, 3, 4, 5, 6, 7, 8, 9, 10, 11, 12, 13], [48, 49], [], [], 0⟩, ⟨15, [0, 1, 2, 3, 4, 5, 6, 7, 8, 9, 10, 11, 12, 13], [47], [], [], 0⟩, ⟨16, [0, 1, 2, 3, 4, 5, 6, 7, 8, 9, 10, 11, 12, 13, 15], [47], [], [], 0⟩, ⟨17, [0, 1, 2, 3, 4, 5, 6, 7, 8, 9, 10, 11, 12, 13, 14, 15, 16], [], [], [], 0⟩, ⟨18, [0, 1, 2, 3, 4, 5, 6, 7, 8, 9, 10, 11, 12, 13, 14, 15, 16, 17], [], [], [], 0⟩, ⟨19, [0, 1, 2, 3, 4, 5, 6, 7, 8, 9, 10, 11, 12, 13, 14, 15, 16, 17, 18], [], [], [], 0⟩] (by kernel_rfl) (by kernel_rfl) (by kernel_rfl) ?_) | ((first | refine DG_next' (by kernel_rfl) (fun K hK => ?_) | refine DG_nil (by kernel_rfl) (fun K hK => ?_)); simp only [↓Go.Sy.dsnE_some, ↓Go.Sy.dsnE_none, ↓Go.Sy.dsnE_nil, ↓Go.Sy.dsnO_snoc, ↓Go.Sy.dsnO_nil, ↓Go.Sy.nidAt_snoc, ↓Go.Sy.nidAt_nil, push_cast, Nat.reduceLeDiff, Nat.reduceSub, Nat.reduceBEq, Nat.reduceEqDiff, Nat.reduceAdd, Nat.reduceLT, ↓reduceIte, reduceCtorEq]; refine hK _ _ _ ?_; clear hK K) | apply DG_go | apply AL_nil | apply Thn_normal | apply Thn_ret | apply Thn_exit | apply Blk_normal | apply Blk_ret | apply Blk_here | (refine Blk_other rfl ?_) | apply AC_block | apply AC_exit | apply AC_skip | apply AC_ret)
    all_goals first
      | ((refine Ends.mk2 (by first | exact .inr rfl | exact .inl rfl) [] ?_; simp -dsimp (disch := try exact vD) only [push_cast, simprocAttr, Tryd.f6]; (repeat refine aI ?_); try (first | exact vI | fail)); done)
      | trace_state
end Go.Proofs.YtebinjcofclfaaaDoor
