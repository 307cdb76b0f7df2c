/- Diagrams: the law of Eval. No condition. -/
import Derived.Test.YtebinjcofclfaaaDoorLawD0
set_option linter.unusedVariables false
set_option linter.unusedSectionVars false
set_option linter.unusedSimpArgs false
set_option maxHeartbeats 4000000
set_option maxRecDepth 20000
namespace Go.Proofs.YtebinjcofclfaaaDoor
open Go Go.Sy Go.Bp Go.Dg
attribute [local irreducible] AO AL AC OpT ACall Ends DGo DRun Thn Blk Nxt
variable {n N M T L k i m r a b j w u v s q x y d : Nat} {z z' up up' : Bool} {B B' : List Nat} {F : List Fo} {p f g : Nat → Bool}
theorem val_low (hg : Go.Dg.Good n F) : ∀ (k r : Nat), r ≤ k → r < F.length + 2 → valN F s r = valN F (s % 2 ^ n) r := by
  intro k
  induction k with
  | zero => intro r hk hr; rw [valN_lt (by omega), valN_lt (by omega)]
  | succ k ih =>
    intro r hk hr
    by_cases h2 : r < 2
    · rw [valN_lt h2, valN_lt h2]
    · have ho := hg.ok (r - 2) (by omega)
      have h1 := ho.lo; have h3 := ho.hi; have hv := ho.v
      rw [valN_ge hg h2 hr, valN_ge hg h2 hr, Nat.testBit_mod_two_pow, decide_eq_true hv, Bool.true_and, ih _ (by omega) (by omega), ih _ (by omega) (by omega)]
theorem lawEval (h : DrOk N B L) (hs : s < 65536) : ACall Tryd.prog 4 [.agg (drC N z B L up), .val (.int .u16 (U s))] [] 0 (.val (.bool true)) [] := by
  by_cases h16 : L ≤ 16
  · obtain ⟨F, r, hD, hM⟩ := made_M (z := z) (up := up) h h16
    have hn6 : N % 7 ≤ 6 := by omega
    generalize N % 7 = n at hD hM hn6
    obtain ⟨M, hMe⟩ : ∃ M, F.length = M := ⟨_, rfl⟩
    rw [hMe] at hM
    generalize (M == 0) = zb at hM
    have hfew := hD.few
    have hp : 2 ^ n ≤ 2 ^ 6 := Nat.pow_le_pow_right (by omega) hn6
    have he := PLift.up (eval_0 (z := zb) hD hMe hs)
    have hv := PLift.up (valid_0 (z := zb) hD hMe)
    have ht := PLift.up (rtable_ok (z := zb) (n := n) (r := r) (by omega) hD.bnd hD.v16 hMe (by omega) (by have := hD.lt; omega) rfl)
    have hlow := val_low (s := s) hD.good r r (Nat.le_refl _) hD.lt
    have hq : s % 2 ^ n < 2 ^ n := Nat.mod_lt _ (Nat.two_pow_pos n)
    have hg := tabL_at (F := F) (r := r) hq
    rw [← hlow] at hg
    have hu : U (sand s (2 ^ n - 1)) = ((s % 2 ^ n : Nat) : Int) := by
      unfold U sand
      rw [Nat.and_two_pow_sub_one_eq_mod, Nat.mod_eq_of_lt (show s % 2 ^ n < 65536 by omega)]
    have lt1 := tabL_len (F := F) (r := r) (m := 2 ^ n)
    obtain ⟨q, hqe⟩ : ∃ q, s % 2 ^ n = q := ⟨_, rfl⟩
    rw [hqe] at hu hg hq
    generalize valN F s r = vb at he hg
    generalize tabL F r (2 ^ n) = tb at ht hg lt1
    have hg : tb.getD q default = vb := hg
    obtain ⟨T, hT⟩ : ∃ T, 2 ^ n = T := ⟨_, rfl⟩
    rw [hT] at ht lt1 hq hp
    have hM := PLift.up hM
    clear hD hlow h
    unfold drC at *
    cases vb
    all_goals (refine ACall.enter Tryd.func4 rfl (by simp [Tryd.ntmps4]) (by simp) ?_; simp only [entry, idx, Tryd.ntmps4, List.length, List.map_cons, List.map_nil, List.append_nil, List.cons_append, List.nil_append, Nat.reduceAdd, Nat.zero_add, List.length_cons, List.length_nil])
    all_goals repeat' (first | apply AC_seq | apply AC_region_lit | ((first | refine AL_go rfl (fun K hK => ?_) | refine AL_go0 (fun K hK => ?_) | refine DG_run (fun K hK => ?_)); (first | refine R_callG (f := 12) [] 0 false ?_ | refine R_callG (f := 13) [] 0 false ?_ | refine R_callG (f := 18) [] 0 false ?_ | refine R_callG (f := 19) [] 0 false ?_ | refine R_callG (f := 20) [] 0 false ?_); simp -dsimp (disch := try exact vD) only [push_cast, simprocAttr, hu, hg, lt1]; (repeat refine aI ?_); intro G hG; refine hG _ _ ?_; clear hG G; (first | refine ⟨_, _, awake_ok, ?_⟩ | refine ⟨_, _, hM.down, ?_⟩ | refine ⟨_, _, he.down, ?_⟩ | refine ⟨_, _, hv.down, ?_⟩ | refine ⟨_, _, ht.down, ?_⟩); simp -dsimp (disch := try exact vD) only [push_cast, simprocAttr, hu, hg, lt1]; (repeat refine aI ?_); apply hK; clear hK K) | ((first | refine AL_go rfl (fun K hK => ?_) | refine AL_go0 (fun K hK => ?_) | refine DG_run (fun K hK => ?_)); (first | apply R_move | apply R_assign | apply Q_load | apply Q_loadAgg | apply Q_fieldAddr | apply Q_indexAddr | apply Q_indexArr | apply Q_len | apply Q_lenStr | apply Q_pick | apply Q_not | apply Q_neg | apply Q_extract | apply Q_box | apply R_alloc | apply Q_store | apply Q_eqAgg | apply Q_neqAgg | apply Q_neqSelf | apply Q_bin); simp -dsimp (disch := try exact vD) only [push_cast, simprocAttr, hu, hg, lt1]; (repeat refine aI ?_); apply hK; clear hK K) | ((first | refine AL_guard rfl rfl (fun K1 K2 h1 h2 => ?_) rfl | refine AC_cond_k (fun K1 K2 h1 h2 => ?_) | refine DG_guard rfl rfl (fun K1 K2 h1 h2 => ?_)); simp -dsimp (disch := try exact vD) only [push_cast, simprocAttr, hu, hg, lt1]; (first | (refine ⟨fun hc => ?_, fun hc => ?_⟩ <;> first | (exfalso; omega) | (exfalso; contradiction) | refine h1 ?_ | refine h2 ?_) | refine h1 ?_ | refine h2 ?_); all_goals clear h1 h2 K1 K2) | (refine AC_draw (id := 5) (by kernel_rfl) [⟨0, [], [], [], [], 0⟩, ⟨1, [0], [], [], [], 0⟩, ⟨2, [0, 1], [], [], [], 0⟩, ⟨3, [0, 1, 2], [], [], [], 0⟩, ⟨4, [0, 1, 2, 3], [], [], [], 0⟩, ⟨5, [0, 1, 2, 3, 4], [], [], [], 0⟩, ⟨6, [0, 1, 2, 3, 4, 5], [], [], [], 0⟩, ⟨7, [0, 1, 2, 3, 4, 5, 6], [], [], [], 0⟩, ⟨8, [0, 1, 2, 3, 4, 5, 6, 7], [34, 35, 36, 37, 38, 39, 40, 41, 42, 43], [], [], 0⟩, ⟨9, [0, 1, 2, 3, 4, 5, 6, 7], [33, 36, 37, 38, 39, 40, 41], [], [], 0⟩, ⟨10, [0, 1, 2, 3, 4, 5, 6, 7, 9], [33, 36, 37, 38, 39, 40, 41], [], [], 0⟩, ⟨11, [0, 1, 2, 3, 4, 5, 6, 7], [33, 34, 35, 37, 38, 39, 40], [], [], 0⟩, ⟨12, [0, 1, 2, 3, 4, 5, 6, 7], [33, 34, 35, 36], [], [], 0⟩, ⟨13, [0, 1, 2, 3, 4, 5, 6, 7, 12], [33, 34, 35, 36], [], [], 0⟩, ⟨14, [0, 1, 2, 3, 4, 5, 6, 7, 12, 13], [33, 34, 35, 36], [], [], 0⟩, ⟨15, [0, 1, 2, 3, 4, 5, 6, 7, 12, 13, 14], [33, 34, 35, 36], [], [], 0⟩, ⟨16, [0, 1, 2, 3, 4, 5, 6, 7, 11, 12, 13, 14, 15], [33, 34, 35], [], [], 0⟩, ⟨17, [0, 1, 2, 3, 4, 5, 6, 7, 9, 10, 11, 12, 13, 14, 15, 16], [33], [], [], 0⟩, ⟨18, [0, 1, 2, 3, 4, 5, 6, 7, 9, 10, 11, 12, 13, 14, 15, 16, 17], [33], [], [], 0⟩, ⟨19, [0, 1, 2, 3, 4, 5, 6, 7, 8, 9, 10, 11, 12, 13, 14, 15, 16, 17, 18], [], [], [], 0⟩, ⟨20, [0, 1, 2, 3, 4, 5, 6, 7, 8, 9, 10, 11, 12, 13, 14, 15, 16, 17, 18, 19], [], [], [], 0⟩, ⟨21, [0, 1, 2, 3, 4, 5, 6, 7, 8, 9, 10, 11, 12, 13, 14, 15, 16, 17, 18, 19, 20], [], [], [], 0⟩] (by kernel_rfl) (by kernel_rfl) (by kernel_rfl) ?_) | ((first | refine DG_next' (by kernel_rfl) (fun K hK => ?_) | refine DG_nil (by kernel_rfl) (fun K hK => ?_)); simp only [↓Go.Sy.dsnE_some, ↓Go.Sy.dsnE_none, ↓Go.Sy.dsnE_nil, ↓Go.Sy.dsnO_snoc, ↓Go.Sy.dsnO_nil, ↓Go.Sy.nidAt_snoc, ↓Go.Sy.nidAt_nil, push_cast, Nat.reduceLeDiff, Nat.reduceSub, Nat.reduceBEq, Nat.reduceEqDiff, Nat.reduceAdd, Nat.reduceLT, ↓reduceIte, reduceCtorEq]; refine hK _ _ _ ?_; clear hK K) | apply DG_go | apply AL_nil | apply Thn_normal | apply Thn_ret | apply Thn_exit | apply Blk_normal | apply Blk_ret | apply Blk_here | (refine Blk_other rfl ?_) | apply AC_block | apply AC_exit | apply AC_skip | apply AC_ret)
    all_goals first
      | ((refine Ends.mk2 (by first | exact .inr rfl | exact .inl rfl) [] ?_; simp -dsimp (disch := try exact vD) only [push_cast, simprocAttr, Tryd.f4]; (repeat refine aI ?_); try (first | exact vI | fail)); done)
      | trace_state
  · unfold drC
    refine ACall.enter Tryd.func4 rfl (by simp [Tryd.ntmps4]) (by simp) ?_; simp only [entry, idx, Tryd.ntmps4, List.length, List.map_cons, List.map_nil, List.append_nil, List.cons_append, List.nil_append, Nat.reduceAdd, Nat.zero_add, List.length_cons, List.length_nil]
    repeat' (first | apply AC_seq | apply AC_region_lit | ((first | refine AL_go rfl (fun K hK => ?_) | refine AL_go0 (fun K hK => ?_) | refine DG_run (fun K hK => ?_)); (first | refine R_callG (f := 12) [] 0 false ?_); simp -dsimp (disch := try exact vD) only [push_cast, simprocAttr]; (repeat refine aI ?_); intro G hG; refine hG _ _ ?_; clear hG G; (first | refine ⟨_, _, awake_ok, ?_⟩); simp -dsimp (disch := try exact vD) only [push_cast, simprocAttr]; (repeat refine aI ?_); apply hK; clear hK K) | ((first | refine AL_go rfl (fun K hK => ?_) | refine AL_go0 (fun K hK => ?_) | refine DG_run (fun K hK => ?_)); (first | apply R_move | apply R_assign | apply Q_load | apply Q_loadAgg | apply Q_fieldAddr | apply Q_indexAddr | apply Q_indexArr | apply Q_len | apply Q_lenStr | apply Q_pick | apply Q_not | apply Q_neg | apply Q_extract | apply Q_box | apply R_alloc | apply Q_store | apply Q_eqAgg | apply Q_neqAgg | apply Q_neqSelf | apply Q_bin); simp -dsimp (disch := try exact vD) only [push_cast, simprocAttr]; (repeat refine aI ?_); apply hK; clear hK K) | ((first | refine AL_guard rfl rfl (fun K1 K2 h1 h2 => ?_) rfl | refine AC_cond_k (fun K1 K2 h1 h2 => ?_) | refine DG_guard rfl rfl (fun K1 K2 h1 h2 => ?_)); simp -dsimp (disch := try exact vD) only [push_cast, simprocAttr]; (first | (refine ⟨fun hc => ?_, fun hc => ?_⟩ <;> first | (exfalso; omega) | (exfalso; contradiction) | refine h1 ?_ | refine h2 ?_) | refine h1 ?_ | refine h2 ?_); all_goals clear h1 h2 K1 K2) | (refine AC_draw (id := 5) (by kernel_rfl) [⟨0, [], [], [], [], 0⟩, ⟨1, [0], [], [], [], 0⟩, ⟨2, [0, 1], [], [], [], 0⟩, ⟨3, [0, 1, 2], [], [], [], 0⟩, ⟨4, [0, 1, 2, 3], [], [], [], 0⟩, ⟨5, [0, 1, 2, 3, 4], [], [], [], 0⟩, ⟨6, [0, 1, 2, 3, 4, 5], [], [], [], 0⟩, ⟨7, [0, 1, 2, 3, 4, 5, 6], [], [], [], 0⟩, ⟨8, [0, 1, 2, 3, 4, 5, 6, 7], [34, 35, 36, 37, 38, 39, 40, 41, 42, 43], [], [], 0⟩, ⟨9, [0, 1, 2, 3, 4, 5, 6, 7], [33, 36, 37, 38, 39, 40, 41], [], [], 0⟩, ⟨10, [0, 1, 2, 3, 4, 5, 6, 7, 9], [33, 36, 37, 38, 39, 40, 41], [], [], 0⟩, ⟨11, [0, 1, 2, 3, 4, 5, 6, 7], [33, 34, 35, 37, 38, 39, 40], [], [], 0⟩, ⟨12, [0, 1, 2, 3, 4, 5, 6, 7], [33, 34, 35, 36], [], [], 0⟩, ⟨13, [0, 1, 2, 3, 4, 5, 6, 7, 12], [33, 34, 35, 36], [], [], 0⟩, ⟨14, [0, 1, 2, 3, 4, 5, 6, 7, 12, 13], [33, 34, 35, 36], [], [], 0⟩, ⟨15, [0, 1, 2, 3, 4, 5, 6, 7, 12, 13, 14], [33, 34, 35, 36], [], [], 0⟩, ⟨16, [0, 1, 2, 3, 4, 5, 6, 7, 11, 12, 13, 14, 15], [33, 34, 35], [], [], 0⟩, ⟨17, [0, 1, 2, 3, 4, 5, 6, 7, 9, 10, 11, 12, 13, 14, 15, 16], [33], [], [], 0⟩, ⟨18, [0, 1, 2, 3, 4, 5, 6, 7, 9, 10, 11, 12, 13, 14, 15, 16, 17], [33], [], [], 0⟩, ⟨19, [0, 1, 2, 3, 4, 5, 6, 7, 8, 9, 10, 11, 12, 13, 14, 15, 16, 17, 18], [], [], [], 0⟩, ⟨20, [0, 1, 2, 3, 4, 5, 6, 7, 8, 9, 10, 11, 12, 13, 14, 15, 16, 17, 18, 19], [], [], [], 0⟩, ⟨21, [0, 1, 2, 3, 4, 5, 6, 7, 8, 9, 10, 11, 12, 13, 14, 15, 16, 17, 18, 19, 20], [], [], [], 0⟩] (by kernel_rfl) (by kernel_rfl) (by kernel_rfl) ?_) | ((first | refine DG_next' (by kernel_rfl) (fun K hK => ?_) | refine DG_nil (by kernel_rfl) (fun K hK => ?_)); simp only [↓Go.Sy.dsnE_some, ↓Go.Sy.dsnE_none, ↓Go.Sy.dsnE_nil, ↓Go.Sy.dsnO_snoc, ↓Go.Sy.dsnO_nil, ↓Go.Sy.nidAt_snoc, ↓Go.Sy.nidAt_nil, push_cast, Nat.reduceLeDiff, Nat.reduceSub, Nat.reduceBEq, Nat.reduceEqDiff, Nat.reduceAdd, Nat.reduceLT, ↓reduceIte, reduceCtorEq]; refine hK _ _ _ ?_; clear hK K) | apply DG_go | apply AL_nil | apply Thn_normal | apply Thn_ret | apply Thn_exit | apply Blk_normal | apply Blk_ret | apply Blk_here | (refine Blk_other rfl ?_) | apply AC_block | apply AC_exit | apply AC_skip | apply AC_ret)
    all_goals first
      | ((refine Ends.mk2 (by first | exact .inr rfl | exact .inl rfl) [] ?_; simp -dsimp (disch := try exact vD) only [push_cast, simprocAttr, Tryd.f4]; (repeat refine aI ?_); try (first | exact vI | fail)); done)
      | trace_state
end Go.Proofs.YtebinjcofclfaaaDoor
