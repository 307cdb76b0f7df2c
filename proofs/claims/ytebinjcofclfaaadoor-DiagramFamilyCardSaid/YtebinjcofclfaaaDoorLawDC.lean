/- Diagrams: the law of FromFamily. No condition. -/
import Derived.Test.YtebinjcofclfaaaDoorDi21
set_option linter.unusedVariables false
set_option linter.unusedSectionVars false
set_option linter.unusedSimpArgs false
set_option maxHeartbeats 4000000
set_option maxRecDepth 20000
namespace Go.Proofs.YtebinjcofclfaaaDoor
open Go Go.Sy Go.Bp Go.Dg
attribute [local irreducible] AO AL AC OpT ACall Ends DGo DRun Thn Blk Nxt
variable {n N M T L k i m r a b j w u v s q x y d : Nat} {z z' up up' : Bool} {B B' : List Nat} {F : List Fo} {p f g : Nat → Bool} {xs : List Nat} {o e : Int}
theorem cloneX_ok (hl : xs.length = n) (hz : z = true → xs = []) (hn : n < 2 ^ 40) : ACall Tryd.prog 22 [.isl z (cX xs) n] [] 0 (.isl z (cX xs) n) [] := by
  have hc : (cX xs).length = n := by simp [cX, hl]
  have htk : (cX xs).take n = cX xs := List.take_of_length_le (by omega)
  cases z with
  | true =>
    have := hz rfl
    subst this
    subst hl
    refine ACall.enter Tryd.func22 rfl (by simp [Tryd.ntmps22]) (by simp) ?_; simp only [entry, idx, Tryd.ntmps22, List.length, List.map_cons, List.map_nil, List.append_nil, List.cons_append, List.nil_append, Nat.reduceAdd, Nat.zero_add, List.length_cons, List.length_nil]
    repeat' (first | apply AC_seq | apply AC_region_lit | ((first | refine AL_go rfl (fun K hK => ?_) | refine AL_go0 (fun K hK => ?_)); (first | apply R_move | apply R_assign | apply Q_buildSlice | apply Q_eqAgg | apply Q_neqAgg | apply Q_neqSelf | apply Q_bin | apply Q_appendNil); simp -dsimp (disch := try exact vD) only [push_cast, simprocAttr]; (repeat refine aI ?_); apply hK; clear hK K) | ((first | refine AL_go rfl (fun K hK => ?_) | refine AL_go0 (fun K hK => ?_)); (first | apply Q_eqnil | apply Q_neqnil | apply Q_append); simp -dsimp (disch := try exact vD) only [push_cast, simprocAttr]; (repeat refine aI ?_); apply hK; clear hK K) | ((first | refine AL_go rfl (fun K hK => ?_) | refine AL_go0 (fun K hK => ?_)); (first | apply Q_append00); simp -dsimp (disch := try exact vD) only [push_cast, simprocAttr]; (repeat refine aI ?_); apply hK; clear hK K) | ((first | refine AL_go rfl (fun K hK => ?_) | refine AL_go0 (fun K hK => ?_)); (first | apply Q_appendIn); simp -dsimp (disch := try exact vD) only [push_cast, simprocAttr]; (repeat refine aI ?_); apply hK; clear hK K) | ((first | refine AL_guard rfl rfl (fun K1 K2 h1 h2 => ?_) rfl | refine AC_cond_k (fun K1 K2 h1 h2 => ?_)); simp -dsimp (disch := try exact vD) only [push_cast, simprocAttr]; (first | (refine ⟨fun hc => ?_, fun hc => ?_⟩ <;> first | (exfalso; omega) | (exfalso; contradiction) | refine h1 ?_ | refine h2 ?_) | refine h1 ?_ | refine h2 ?_); all_goals clear h1 h2 K1 K2) | apply AL_nil | apply Thn_normal | apply Thn_ret | apply Thn_exit | apply Blk_normal | apply Blk_ret | apply Blk_here | (refine Blk_other rfl ?_) | apply AC_block | apply AC_exit | apply AC_skip | apply AC_ret)
    all_goals first
      | ((refine Ends.mk2 (by first | exact .inr rfl | exact .inl rfl) [] ?_; simp -dsimp (disch := try exact vD) only [push_cast, simprocAttr, Tryd.f22]; (repeat refine aI ?_); try (first | exact vI | fail)); done)
      | trace_state
  | false =>
    refine ACall.enter Tryd.func22 rfl (by simp [Tryd.ntmps22]) (by simp) ?_; simp only [entry, idx, Tryd.ntmps22, List.length, List.map_cons, List.map_nil, List.append_nil, List.cons_append, List.nil_append, Nat.reduceAdd, Nat.zero_add, List.length_cons, List.length_nil]
    repeat' (first | apply AC_seq | apply AC_region_lit | ((first | refine AL_go rfl (fun K hK => ?_) | refine AL_go0 (fun K hK => ?_)); (first | apply R_move | apply R_assign | apply Q_buildSlice | apply Q_eqAgg | apply Q_neqAgg | apply Q_neqSelf | apply Q_bin | apply Q_appendNil); simp -dsimp (disch := try exact vD) only [push_cast, simprocAttr]; (repeat refine aI ?_); apply hK; clear hK K) | ((first | refine AL_go rfl (fun K hK => ?_) | refine AL_go0 (fun K hK => ?_)); (first | apply Q_eqnil | apply Q_neqnil | apply Q_append); simp -dsimp (disch := try exact vD) only [push_cast, simprocAttr]; (repeat refine aI ?_); apply hK; clear hK K) | ((first | refine AL_go rfl (fun K hK => ?_) | refine AL_go0 (fun K hK => ?_)); (first | apply Q_append00); simp -dsimp (disch := try exact vD) only [push_cast, simprocAttr]; (repeat refine aI ?_); apply hK; clear hK K) | ((first | refine AL_go rfl (fun K hK => ?_) | refine AL_go0 (fun K hK => ?_)); (first | apply Q_appendIn); simp -dsimp (disch := try exact vD) only [push_cast, simprocAttr]; (repeat refine aI ?_); apply hK; clear hK K) | ((first | refine AL_guard rfl rfl (fun K1 K2 h1 h2 => ?_) rfl | refine AC_cond_k (fun K1 K2 h1 h2 => ?_)); simp -dsimp (disch := try exact vD) only [push_cast, simprocAttr]; (first | (refine ⟨fun hc => ?_, fun hc => ?_⟩ <;> first | (exfalso; omega) | (exfalso; contradiction) | refine h1 ?_ | refine h2 ?_) | refine h1 ?_ | refine h2 ?_); all_goals clear h1 h2 K1 K2) | apply AL_nil | apply Thn_normal | apply Thn_ret | apply Thn_exit | apply Blk_normal | apply Blk_ret | apply Blk_here | (refine Blk_other rfl ?_) | apply AC_block | apply AC_exit | apply AC_skip | apply AC_ret)
    all_goals first
      | (((refine Ends.frz 1 ?_; simp -dsimp (disch := try exact vD) only [push_cast, simprocAttr, Tryd.f22, htk]; (repeat refine aI ?_); intro K hK; refine hK _ _ ?_; clear hK K); refine Ends.mk2 (by first | exact .inr rfl | exact .inl rfl) [] ?_; simp -dsimp (disch := try exact vD) only [push_cast, simprocAttr, Tryd.f22, htk]; (repeat refine aI ?_); try (first | exact vI | fail)); done)
      | trace_state
theorem eq_zero : ACall Tryd.prog 24 [zDg, zDg] [] 0 (.val (.bool true)) [] := equal_self (by decide)
theorem fam_M (hl : xs.length = M) (hM : M ≤ 30) (ho : o ≤ 8 ∨ 12 < o) : ∃ (a : Int) (z1 : Bool) (G : List Fo) (n1 : Nat) (r1 e : Int), ACall Tryd.prog 21 [.val (.int .i64 o), .isl z (cX xs) M] [] 0 (.tup [.agg [.val (.int .i64 a), .isl z1 (cR G) n1, .val (.int .i64 r1)], .val (.int .i64 e)]) [] ∧
    ACall Tryd.prog 23 [.val (.int .i64 o), .isl z (cX xs) M] [] 0 (.tup [.agg [.val (.int .i64 a), .isl z1 (cR G) n1, .val (.int .i64 r1)], .val (.int .i64 e)]) [] ∧ ACall Tryd.prog 24 [.agg [.val (.int .i64 a), .isl z1 (cR G) n1, .val (.int .i64 r1)], .agg [.val (.int .i64 a), .isl z1 (cR G) n1, .val (.int .i64 r1)]] [] 0 (.val (.bool true)) [] := by
  by_cases h1 : o < 0 ∨ 12 < o
  · exact ⟨0, true, [], 0, 0, 7, ff_range h1, rff_range h1, eq_zero⟩
  · obtain ⟨n, rfl⟩ := Int.eq_ofNat_of_zero_le (show 0 ≤ o by omega)
    have hn : n ≤ 8 := by omega
    by_cases he : famE xs = 0
    · by_cases hs : supA xs M % 65536 < 2 ^ n
      · have hr := rff_w (z := z) (n := n) (by omega) hl (by omega) he rfl
        rw [if_pos hs] at hr
        have hD := from_DOk (n := n) (tab := hasA xs) (by omega)
        have hf := hD.few
        exact ⟨_, _, _, _, _, _, ff_ok (by omega) hl (by omega) he hs, hr, eq_dg rfl (by omega)⟩
      · have hr := rff_w (z := z) (n := n) (by omega) hl (by omega) he rfl
        rw [if_neg hs] at hr
        exact ⟨0, true, [], 0, 0, 7, ff_sup (by omega) hl (by omega) he hs, hr, eq_zero⟩
    · exact ⟨0, true, [], 0, 0, _, ff_err (by omega) hl (by omega) rfl he, rff_err (by omega) hl (by omega) rfl he, eq_zero⟩
theorem lawFamily (hl : xs.length = M) (hz : z = true → xs = []) (hM : M < 2 ^ 47) : ACall Tryd.prog 5 [.val (.int .i64 o), .isl z (cX xs) M] [] 0 (.val (.bool true)) [] := by
  by_cases h1 : M ≤ 30
  · by_cases h2 : o ≤ 8 ∨ 12 < o
    · obtain ⟨a, z1, G, n1, r1, e, hf, hr, heq⟩ := fam_M (z := z) hl h1 h2
      have hf := PLift.up hf; have hr := PLift.up hr; have heq := PLift.up heq
      have hcl := PLift.up (cloneX_ok hl hz (by omega))
      rcases h2 with h2 | h2
      all_goals (refine ACall.enter Tryd.func5 rfl (by simp [Tryd.ntmps5]) (by simp) ?_; simp only [entry, idx, Tryd.ntmps5, List.length, List.map_cons, List.map_nil, List.append_nil, List.cons_append, List.nil_append, Nat.reduceAdd, Nat.zero_add, List.length_cons, List.length_nil])
      all_goals repeat' (first | apply AC_seq | apply AC_region_lit | ((first | refine AL_go rfl (fun K hK => ?_) | refine AL_go0 (fun K hK => ?_)); (first | refine R_callG (f := 12) [] 0 false ?_ | refine R_callG (f := 22) [] 0 false ?_ | refine R_callG (f := 21) [] 0 false ?_ | refine R_callG (f := 23) [] 0 false ?_ | refine R_callG (f := 24) [] 0 false ?_); simp -dsimp (disch := try exact vD) only [push_cast, simprocAttr]; (repeat refine aI ?_); intro G hG; refine hG _ _ ?_; clear hG G; (first | refine ⟨_, _, awake_ok, ?_⟩ | refine ⟨_, _, hcl.down, ?_⟩ | refine ⟨_, _, hf.down, ?_⟩ | refine ⟨_, _, hr.down, ?_⟩ | refine ⟨_, _, heq.down, ?_⟩); simp -dsimp (disch := try exact vD) only [push_cast, simprocAttr]; (repeat refine aI ?_); apply hK; clear hK K) | ((first | refine AL_go rfl (fun K hK => ?_) | refine AL_go0 (fun K hK => ?_)); (first | apply R_move | apply R_assign | apply Q_load | apply Q_loadAgg | apply Q_len | apply Q_lenStr | apply Q_pick | apply Q_not | apply Q_neg | apply Q_extract | apply R_alloc | apply Q_store | apply Q_eqAgg | apply Q_neqAgg | apply Q_neqSelf | apply Q_bin); simp -dsimp (disch := try exact vD) only [push_cast, simprocAttr]; (repeat refine aI ?_); apply hK; clear hK K) | ((first | refine AL_guard rfl rfl (fun K1 K2 h1 h2 => ?_) rfl | refine AC_cond_k (fun K1 K2 h1 h2 => ?_)); simp -dsimp (disch := try exact vD) only [push_cast, simprocAttr]; (first | (refine ⟨fun hc => ?_, fun hc => ?_⟩ <;> first | (exfalso; omega) | (exfalso; contradiction) | refine h1 ?_ | refine h2 ?_) | refine h1 ?_ | refine h2 ?_); all_goals clear h1 h2 K1 K2) | apply AL_nil | apply Thn_normal | apply Thn_ret | apply Thn_exit | apply Blk_normal | apply Blk_ret | apply Blk_here | (refine Blk_other rfl ?_) | apply AC_block | apply AC_exit | apply AC_skip | apply AC_ret)
      all_goals first
        | ((refine Ends.mk2 (by first | exact .inr rfl | exact .inl rfl) [] ?_; simp -dsimp (disch := try exact vD) only [push_cast, simprocAttr, Tryd.f5]; (repeat refine aI ?_); try (first | exact vI | fail)); done)
        | trace_state
    · have h3 : 8 < o := by omega
      have h4 : o ≤ 12 := by omega
      refine ACall.enter Tryd.func5 rfl (by simp [Tryd.ntmps5]) (by simp) ?_; simp only [entry, idx, Tryd.ntmps5, List.length, List.map_cons, List.map_nil, List.append_nil, List.cons_append, List.nil_append, Nat.reduceAdd, Nat.zero_add, List.length_cons, List.length_nil]
      repeat' (first | apply AC_seq | apply AC_region_lit | ((first | refine AL_go rfl (fun K hK => ?_) | refine AL_go0 (fun K hK => ?_)); (first | refine R_callG (f := 12) [] 0 false ?_); simp -dsimp (disch := try exact vD) only [push_cast, simprocAttr]; (repeat refine aI ?_); intro G hG; refine hG _ _ ?_; clear hG G; (first | refine ⟨_, _, awake_ok, ?_⟩); simp -dsimp (disch := try exact vD) only [push_cast, simprocAttr]; (repeat refine aI ?_); apply hK; clear hK K) | ((first | refine AL_go rfl (fun K hK => ?_) | refine AL_go0 (fun K hK => ?_)); (first | apply R_move | apply R_assign | apply Q_load | apply Q_loadAgg | apply Q_len | apply Q_lenStr | apply Q_pick | apply Q_not | apply Q_neg | apply Q_extract | apply R_alloc | apply Q_store | apply Q_eqAgg | apply Q_neqAgg | apply Q_neqSelf | apply Q_bin); simp -dsimp (disch := try exact vD) only [push_cast, simprocAttr]; (repeat refine aI ?_); apply hK; clear hK K) | ((first | refine AL_guard rfl rfl (fun K1 K2 h1 h2 => ?_) rfl | refine AC_cond_k (fun K1 K2 h1 h2 => ?_)); simp -dsimp (disch := try exact vD) only [push_cast, simprocAttr]; (first | (refine ⟨fun hc => ?_, fun hc => ?_⟩ <;> first | (exfalso; omega) | (exfalso; contradiction) | refine h1 ?_ | refine h2 ?_) | refine h1 ?_ | refine h2 ?_); all_goals clear h1 h2 K1 K2) | apply AL_nil | apply Thn_normal | apply Thn_ret | apply Thn_exit | apply Blk_normal | apply Blk_ret | apply Blk_here | (refine Blk_other rfl ?_) | apply AC_block | apply AC_exit | apply AC_skip | apply AC_ret)
      all_goals first
        | ((refine Ends.mk2 (by first | exact .inr rfl | exact .inl rfl) [] ?_; simp -dsimp (disch := try exact vD) only [push_cast, simprocAttr, Tryd.f5]; (repeat refine aI ?_); try (first | exact vI | fail)); done)
        | trace_state
  · refine ACall.enter Tryd.func5 rfl (by simp [Tryd.ntmps5]) (by simp) ?_; simp only [entry, idx, Tryd.ntmps5, List.length, List.map_cons, List.map_nil, List.append_nil, List.cons_append, List.nil_append, Nat.reduceAdd, Nat.zero_add, List.length_cons, List.length_nil]
    repeat' (first | apply AC_seq | apply AC_region_lit | ((first | refine AL_go rfl (fun K hK => ?_) | refine AL_go0 (fun K hK => ?_)); (first | refine R_callG (f := 12) [] 0 false ?_); simp -dsimp (disch := try exact vD) only [push_cast, simprocAttr]; (repeat refine aI ?_); intro G hG; refine hG _ _ ?_; clear hG G; (first | refine ⟨_, _, awake_ok, ?_⟩); simp -dsimp (disch := try exact vD) only [push_cast, simprocAttr]; (repeat refine aI ?_); apply hK; clear hK K) | ((first | refine AL_go rfl (fun K hK => ?_) | refine AL_go0 (fun K hK => ?_)); (first | apply R_move | apply R_assign | apply Q_load | apply Q_loadAgg | apply Q_len | apply Q_lenStr | apply Q_pick | apply Q_not | apply Q_neg | apply Q_extract | apply R_alloc | apply Q_store | apply Q_eqAgg | apply Q_neqAgg | apply Q_neqSelf | apply Q_bin); simp -dsimp (disch := try exact vD) only [push_cast, simprocAttr]; (repeat refine aI ?_); apply hK; clear hK K) | ((first | refine AL_guard rfl rfl (fun K1 K2 h1 h2 => ?_) rfl | refine AC_cond_k (fun K1 K2 h1 h2 => ?_)); simp -dsimp (disch := try exact vD) only [push_cast, simprocAttr]; (first | (refine ⟨fun hc => ?_, fun hc => ?_⟩ <;> first | (exfalso; omega) | (exfalso; contradiction) | refine h1 ?_ | refine h2 ?_) | refine h1 ?_ | refine h2 ?_); all_goals clear h1 h2 K1 K2) | apply AL_nil | apply Thn_normal | apply Thn_ret | apply Thn_exit | apply Blk_normal | apply Blk_ret | apply Blk_here | (refine Blk_other rfl ?_) | apply AC_block | apply AC_exit | apply AC_skip | apply AC_ret)
    all_goals first
      | ((refine Ends.mk2 (by first | exact .inr rfl | exact .inl rfl) [] ?_; simp -dsimp (disch := try exact vD) only [push_cast, simprocAttr, Tryd.f5]; (repeat refine aI ?_); try (first | exact vI | fail)); done)
      | trace_state
end Go.Proofs.YtebinjcofclfaaaDoor
