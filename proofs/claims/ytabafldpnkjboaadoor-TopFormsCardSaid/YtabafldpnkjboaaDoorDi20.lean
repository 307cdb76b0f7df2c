/- Diagrams of families: FromFamily of both sides. No condition. -/
import Derived.Test.YtabafldpnkjboaaDoorDi19
set_option linter.unusedVariables false
set_option linter.unusedSectionVars false
set_option linter.unusedSimpArgs false
set_option maxHeartbeats 4000000
set_option maxRecDepth 20000
namespace Go.Proofs.YtabafldpnkjboaaDoor
open Go Go.Sy Go.Bp Go.Dg
attribute [local irreducible] AO AL AC OpT ACall Ends DGo DRun Thn Blk Nxt
variable {n N M T k i m r a b j w u v s q x y d : Nat} {z : Bool} {xs : List Nat} {e : Int} {p : Nat → Bool}
theorem ff1_ok (hl : xs.length = M) (hM : M < 2 ^ 40) : ACall Tryd.prog 24 [.val (.int .u16 (U s)), .ipt [.isl z (cX xs) M] 0] [] 0 (.val (.bool (hasA xs s))) [] := by
  have h := PLift.up (facc_ok (z := z) (s := s) hl (by omega))
  refine ACall.enter Tryd.func24 rfl (by simp [Tryd.ntmps24]) (by simp) ?_; simp only [entry, idx, Tryd.ntmps24, List.length, List.map_cons, List.map_nil, List.append_nil, List.cons_append, List.nil_append, Nat.reduceAdd, Nat.zero_add, List.length_cons, List.length_nil]
  repeat' (first | apply AC_seq | apply AC_region_lit | ((first | refine AL_go rfl (fun K hK => ?_) | refine AL_go0 (fun K hK => ?_)); (first | refine R_callG (f := 15) [] 0 false ?_); simp -dsimp (disch := try exact vD) only [push_cast, simprocAttr]; (repeat refine aI ?_); intro G hG; refine hG _ _ ?_; clear hG G; (first | refine ⟨_, _, h.down, ?_⟩); simp -dsimp (disch := try exact vD) only [push_cast, simprocAttr]; (repeat refine aI ?_); apply hK; clear hK K) | ((first | refine AL_go rfl (fun K hK => ?_) | refine AL_go0 (fun K hK => ?_)); (first | apply R_move | apply R_assign | apply Q_load | apply Q_loadAgg); simp -dsimp (disch := try exact vD) only [push_cast, simprocAttr]; (repeat refine aI ?_); apply hK; clear hK K) | ((first | refine AL_guard rfl rfl (fun K1 K2 h1 h2 => ?_) rfl | refine AC_cond_k (fun K1 K2 h1 h2 => ?_)); simp -dsimp (disch := try exact vD) only [push_cast, simprocAttr]; (first | (refine ⟨fun hc => ?_, fun hc => ?_⟩ <;> first | (exfalso; omega) | (exfalso; contradiction) | refine h1 ?_ | refine h2 ?_) | refine h1 ?_ | refine h2 ?_); all_goals clear h1 h2 K1 K2) | apply AL_nil | apply Thn_normal | apply Thn_ret | apply Thn_exit | apply Blk_normal | apply Blk_ret | apply Blk_here | (refine Blk_other rfl ?_) | apply AC_block | apply AC_exit | apply AC_skip | apply AC_ret)
  all_goals (refine Ends.mk2 (by first | exact .inr rfl | exact .inl rfl) [] ?_; simp -dsimp (disch := try exact vD) only [push_cast, simprocAttr, Tryd.f24]; (repeat refine aI ?_); try (first | exact vI | fail))
theorem ff_ok (hn : n ≤ 12) (hl : xs.length = M) (hM : M ≤ 400) (he : famE xs = 0) (hs : supA xs M % 65536 < 2 ^ n) :
    ACall Tryd.prog 7 [.val (.int .i64 n), .isl z (cX xs) M] [] 0 (.tup [dgV ((fromT n (hasA xs)).1.length == 0) n (fromT n (hasA xs)).1 (fromT n (hasA xs)).2, .val (.int .i64 0)]) [] := by
  have hv := PLift.up (fvalid_ok (z := z) hl hM)
  have hsu := PLift.up (support_ok (z := z) hl (by omega))
  have ht := PLift.up (table_ok (n := n) (A := 24) (c1 := [.isl z (cX xs) M]) (tab := hasA xs) (by omega) (fun s _ => ff1_ok hl (by omega)))
  rw [he] at hv
  have hd : supA xs M % 65536 / 2 ^ n = 0 := (Nat.div_eq_zero_iff_lt (Nat.two_pow_pos n)).2 hs
  unfold dgV at *
  generalize ((fromT n (hasA xs)).1.length == 0) = zb at ht ⊢
  generalize fromT n (hasA xs) = R at ht ⊢
  refine ACall.enter Tryd.func7 rfl (by simp [Tryd.ntmps7]) (by simp) ?_; simp only [entry, idx, Tryd.ntmps7, List.length, List.map_cons, List.map_nil, List.append_nil, List.cons_append, List.nil_append, Nat.reduceAdd, Nat.zero_add, List.length_cons, List.length_nil]
  repeat' (first | ((first | refine AC_frzS (r := 8) 0 ?_ | refine AC_frzR (r := 8) 0 ?_); simp -dsimp (disch := try exact vD) only [push_cast, simprocAttr, hd]; (repeat refine aI ?_); intro K hK; refine hK _ _ ?_; clear hK K) | apply AC_seq | apply AC_region_lit | ((first | refine AL_go rfl (fun K hK => ?_) | refine AL_go0 (fun K hK => ?_)); (first | refine R_callG (f := 20) [] 0 false ?_ | refine R_callG (f := 22) [] 0 false ?_ | refine R_callG (f := 23) [] 0 false ?_); simp -dsimp (disch := try exact vD) only [push_cast, simprocAttr, hd]; (repeat refine aI ?_); intro G hG; refine hG _ _ ?_; clear hG G; (first | refine ⟨_, _, hv.down, ?_⟩ | refine ⟨_, _, hsu.down, ?_⟩ | refine ⟨_, _, ht.down, ?_⟩); simp -dsimp (disch := try exact vD) only [push_cast, simprocAttr, hd]; (repeat refine aI ?_); apply hK; clear hK K) | ((first | refine AL_go rfl (fun K hK => ?_) | refine AL_go0 (fun K hK => ?_)); (first | apply R_move | apply R_assign | apply Q_load | apply Q_loadAgg | apply Q_pick | apply Q_box | apply R_alloc | apply Q_store | apply Q_build | apply Q_buildArr | apply Q_makeFunc | apply Q_eqAgg | apply Q_neqAgg | apply Q_neqSelf | apply Q_bin); simp -dsimp (disch := try exact vD) only [push_cast, simprocAttr, hd]; (repeat refine aI ?_); apply hK; clear hK K) | ((first | refine AL_guard rfl rfl (fun K1 K2 h1 h2 => ?_) rfl | refine AC_cond_k (fun K1 K2 h1 h2 => ?_)); simp -dsimp (disch := try exact vD) only [push_cast, simprocAttr, hd]; (first | (refine ⟨fun hc => ?_, fun hc => ?_⟩ <;> first | (exfalso; omega) | (exfalso; contradiction) | refine h1 ?_ | refine h2 ?_) | refine h1 ?_ | refine h2 ?_); all_goals clear h1 h2 K1 K2) | apply AL_nil | apply Thn_normal | apply Thn_ret | apply Thn_exit | apply Blk_normal | apply Blk_ret | apply Blk_here | (refine Blk_other rfl ?_) | apply AC_block | apply AC_exit | apply AC_skip | apply AC_ret)
  all_goals first
    | ((refine Ends.mk2 (by first | exact .inr rfl | exact .inl rfl) [] ?_; simp -dsimp (disch := try exact vD) only [push_cast, simprocAttr, Tryd.f7]; (repeat refine aI ?_); try (first | exact vI | fail)); done)
    | trace_state
abbrev zDO : AObj := .cells [.val (.int .i64 0), .isl true [] 0, .val (.int .i64 0)] 37
end Go.Proofs.YtabafldpnkjboaaDoor
