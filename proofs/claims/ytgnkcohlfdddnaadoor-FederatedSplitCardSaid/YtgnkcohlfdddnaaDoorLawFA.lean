/- Federated: the laws of Minimal, Blocks, Split. No condition. -/
import Derived.Test.YtgnkcohlfdddnaaDoorFe28
import Derived.Test.YtgnkcohlfdddnaaDoorFeM
import Derived.Test.YtgnkcohlfdddnaaDoorFe23
import Derived.Test.YtgnkcohlfdddnaaDoorBpB
set_option linter.unusedVariables false
set_option linter.unusedSectionVars false
set_option linter.unusedSimpArgs false
set_option maxHeartbeats 4000000
set_option maxRecDepth 20000
namespace Go.Proofs.YtgnkcohlfdddnaaDoor
open Go Go.Sy Go.Bp
attribute [local irreducible] AO AL AC OpT ACall Ends DGo DRun Thn Blk Nxt
variable {z zl : Bool} {n i j m q s D : Nat} {a : Int} {d : List Sli} {l : List Ex}
structure Slis (d : List Sli) (D : Nat) : Prop where
  len : d.length = D
  lt : D < 2^47
  u8 : ∀ i, i < D → (d.getD i default).a < 256 ∧ (d.getD i default).m < 256
theorem made_M (h : Slis d D) : ∃ l n, FOk l n ∧ ACall Tryd.prog 12 [.isl z (cR d) D] [] 0 (.isl false (cR l) n) [] :=
  ⟨made d, (made d).length, made_F, made_ok h.len h.lt h.u8⟩
theorem FOk.qlen (h : FOk l n) : (minQ l 0).length < 2^47 := by
  have := minQ_len (l := l) (d := 0) (by have := h.len; have := h.le; omega)
  omega
theorem law3 (h : Slis d D) : ACall Tryd.prog 3 [.isl z (cR d) D] [] 0 (.val (.bool true)) [] := by
  obtain ⟨l, n, hF, hM⟩ := made_M (z := z) h
  have h1 := minimal_ok (zl := false) hF.ok hF.len hF.le
  have h2 := rminimal_ok (zl := false) hF.ok hF.len hF.le
  rw [hF.min] at h1 h2
  unfold lsV at h1 h2
  have hq := hF.qlen
  dsimp only at h1 h2
  generalize minQ l 0 = Q at h1 h2 hq
  generalize hql : Q.length = qn at h1 h2 hq
  have hM := PLift.up hM; have h1 := PLift.up h1; have h2 := PLift.up h2
  refine ACall.enter Tryd.func3 rfl (by simp [Tryd.ntmps3]) (by simp) ?_; simp only [entry, idx, Tryd.ntmps3, List.length, List.map_cons, List.map_nil, List.append_nil, List.cons_append, List.nil_append, Nat.reduceAdd, Nat.zero_add, List.length_cons, List.length_nil]
  repeat' (first | (refine AC_seq ?_) | (refine AC_region_lit ?_) | ((first | refine AL_go rfl (fun K hK => ?_) | refine AL_go0 (fun K hK => ?_)); (first | refine R_callG (f := 11) [] 0 false ?_ | refine R_callG (f := 12) [] 0 false ?_ | refine R_callG (f := 13) [] 0 false ?_ | refine R_callG (f := 14) [] 0 false ?_ | refine R_callG (f := 15) [] 0 false ?_); simp -dsimp (disch := first | exact vD | fail) only [push_cast, simprocAttr]; (repeat (refine aI ?_)); intro G hG; refine hG _ _ ?_; clear hG G; (first | refine ⟨_, _, awake_ok, ?_⟩ | refine ⟨_, _, hM.down, ?_⟩ | refine ⟨_, _, h1.down, ?_⟩ | refine ⟨_, _, h2.down, ?_⟩ | refine ⟨_, _, same8_ok hql hq, ?_⟩); simp -dsimp (disch := first | exact vD | fail) only [push_cast, simprocAttr]; (repeat (refine aI ?_)); (first | refine hK _ _ _ ?_ | refine hK _ _ ?_); clear hK K) | ((first | refine AL_go rfl (fun K hK => ?_) | refine AL_go0 (fun K hK => ?_)); (first | refine R_move _ ?_ | refine R_assign _ ?_ | refine Q_pick _ _ _ ?_ | refine Q_not _ _ ?_ | refine Q_neg _ _ ?_ | refine Q_extract _ _ ?_ | refine Q_eqAgg _ _ _ _ ?_ | refine Q_neqAgg _ _ _ _ ?_ | refine Q_neqSelf _ _ _ _ ?_ | refine Q_bin _ _ _ _ _ ?_); simp -dsimp (disch := first | exact vD | fail) only [push_cast, simprocAttr]; (repeat (refine aI ?_)); (first | refine hK _ _ _ ?_ | refine hK _ _ ?_); clear hK K) | ((first | refine AL_guard rfl rfl (fun K1 K2 h1 h2 => ?_) rfl | refine AC_cond_k (fun K1 K2 h1 h2 => ?_)); simp -dsimp (disch := first | exact vD | fail) only [push_cast, simprocAttr]; (first | (refine ⟨fun hc => ?_, fun hc => ?_⟩ <;> first | (exfalso; omega) | (exfalso; contradiction) | refine h1 ?_ | refine h2 ?_) | refine h1 ?_ | refine h2 ?_); all_goals clear h1 h2 K1 K2) | (refine AL_nil ?_) | (refine Thn_normal ?_) | (refine Thn_ret ?_) | (refine Thn_exit ?_) | (refine Blk_normal ?_) | (refine Blk_ret ?_) | (refine Blk_here ?_) | (refine Blk_other rfl ?_) | (refine AC_block ?_) | (refine AC_exit ?_) | (refine AC_skip ?_) | (refine AC_ret ?_))
  all_goals first
    | ((refine Ends.mk2 (by first | exact .inr rfl | exact .inl rfl) [] ?_; simp -dsimp (disch := first | exact vD | fail) only [push_cast, simprocAttr, Tryd.f3]; (repeat (refine aI ?_)); try (first | exact vI | fail)); done)
    | trace_state
theorem law4 (h : Slis d D) : ACall Tryd.prog 4 [.isl z (cR d) D, .val (.int .i64 a), .val (.int .u16 (U s))] [] 0 (.val (.bool true)) [] := by
  obtain ⟨l, n, hF, hM⟩ := made_M (z := z) h
  have h1 := blocks_ok (zl := false) (a := a) (s := s) hF.ok hF.len
  have h2 := rblocks_ok (zl := false) (a := a) (s := s) hF.ok hF.len
  have h3 := spread_ok (zl := false) (s := s) hF.ok hF.len
  have h4 := rspread_ok (zl := false) (s := s) hF.ok hF.len
  generalize blB l a s = r1 at h1 h2
  generalize blE l a s = r2 at h1 h2
  generalize sprV l s = r3 at h3 h4
  generalize chE l s = r4 at h3 h4
  have hM := PLift.up hM; have h1 := PLift.up h1; have h2 := PLift.up h2; have h3 := PLift.up h3; have h4 := PLift.up h4
  refine ACall.enter Tryd.func4 rfl (by simp [Tryd.ntmps4]) (by simp) ?_; simp only [entry, idx, Tryd.ntmps4, List.length, List.map_cons, List.map_nil, List.append_nil, List.cons_append, List.nil_append, Nat.reduceAdd, Nat.zero_add, List.length_cons, List.length_nil]
  repeat' (first | (refine AC_seq ?_) | (refine AC_region_lit ?_) | ((first | refine AL_go rfl (fun K hK => ?_) | refine AL_go0 (fun K hK => ?_)); (first | refine R_callG (f := 11) [] 0 false ?_ | refine R_callG (f := 12) [] 0 false ?_ | refine R_callG (f := 16) [] 0 false ?_ | refine R_callG (f := 17) [] 0 false ?_ | refine R_callG (f := 18) [] 0 false ?_ | refine R_callG (f := 19) [] 0 false ?_); simp -dsimp (disch := first | exact vD | fail) only [push_cast, simprocAttr, beq_self_eq_true, bne_self_eq_false]; (repeat (refine aI ?_)); intro G hG; refine hG _ _ ?_; clear hG G; (first | refine ⟨_, _, awake_ok, ?_⟩ | refine ⟨_, _, hM.down, ?_⟩ | refine ⟨_, _, h1.down, ?_⟩ | refine ⟨_, _, h2.down, ?_⟩ | refine ⟨_, _, h3.down, ?_⟩ | refine ⟨_, _, h4.down, ?_⟩); simp -dsimp (disch := first | exact vD | fail) only [push_cast, simprocAttr, beq_self_eq_true, bne_self_eq_false]; (repeat (refine aI ?_)); (first | refine hK _ _ _ ?_ | refine hK _ _ ?_); clear hK K) | ((first | refine AL_go rfl (fun K hK => ?_) | refine AL_go0 (fun K hK => ?_)); (first | refine R_move _ ?_ | refine R_assign _ ?_ | refine Q_pick _ _ _ ?_ | refine Q_not _ _ ?_ | refine Q_neg _ _ ?_ | refine Q_extract _ _ ?_ | refine Q_eqAgg _ _ _ _ ?_ | refine Q_neqAgg _ _ _ _ ?_ | refine Q_neqSelf _ _ _ _ ?_ | refine Q_bin _ _ _ _ _ ?_); simp -dsimp (disch := first | exact vD | fail) only [push_cast, simprocAttr, beq_self_eq_true, bne_self_eq_false]; (repeat (refine aI ?_)); (first | refine hK _ _ _ ?_ | refine hK _ _ ?_); clear hK K) | ((first | refine AL_guard rfl rfl (fun K1 K2 h1 h2 => ?_) rfl | refine AC_cond_k (fun K1 K2 h1 h2 => ?_)); simp -dsimp (disch := first | exact vD | fail) only [push_cast, simprocAttr, beq_self_eq_true, bne_self_eq_false]; (first | (refine ⟨fun hc => ?_, fun hc => ?_⟩ <;> first | (exfalso; omega) | (exfalso; contradiction) | refine h1 ?_ | refine h2 ?_) | refine h1 ?_ | refine h2 ?_); all_goals clear h1 h2 K1 K2) | (refine AL_nil ?_) | (refine Thn_normal ?_) | (refine Thn_ret ?_) | (refine Thn_exit ?_) | (refine Blk_normal ?_) | (refine Blk_ret ?_) | (refine Blk_here ?_) | (refine Blk_other rfl ?_) | (refine AC_block ?_) | (refine AC_exit ?_) | (refine AC_skip ?_) | (refine AC_ret ?_))
  all_goals first
    | ((refine Ends.mk2 (by first | exact .inr rfl | exact .inl rfl) [] ?_; simp -dsimp (disch := first | exact vD | fail) only [push_cast, simprocAttr, Tryd.f4]; (repeat (refine aI ?_)); try (first | exact vI | fail)); done)
    | trace_state
theorem law5 (h : Slis d D) : ACall Tryd.prog 5 [.isl z (cR d) D] [] 0 (.val (.bool true)) [] := by
  obtain ⟨l, n, hF, hM⟩ := made_M (z := z) h
  have h1 := split_ok (zl := false) hF.ok hF.len hF.le
  have h2 := rsplit_ok (zl := false) hF.ok hF.len hF.le
  have h3 := splitting_ok (zl := false) hF.ok hF.len hF.le hF.fl
  have h4 := rsplitting_ok (zl := false) hF.ok hF.len hF.le
  have hs := hF.split
  unfold splV at h1 h2
  unfold splgV at h3 h4
  generalize splR l = r at h1 h2 hs
  generalize splgR l = g at h3 h4 hs
  obtain ⟨ra, rb, re⟩ := r
  obtain ⟨ga, ge⟩ := g
  dsimp only at h1 h2 h3 h4 hs
  have hM := PLift.up hM; have h1 := PLift.up h1; have h2 := PLift.up h2; have h3 := PLift.up h3; have h4 := PLift.up h4
  have x1 := dmy_def; have x2 := dmy_def; have x3 := dmy_def
  rcases Decidable.em (ge = 0) with x1 | x1 <;> rcases Decidable.em (ga % 65536 = 0) with x2 | x2
  all_goals (first | (have x3 : re = 0 := hs.2 ⟨x1, x2⟩) | (have x3 : ¬ re = 0 := fun e => absurd (hs.1 e) (by simp [x1, x2])))
  all_goals clear hs
  all_goals (refine ACall.enter Tryd.func5 rfl (by simp [Tryd.ntmps5]) (by simp) ?_; simp only [entry, idx, Tryd.ntmps5, List.length, List.map_cons, List.map_nil, List.append_nil, List.cons_append, List.nil_append, Nat.reduceAdd, Nat.zero_add, List.length_cons, List.length_nil])
  all_goals repeat' (first | (refine AC_seq ?_) | (refine AC_region_lit ?_) | ((first | refine AL_go rfl (fun K hK => ?_) | refine AL_go0 (fun K hK => ?_)); (first | refine R_callG (f := 11) [] 0 false ?_ | refine R_callG (f := 12) [] 0 false ?_ | refine R_callG (f := 20) [] 0 false ?_ | refine R_callG (f := 21) [] 0 false ?_ | refine R_callG (f := 22) [] 0 false ?_ | refine R_callG (f := 23) [] 0 false ?_); simp -dsimp (disch := first | exact vD | fail) only [push_cast, simprocAttr, x1, x2, x3]; (repeat (refine aI ?_)); intro G hG; refine hG _ _ ?_; clear hG G; (first | refine ⟨_, _, awake_ok, ?_⟩ | refine ⟨_, _, hM.down, ?_⟩ | refine ⟨_, _, h1.down, ?_⟩ | refine ⟨_, _, h2.down, ?_⟩ | refine ⟨_, _, h3.down, ?_⟩ | refine ⟨_, _, h4.down, ?_⟩); simp -dsimp (disch := first | exact vD | fail) only [push_cast, simprocAttr, x1, x2, x3]; (repeat (refine aI ?_)); (first | refine hK _ _ _ ?_ | refine hK _ _ ?_); clear hK K) | ((first | refine AL_go rfl (fun K hK => ?_) | refine AL_go0 (fun K hK => ?_)); (first | refine R_move _ ?_ | refine R_assign _ ?_ | refine Q_pick _ _ _ ?_ | refine Q_not _ _ ?_ | refine Q_neg _ _ ?_ | refine Q_extract _ _ ?_ | refine Q_eqAgg _ _ _ _ ?_ | refine Q_neqAgg _ _ _ _ ?_ | refine Q_neqSelf _ _ _ _ ?_ | refine Q_bin _ _ _ _ _ ?_); simp -dsimp (disch := first | exact vD | fail) only [push_cast, simprocAttr, x1, x2, x3]; (repeat (refine aI ?_)); (first | refine hK _ _ _ ?_ | refine hK _ _ ?_); clear hK K) | ((first | refine AL_guard rfl rfl (fun K1 K2 h1 h2 => ?_) rfl | refine AC_cond_k (fun K1 K2 h1 h2 => ?_)); simp -dsimp (disch := first | exact vD | fail) only [push_cast, simprocAttr, x1, x2, x3]; (first | (refine ⟨fun hc => ?_, fun hc => ?_⟩ <;> first | (exfalso; omega) | (exfalso; contradiction) | refine h1 ?_ | refine h2 ?_) | refine h1 ?_ | refine h2 ?_); all_goals clear h1 h2 K1 K2) | (refine AL_nil ?_) | (refine Thn_normal ?_) | (refine Thn_ret ?_) | (refine Thn_exit ?_) | (refine Blk_normal ?_) | (refine Blk_ret ?_) | (refine Blk_here ?_) | (refine Blk_other rfl ?_) | (refine AC_block ?_) | (refine AC_exit ?_) | (refine AC_skip ?_) | (refine AC_ret ?_))
  all_goals first
    | ((refine Ends.mk2 (by first | exact .inr rfl | exact .inl rfl) [] ?_; simp -dsimp (disch := first | exact vD | fail) only [push_cast, simprocAttr, Tryd.f5, x1, x2, x3]; (repeat (refine aI ?_)); try (first | exact vI | fail)); done)
    | trace_state
end Go.Proofs.YtgnkcohlfdddnaaDoor
