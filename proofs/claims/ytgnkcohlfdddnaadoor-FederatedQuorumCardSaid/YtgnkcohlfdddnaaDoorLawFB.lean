/- Federated: the laws of Spread, Quorum, Union. No condition. -/
import Derived.Test.YtgnkcohlfdddnaaDoorLawFA
set_option linter.unusedVariables false
set_option linter.unusedSectionVars false
set_option linter.unusedSimpArgs false
set_option maxHeartbeats 4000000
set_option maxRecDepth 20000
namespace Go.Proofs.YtgnkcohlfdddnaaDoor
open Go Go.Sy Go.Bp
attribute [local irreducible] AO AL AC OpT ACall Ends DGo DRun Thn Blk Nxt
variable {z zl : Bool} {n i j m q s t D : Nat} {a b : Nat} {d : List Sli} {l : List Ex}
theorem FOk.inn (h : FOk l n) {s : Nat} (hs : ∀ i, bit s i = true → i < n) : ∀ i, bit s i = true → i < l.length := fun i hi => by rw [h.len]; exact hs i hi
theorem FOk.quo (h : FOk l n) (hs : ∀ i, bit s i = true → i < n) : ACall Tryd.prog 28 [.isl zl (cR l) n, .val (.int .u16 (U s))] [] 0 (.tup [.val (.bool (isQ l s)), .val (.int .i64 0)]) [] := by
  have h1 := quorum_ok (zl := zl) (s := s) h.ok h.len
  rw [h.ch hs, if_pos rfl] at h1; exact h1
theorem FOk.grt (h : FOk l n) (hs : ∀ i, bit s i = true → i < n) : ACall Tryd.prog 24 [.isl zl (cR l) n, .val (.int .u16 (U s))] [] 0 (.tup [.val (.int .u16 (U (grt l s))), .val (.int .i64 0)]) [] := by
  have h1 := great_ok (zl := zl) (s := s) h.ok h.len
  rw [h.ch hs, if_pos rfl] at h1; exact h1
theorem FOk.spr (h : FOk l n) (hs : ∀ i, bit s i = true → i < n) : ACall Tryd.prog 18 [.isl zl (cR l) n, .val (.int .u16 (U s))] [] 0 (.tup [.val (.int .u16 (U (sdif (2 ^ n - 1) (Go.Bp.grt l (sdif (2 ^ n - 1) s))))), .val (.int .i64 0)]) [] := by
  have h1 := spread_ok (zl := zl) (s := s) h.ok h.len
  unfold sprV at h1
  rw [h.ch hs, if_pos rfl, h.len] at h1; exact h1
theorem sand_n (hn : n ≤ 6) : ∀ i, bit (sand s (2 ^ n - 1)) i = true → i < n := sand_fulln (by omega)
theorem law6 (h : Slis d D) : ACall Tryd.prog 6 [.isl z (cR d) D, .val (.int .u16 (U s))] [] 0 (.val (.bool true)) [] := by
  obtain ⟨l, n, hF, hM⟩ := made_M (z := z) h
  have h1 := hF.spr (zl := false) (s := sand s (2 ^ n - 1)) (sand_n hF.le)
  have h2 := hF.grt (zl := false) (s := sdif (2 ^ n - 1) (sand s (2 ^ n - 1))) (full_in (by have := hF.le; omega))
  have hn := hF.le
  generalize Go.Bp.grt l (sdif (2 ^ n - 1) (sand s (2 ^ n - 1))) = G at h1 h2
  have hM := PLift.up hM; have h1 := PLift.up h1; have h2 := PLift.up h2
  refine ACall.enter Tryd.func6 rfl (by simp [Tryd.ntmps6]) (by simp) ?_; simp only [entry, idx, Tryd.ntmps6, List.length, List.map_cons, List.map_nil, List.append_nil, List.cons_append, List.nil_append, Nat.reduceAdd, Nat.zero_add, List.length_cons, List.length_nil]
  repeat' (first | (refine AC_seq ?_) | (refine AC_region_lit ?_) | ((first | refine AL_go rfl (fun K hK => ?_) | refine AL_go0 (fun K hK => ?_)); (first | refine R_callG (f := 11) [] 0 false ?_ | refine R_callG (f := 12) [] 0 false ?_ | refine R_callG (f := 18) [] 0 false ?_ | refine R_callG (f := 24) [] 0 false ?_); simp -dsimp (disch := first | exact vD | fail) only [push_cast, simprocAttr]; (repeat (refine aI ?_)); intro G hG; refine hG _ _ ?_; clear hG G; (first | refine ⟨_, _, awake_ok, ?_⟩ | refine ⟨_, _, hM.down, ?_⟩ | refine ⟨_, _, h1.down, ?_⟩ | refine ⟨_, _, h2.down, ?_⟩); simp -dsimp (disch := first | exact vD | fail) only [push_cast, simprocAttr]; (repeat (refine aI ?_)); (first | refine hK _ _ _ ?_ | refine hK _ _ ?_); clear hK K) | ((first | refine AL_go rfl (fun K hK => ?_) | refine AL_go0 (fun K hK => ?_)); (first | refine R_move _ ?_ | refine R_assign _ ?_ | refine Q_len _ _ ?_ | refine Q_lenStr _ _ ?_ | refine Q_pick _ _ _ ?_ | refine Q_not _ _ ?_ | refine Q_neg _ _ ?_ | refine Q_extract _ _ ?_ | refine Q_eqAgg _ _ _ _ ?_ | refine Q_neqAgg _ _ _ _ ?_ | refine Q_neqSelf _ _ _ _ ?_ | refine Q_bin _ _ _ _ _ ?_); simp -dsimp (disch := first | exact vD | fail) only [push_cast, simprocAttr]; (repeat (refine aI ?_)); (first | refine hK _ _ _ ?_ | refine hK _ _ ?_); clear hK K) | ((first | refine AL_guard rfl rfl (fun K1 K2 h1 h2 => ?_) rfl | refine AC_cond_k (fun K1 K2 h1 h2 => ?_)); simp -dsimp (disch := first | exact vD | fail) only [push_cast, simprocAttr]; (first | (refine ⟨fun hc => ?_, fun hc => ?_⟩ <;> first | (exfalso; omega) | (exfalso; contradiction) | refine h1 ?_ | refine h2 ?_) | refine h1 ?_ | refine h2 ?_); all_goals clear h1 h2 K1 K2) | (refine AL_nil ?_) | (refine Thn_normal ?_) | (refine Thn_ret ?_) | (refine Thn_exit ?_) | (refine Blk_normal ?_) | (refine Blk_ret ?_) | (refine Blk_here ?_) | (refine Blk_other rfl ?_) | (refine AC_block ?_) | (refine AC_exit ?_) | (refine AC_skip ?_) | (refine AC_ret ?_))
  all_goals first
    | ((refine Ends.mk2 (by first | exact .inr rfl | exact .inl rfl) [] ?_; simp -dsimp (disch := first | exact vD | fail) only [push_cast, simprocAttr, Tryd.f6]; (repeat (refine aI ?_)); try (first | exact vI | fail)); done)
    | trace_state
theorem law10 (h : Slis d D) : ACall Tryd.prog 10 [.isl z (cR d) D, .val (.int .u16 (U a)), .val (.int .u16 (U b))] [] 0 (.val (.bool true)) [] := by
  obtain ⟨l, n, hF, hM⟩ := made_M (z := z) h
  have ha := sand_n (s := a) hF.le
  have hb := sand_n (s := b) hF.le
  have hab := sor_in ha hb
  have h1 := hF.quo (zl := false) ha
  have h2 := hF.quo (zl := false) hb
  have h3 := hF.quo (zl := false) hab
  have h4 := hF.grt (zl := false) ha
  have h5 := hF.grt (zl := false) hab
  have hn := hF.le
  have x1 := dmy_def; have x2 := dmy_def; have x3 := dmy_def; have x4 := dmy_def
  have x4 := grt_grow (b := sand b (2 ^ n - 1)) hF.ok.av (hF.inn ha)
  have hu := isQ_sor hF.ok.av (hF.inn ha) (hF.inn hb)
  generalize Go.Bp.grt l (sand a (2 ^ n - 1)) = G1 at h4 x4
  generalize Go.Bp.grt l (sor (sand a (2 ^ n - 1)) (sand b (2 ^ n - 1))) = G2 at h5 x4
  generalize isQ l (sand a (2 ^ n - 1)) = q1 at h1 hu
  generalize isQ l (sand b (2 ^ n - 1)) = q2 at h2 hu
  generalize isQ l (sor (sand a (2 ^ n - 1)) (sand b (2 ^ n - 1))) = q3 at h3 hu
  have hM := PLift.up hM; have h1 := PLift.up h1; have h2 := PLift.up h2; have h3 := PLift.up h3; have h4 := PLift.up h4; have h5 := PLift.up h5
  cases q1 <;> cases q2 <;> cases q3
  all_goals try (exact absurd (hu rfl rfl) (by decide))
  all_goals clear hu
  all_goals (refine ACall.enter Tryd.func10 rfl (by simp [Tryd.ntmps10]) (by simp) ?_; simp only [entry, idx, Tryd.ntmps10, List.length, List.map_cons, List.map_nil, List.append_nil, List.cons_append, List.nil_append, Nat.reduceAdd, Nat.zero_add, List.length_cons, List.length_nil])
  all_goals repeat' (first | (refine AC_seq ?_) | (refine AC_region_lit ?_) | ((first | refine AL_go rfl (fun K hK => ?_) | refine AL_go0 (fun K hK => ?_) | refine DG_run (fun K hK => ?_)); (first | refine R_callG (f := 11) [] 0 false ?_ | refine R_callG (f := 12) [] 0 false ?_); simp -dsimp (disch := first | exact vD | fail) only [push_cast, simprocAttr, x4]; (repeat (refine aI ?_)); intro G hG; refine hG _ _ ?_; clear hG G; (first | refine ⟨_, _, awake_ok, ?_⟩ | refine ⟨_, _, hM.down, ?_⟩); simp -dsimp (disch := first | exact vD | fail) only [push_cast, simprocAttr, x4]; (repeat (refine aI ?_)); (first | refine hK _ _ _ ?_ | refine hK _ _ ?_); clear hK K) | ((first | refine AL_go rfl (fun K hK => ?_) | refine AL_go0 (fun K hK => ?_) | refine DG_run (fun K hK => ?_)); (first | (refine R_callG (f := 28) [] 0 false ?_; simp -dsimp (disch := first | exact vD | fail) only [push_cast, simprocAttr, x4]; (repeat (refine aI ?_)); intro G hG; refine hG _ _ ?_; clear hG G; refine ⟨_, _, h1.down, ?_⟩; simp -dsimp (disch := first | exact vD | fail) only [push_cast, simprocAttr, x4]; (repeat (refine aI ?_)); (first | refine hK _ _ _ ?_ | refine hK _ _ ?_); clear hK K) | (refine R_callG (f := 28) [] 0 false ?_; simp -dsimp (disch := first | exact vD | fail) only [push_cast, simprocAttr, x4]; (repeat (refine aI ?_)); intro G hG; refine hG _ _ ?_; clear hG G; refine ⟨_, _, h2.down, ?_⟩; simp -dsimp (disch := first | exact vD | fail) only [push_cast, simprocAttr, x4]; (repeat (refine aI ?_)); (first | refine hK _ _ _ ?_ | refine hK _ _ ?_); clear hK K) | (refine R_callG (f := 28) [] 0 false ?_; simp -dsimp (disch := first | exact vD | fail) only [push_cast, simprocAttr, x4]; (repeat (refine aI ?_)); intro G hG; refine hG _ _ ?_; clear hG G; refine ⟨_, _, h3.down, ?_⟩; simp -dsimp (disch := first | exact vD | fail) only [push_cast, simprocAttr, x4]; (repeat (refine aI ?_)); (first | refine hK _ _ _ ?_ | refine hK _ _ ?_); clear hK K) | (refine R_callG (f := 24) [] 0 false ?_; simp -dsimp (disch := first | exact vD | fail) only [push_cast, simprocAttr, x4]; (repeat (refine aI ?_)); intro G hG; refine hG _ _ ?_; clear hG G; refine ⟨_, _, h4.down, ?_⟩; simp -dsimp (disch := first | exact vD | fail) only [push_cast, simprocAttr, x4]; (repeat (refine aI ?_)); (first | refine hK _ _ _ ?_ | refine hK _ _ ?_); clear hK K) | (refine R_callG (f := 24) [] 0 false ?_; simp -dsimp (disch := first | exact vD | fail) only [push_cast, simprocAttr, x4]; (repeat (refine aI ?_)); intro G hG; refine hG _ _ ?_; clear hG G; refine ⟨_, _, h5.down, ?_⟩; simp -dsimp (disch := first | exact vD | fail) only [push_cast, simprocAttr, x4]; (repeat (refine aI ?_)); (first | refine hK _ _ _ ?_ | refine hK _ _ ?_); clear hK K))) | ((first | refine AL_go rfl (fun K hK => ?_) | refine AL_go0 (fun K hK => ?_) | refine DG_run (fun K hK => ?_)); (first | refine R_move _ ?_ | refine R_assign _ ?_ | refine Q_len _ _ ?_ | refine Q_lenStr _ _ ?_ | refine Q_pick _ _ _ ?_ | refine Q_not _ _ ?_ | refine Q_neg _ _ ?_ | refine Q_extract _ _ ?_ | refine Q_eqAgg _ _ _ _ ?_ | refine Q_neqAgg _ _ _ _ ?_ | refine Q_neqSelf _ _ _ _ ?_ | refine Q_bin _ _ _ _ _ ?_); simp -dsimp (disch := first | exact vD | fail) only [push_cast, simprocAttr, x4]; (repeat (refine aI ?_)); (first | refine hK _ _ _ ?_ | refine hK _ _ ?_); clear hK K) | ((first | refine AL_guard rfl rfl (fun K1 K2 h1 h2 => ?_) rfl | refine AC_cond_k (fun K1 K2 h1 h2 => ?_) | refine DG_guard rfl rfl (fun K1 K2 h1 h2 => ?_)); simp -dsimp (disch := first | exact vD | fail) only [push_cast, simprocAttr, x4]; (first | (refine ⟨fun hc => ?_, fun hc => ?_⟩ <;> first | (exfalso; omega) | (exfalso; contradiction) | refine h1 ?_ | refine h2 ?_) | refine h1 ?_ | refine h2 ?_); all_goals clear h1 h2 K1 K2) | (refine AC_draw (id := 4) (by kernel_rfl) [⟨0, [], [23, 24, 25, 26, 28, 29, 30, 31, 32, 33], [], [], 0⟩, ⟨1, [], [22, 28, 29, 30, 31, 32, 33], [], [], 0⟩, ⟨2, [1], [22, 28, 29, 30, 31, 32, 33], [], [], 0⟩, ⟨3, [1, 2], [22, 28, 29, 30, 31, 32, 33], [], [], 0⟩, ⟨4, [1, 2, 3], [22, 28, 29, 30, 31, 32, 33], [], [], 0⟩, ⟨5, [0, 1, 2, 3, 4], [28, 29, 30, 31, 32, 33], [], [], 0⟩, ⟨6, [], [1, 22, 23, 24, 25, 26, 27, 29, 30, 31, 32], [], [], 0⟩, ⟨7, [], [1, 22, 23, 24, 25, 26, 27, 28], [], [], 0⟩, ⟨8, [7], [1, 22, 23, 24, 25, 26, 27, 28], [], [], 0⟩, ⟨9, [7, 8], [1, 22, 23, 24, 25, 26, 27, 28], [], [], 0⟩, ⟨10, [7, 8, 9], [1, 22, 23, 24, 25, 26, 27, 28], [], [], 0⟩, ⟨11, [6, 7, 8, 9, 10], [1, 22, 23, 24, 25, 26, 27], [], [], 0⟩, ⟨12, [0, 1, 2, 3, 4, 5], [28, 29, 30, 31, 32, 33], [], [], 0⟩, ⟨13, [0, 1, 2, 3, 4, 5, 6, 7, 8, 9, 10, 11, 12], [], [], [], 0⟩] (by kernel_rfl) (by kernel_rfl) (by kernel_rfl) ?_) | ((first | refine DG_next' (by kernel_rfl) (fun K hK => ?_) | refine DG_nil (by kernel_rfl) (fun K hK => ?_)); simp only [↓Go.Sy.dsnE_some, ↓Go.Sy.dsnE_none, ↓Go.Sy.dsnE_nil, ↓Go.Sy.dsnO_snoc, ↓Go.Sy.dsnO_nil, ↓Go.Sy.nidAt_snoc, ↓Go.Sy.nidAt_nil, push_cast, Nat.reduceLeDiff, Nat.reduceSub, Nat.reduceBEq, Nat.reduceEqDiff, Nat.reduceAdd, Nat.reduceLT, ↓reduceIte, reduceCtorEq]; refine hK _ _ _ ?_; clear hK K) | (refine DG_go ?_) | (refine AL_nil ?_) | (refine Thn_normal ?_) | (refine Thn_ret ?_) | (refine Thn_exit ?_) | (refine Blk_normal ?_) | (refine Blk_ret ?_) | (refine Blk_here ?_) | (refine Blk_other rfl ?_) | (refine AC_block ?_) | (refine AC_exit ?_) | (refine AC_skip ?_) | (refine AC_ret ?_))
  all_goals first
    | ((refine Ends.mk2 (by first | exact .inr rfl | exact .inl rfl) [] ?_; simp -dsimp (disch := first | exact vD | fail) only [push_cast, simprocAttr, Tryd.f10, x4]; (repeat (refine aI ?_)); try (first | exact vI | fail)); done)
    | trace_state
theorem law9a (hF : FOk l n) (hM : ACall Tryd.prog 12 [.isl z (cR d) D] [] 0 (.isl false (cR l) n) []) (x1 : chE l s = 0) : ACall Tryd.prog 9 [.isl z (cR d) D, .val (.int .u16 (U s)), .val (.int .u16 (U q))] [] 0 (.val (.bool true)) [] := by
  have h1 := quorum_ok (zl := false) (s := s) hF.ok hF.len
  have h2 := rquorum_ok (zl := false) (s := s) hF.ok hF.len
  have h3 := great_ok (zl := false) (s := s) hF.ok hF.len
  have h4 := rgreat_ok (zl := false) (s := s) hF.ok hF.len
  have x2 := dmy_def; have x3 := dmy_def; have x4 := dmy_def; have x5 := dmy_def; have x6 := dmy_def; have x7 := dmy_def
  have hn := hF.le
  have hs : ∀ i, bit s i = true → i < n := fun i hi => by rw [← hF.len]; exact chE_sub x1 (by rw [hF.len]; omega) i hi
  have hx : ∀ i, bit (Go.Bp.grt l s) i = true → i < n := fun i hi => hs i (grt_sub hi)
  have h5 := hF.quo (zl := false) hx
  have h6 := hF.quo (zl := false) (s := sand q s) (sand_in hs)
  rw [grt_isQ (hF.inn hs)] at h5
  have x2 : sdif (Go.Bp.grt l s) s % 65536 = 0 := grt_in
  have hu := inner_grt (q := q) hF.ok.av (hF.inn hs)
  rw [x1, if_pos rfl] at h1 h2 h3 h4
  generalize Go.Bp.grt l s = G at h3 h4 h5 x2 hu
  generalize isQ l (sand q s) = q1 at h6 hu
  generalize isQ l s = q2 at h1 h2
  have hM := PLift.up hM; have h1 := PLift.up h1; have h2 := PLift.up h2; have h3 := PLift.up h3; have h4 := PLift.up h4; have h5 := PLift.up h5; have h6 := PLift.up h6
  clear hs hx
  have x3 : q1 = true → sdif (sand q s) G % 65536 = 0 := hu
  rcases Decidable.em (G % 65536 = 0) with x4 | x4 <;> cases q1
  all_goals simp only [x4, decide_true, decide_false, Bool.not_true, Bool.not_false] at h5
  all_goals try (have x5 := hu rfl)
  all_goals try (have x6 : sdif 0 s % 65536 = 0 := sub_bit.2 (fun i h => by rw [bit_0] at h; cases h); have g := zero_bit.1 x4; have x7 : sdif (sand q s) 0 % 65536 = 0 := sub_bit.2 (fun i h => by have := sub_bit.1 x5 i h; rw [g i (bit_lt this)] at this; cases this); clear g)
  all_goals try (have x6 : sdif 0 s % 65536 = 0 := sub_bit.2 (fun i h => by rw [bit_0] at h; cases h))
  all_goals clear hu x3
  all_goals (refine ACall.enter Tryd.func9 rfl (by simp [Tryd.ntmps9]) (by simp) ?_; simp only [entry, idx, Tryd.ntmps9, List.length, List.map_cons, List.map_nil, List.append_nil, List.cons_append, List.nil_append, Nat.reduceAdd, Nat.zero_add, List.length_cons, List.length_nil])
  all_goals repeat' (first | (refine AC_seq ?_) | (refine AC_region_lit ?_) | ((first | refine AL_go rfl (fun K hK => ?_) | refine AL_go0 (fun K hK => ?_)); (first | refine R_callG (f := 11) [] 0 false ?_ | refine R_callG (f := 12) [] 0 false ?_ | refine R_callG (f := 34) [] 0 false ?_ | refine R_callG (f := 24) [] 0 false ?_ | refine R_callG (f := 35) [] 0 false ?_); simp -dsimp (disch := first | exact vD | fail) only [push_cast, simprocAttr, beq_self_eq_true, bne_self_eq_false, x2, x4, x5, x6, x7]; (repeat (refine aI ?_)); intro G hG; refine hG _ _ ?_; clear hG G; (first | refine ⟨_, _, awake_ok, ?_⟩ | refine ⟨_, _, hM.down, ?_⟩ | refine ⟨_, _, h2.down, ?_⟩ | refine ⟨_, _, h3.down, ?_⟩ | refine ⟨_, _, h4.down, ?_⟩); simp -dsimp (disch := first | exact vD | fail) only [push_cast, simprocAttr, beq_self_eq_true, bne_self_eq_false, x2, x4, x5, x6, x7]; (repeat (refine aI ?_)); (first | refine hK _ _ _ ?_ | refine hK _ _ ?_); clear hK K) | ((first | refine AL_go rfl (fun K hK => ?_) | refine AL_go0 (fun K hK => ?_)); (first | (refine R_callG (f := 28) [] 0 false ?_; simp -dsimp (disch := first | exact vD | fail) only [push_cast, simprocAttr, beq_self_eq_true, bne_self_eq_false, x2, x4, x5, x6, x7]; (repeat (refine aI ?_)); intro G hG; refine hG _ _ ?_; clear hG G; refine ⟨_, _, h1.down, ?_⟩; simp -dsimp (disch := first | exact vD | fail) only [push_cast, simprocAttr, beq_self_eq_true, bne_self_eq_false, x2, x4, x5, x6, x7]; (repeat (refine aI ?_)); (first | refine hK _ _ _ ?_ | refine hK _ _ ?_); clear hK K) | (refine R_callG (f := 28) [] 0 false ?_; simp -dsimp (disch := first | exact vD | fail) only [push_cast, simprocAttr, beq_self_eq_true, bne_self_eq_false, x2, x4, x5, x6, x7]; (repeat (refine aI ?_)); intro G hG; refine hG _ _ ?_; clear hG G; refine ⟨_, _, h5.down, ?_⟩; simp -dsimp (disch := first | exact vD | fail) only [push_cast, simprocAttr, beq_self_eq_true, bne_self_eq_false, x2, x4, x5, x6, x7]; (repeat (refine aI ?_)); (first | refine hK _ _ _ ?_ | refine hK _ _ ?_); clear hK K) | (refine R_callG (f := 28) [] 0 false ?_; simp -dsimp (disch := first | exact vD | fail) only [push_cast, simprocAttr, beq_self_eq_true, bne_self_eq_false, x2, x4, x5, x6, x7]; (repeat (refine aI ?_)); intro G hG; refine hG _ _ ?_; clear hG G; refine ⟨_, _, h6.down, ?_⟩; simp -dsimp (disch := first | exact vD | fail) only [push_cast, simprocAttr, beq_self_eq_true, bne_self_eq_false, x2, x4, x5, x6, x7]; (repeat (refine aI ?_)); (first | refine hK _ _ _ ?_ | refine hK _ _ ?_); clear hK K))) | ((first | refine AL_go rfl (fun K hK => ?_) | refine AL_go0 (fun K hK => ?_)); (first | refine R_move _ ?_ | refine R_assign _ ?_ | refine Q_pick _ _ _ ?_ | refine Q_not _ _ ?_ | refine Q_neg _ _ ?_ | refine Q_extract _ _ ?_ | refine Q_eqAgg _ _ _ _ ?_ | refine Q_neqAgg _ _ _ _ ?_ | refine Q_neqSelf _ _ _ _ ?_ | refine Q_bin _ _ _ _ _ ?_); simp -dsimp (disch := first | exact vD | fail) only [push_cast, simprocAttr, beq_self_eq_true, bne_self_eq_false, x2, x4, x5, x6, x7]; (repeat (refine aI ?_)); (first | refine hK _ _ _ ?_ | refine hK _ _ ?_); clear hK K) | ((first | refine AL_guard rfl rfl (fun K1 K2 h1 h2 => ?_) rfl | refine AC_cond_k (fun K1 K2 h1 h2 => ?_)); simp -dsimp (disch := first | exact vD | fail) only [push_cast, simprocAttr, beq_self_eq_true, bne_self_eq_false, x2, x4, x5, x6, x7]; (first | (refine ⟨fun hc => ?_, fun hc => ?_⟩ <;> first | (exfalso; omega) | (exfalso; contradiction) | refine h1 ?_ | refine h2 ?_) | refine h1 ?_ | refine h2 ?_); all_goals clear h1 h2 K1 K2) | (refine AL_nil ?_) | (refine Thn_normal ?_) | (refine Thn_ret ?_) | (refine Thn_exit ?_) | (refine Blk_normal ?_) | (refine Blk_ret ?_) | (refine Blk_here ?_) | (refine Blk_other rfl ?_) | (refine AC_block ?_) | (refine AC_exit ?_) | (refine AC_skip ?_) | (refine AC_ret ?_))
  all_goals first
    | ((refine Ends.mk2 (by first | exact .inr rfl | exact .inl rfl) [] ?_; simp -dsimp (disch := first | exact vD | fail) only [push_cast, simprocAttr, Tryd.f9, x2, x4, x5, x6, x7]; (repeat (refine aI ?_)); try (first | exact vI | fail)); done)
    | trace_state
theorem law9b (hF : FOk l n) (hM : ACall Tryd.prog 12 [.isl z (cR d) D] [] 0 (.isl false (cR l) n) []) (x1 : ¬ chE l s = 0) : ACall Tryd.prog 9 [.isl z (cR d) D, .val (.int .u16 (U s)), .val (.int .u16 (U q))] [] 0 (.val (.bool true)) [] := by
  have h1 := quorum_ok (zl := false) (s := s) hF.ok hF.len
  have h2 := rquorum_ok (zl := false) (s := s) hF.ok hF.len
  have h3 := great_ok (zl := false) (s := s) hF.ok hF.len
  have h4 := rgreat_ok (zl := false) (s := s) hF.ok hF.len
  rw [if_neg x1] at h1 h2 h3 h4
  generalize chE l s = e at h1 h2 h3 h4 x1
  have hM := PLift.up hM
  have h1 := PLift.up h1; have h2 := PLift.up h2; have h3 := PLift.up h3; have h4 := PLift.up h4
  have hn := hF.le
  refine ACall.enter Tryd.func9 rfl (by simp [Tryd.ntmps9]) (by simp) ?_; simp only [entry, idx, Tryd.ntmps9, List.length, List.map_cons, List.map_nil, List.append_nil, List.cons_append, List.nil_append, Nat.reduceAdd, Nat.zero_add, List.length_cons, List.length_nil]
  repeat' (first | (refine AC_seq ?_) | (refine AC_region_lit ?_) | ((first | refine AL_go rfl (fun K hK => ?_) | refine AL_go0 (fun K hK => ?_)); (first | refine R_callG (f := 11) [] 0 false ?_ | refine R_callG (f := 12) [] 0 false ?_ | refine R_callG (f := 28) [] 0 false ?_ | refine R_callG (f := 34) [] 0 false ?_ | refine R_callG (f := 24) [] 0 false ?_ | refine R_callG (f := 35) [] 0 false ?_); simp -dsimp (disch := first | exact vD | fail) only [push_cast, simprocAttr, beq_self_eq_true, bne_self_eq_false, x1]; (repeat (refine aI ?_)); intro G hG; refine hG _ _ ?_; clear hG G; (first | refine ⟨_, _, awake_ok, ?_⟩ | refine ⟨_, _, hM.down, ?_⟩ | refine ⟨_, _, h1.down, ?_⟩ | refine ⟨_, _, h2.down, ?_⟩ | refine ⟨_, _, h3.down, ?_⟩ | refine ⟨_, _, h4.down, ?_⟩); simp -dsimp (disch := first | exact vD | fail) only [push_cast, simprocAttr, beq_self_eq_true, bne_self_eq_false, x1]; (repeat (refine aI ?_)); (first | refine hK _ _ _ ?_ | refine hK _ _ ?_); clear hK K) | ((first | refine AL_go rfl (fun K hK => ?_) | refine AL_go0 (fun K hK => ?_)); (first | refine R_move _ ?_ | refine R_assign _ ?_ | refine Q_pick _ _ _ ?_ | refine Q_not _ _ ?_ | refine Q_neg _ _ ?_ | refine Q_extract _ _ ?_ | refine Q_eqAgg _ _ _ _ ?_ | refine Q_neqAgg _ _ _ _ ?_ | refine Q_neqSelf _ _ _ _ ?_ | refine Q_bin _ _ _ _ _ ?_); simp -dsimp (disch := first | exact vD | fail) only [push_cast, simprocAttr, beq_self_eq_true, bne_self_eq_false, x1]; (repeat (refine aI ?_)); (first | refine hK _ _ _ ?_ | refine hK _ _ ?_); clear hK K) | ((first | refine AL_guard rfl rfl (fun K1 K2 h1 h2 => ?_) rfl | refine AC_cond_k (fun K1 K2 h1 h2 => ?_)); simp -dsimp (disch := first | exact vD | fail) only [push_cast, simprocAttr, beq_self_eq_true, bne_self_eq_false, x1]; (first | (refine ⟨fun hc => ?_, fun hc => ?_⟩ <;> first | (exfalso; omega) | (exfalso; contradiction) | refine h1 ?_ | refine h2 ?_) | refine h1 ?_ | refine h2 ?_); all_goals clear h1 h2 K1 K2) | (refine AL_nil ?_) | (refine Thn_normal ?_) | (refine Thn_ret ?_) | (refine Thn_exit ?_) | (refine Blk_normal ?_) | (refine Blk_ret ?_) | (refine Blk_here ?_) | (refine Blk_other rfl ?_) | (refine AC_block ?_) | (refine AC_exit ?_) | (refine AC_skip ?_) | (refine AC_ret ?_))
  all_goals first
    | ((refine Ends.mk2 (by first | exact .inr rfl | exact .inl rfl) [] ?_; simp -dsimp (disch := first | exact vD | fail) only [push_cast, simprocAttr, Tryd.f9, x1]; (repeat (refine aI ?_)); try (first | exact vI | fail)); done)
    | trace_state
theorem law9 (h : Slis d D) : ACall Tryd.prog 9 [.isl z (cR d) D, .val (.int .u16 (U s)), .val (.int .u16 (U q))] [] 0 (.val (.bool true)) [] := by
  obtain ⟨l, n, hF, hM⟩ := made_M (z := z) h
  rcases Decidable.em (chE l s = 0) with x1 | x1
  · exact law9a hF hM x1
  · exact law9b hF hM x1
end Go.Proofs.YtgnkcohlfdddnaaDoor
