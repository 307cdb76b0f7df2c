/- The laws' look at themselves: sederuntlaw22.awake. No condition. -/
import Derived.Test.YtgnkcohlfdddnaaDoorFeM
import Derived.Test.YtgnkcohlfdddnaaDoorFe25
set_option linter.unusedVariables false
set_option linter.unusedSectionVars false
set_option linter.unusedSimpArgs false
set_option maxHeartbeats 4000000
set_option maxRecDepth 20000
namespace Go.Proofs.YtgnkcohlfdddnaaDoor
open Go Go.Sy Go.Bp
attribute [local irreducible] AO AL AC OpT ACall Ends DGo DRun Thn Blk Nxt
abbrev u8v (n : Int) : AV := .val (.int .u8 n)
abbrev u16v (n : Int) : AV := .val (.int .u16 n)
theorem len3 : (made sl3).length = 4 := by decide +kernel
theorem len2 : (made sl2).length = 4 := by decide +kernel
theorem u8sl3 : ∀ i, i < 4 → (sl3.getD i default).a < 256 ∧ (sl3.getD i default).m < 256 := by decide
theorem u8sl2 : ∀ i, i < 4 → (sl2.getD i default).a < 256 ∧ (sl2.getD i default).m < 256 := by decide
def mk3 : List Ex := made sl3
def mk2 : List Ex := made sl2
theorem made3 : ACall Tryd.prog 12 [.isl false [u8v 3, u8v 15, .val (.bool false), u8v 3, u8v 15, .val (.bool false), u8v 3, u8v 15, .val (.bool false), u8v 3, u8v 15, .val (.bool false)] 4] [] 0 (.isl false (cR mk3) 4) [] := by
  have h := made_ok (z := false) (l := sl3) (L := 4) rfl (by decide) u8sl3
  rw [len3] at h; exact h
theorem made2 : ACall Tryd.prog 12 [.isl false [u8v 2, u8v 3, .val (.bool false), u8v 2, u8v 3, .val (.bool false), u8v 2, u8v 12, .val (.bool false), u8v 2, u8v 12, .val (.bool false)] 4] [] 0 (.isl false (cR mk2) 4) [] := by
  have h := made_ok (z := false) (l := sl2) (L := 4) rfl (by decide) u8sl2
  rw [len2] at h; exact h
theorem made3O : ACall Tryd.prog 12 [.sl 0 0 4 3] [.cells [u8v 3, u8v 15, .val (.bool false), u8v 3, u8v 15, .val (.bool false), u8v 3, u8v 15, .val (.bool false), u8v 3, u8v 15, .val (.bool false)] 61] 0 (.isl false (cR mk3) 4) [] :=
  ACall.own (args' := [.isl false [u8v 3, u8v 15, .val (.bool false), u8v 3, u8v 15, .val (.bool false), u8v 3, u8v 15, .val (.bool false), u8v 3, u8v 15, .val (.bool false)] 4]) (by simp [bnd]) (by simp [frzV]) (by simp [bnd]) made3
theorem three_ok : ACall Tryd.prog 36 [] [] 0 (.isl false (cR mk3) 4) [] := by
  refine ACall.enter Tryd.func36 rfl (by simp [Tryd.ntmps36]) (by simp) ?_; simp only [entry, idx, Tryd.ntmps36, List.length, List.map_cons, List.map_nil, List.append_nil, List.cons_append, List.nil_append, Nat.reduceAdd, Nat.zero_add, List.length_cons, List.length_nil]
  repeat' (first | (refine AC_seq ?_) | (refine AC_region_lit ?_) | ((first | refine AL_go rfl (fun K hK => ?_) | refine AL_go0 (fun K hK => ?_)); (first | refine R_callG (f := 12) [0] 0 false ?_); simp -dsimp (disch := first | exact vD | fail) only [push_cast, simprocAttr]; (repeat (refine aI ?_)); intro G hG; refine hG _ _ ?_; clear hG G; (first | refine ⟨_, _, made3O, ?_⟩); simp -dsimp (disch := first | exact vD | fail) only [push_cast, simprocAttr]; (repeat (refine aI ?_)); (first | refine hK _ _ _ ?_ | refine hK _ _ ?_); clear hK K) | ((first | refine AL_go rfl (fun K hK => ?_) | refine AL_go0 (fun K hK => ?_)); (first | refine R_assign _ ?_ | refine Q_build _ _ ?_ | refine Q_buildArr _ _ ?_ | refine Q_buildSlice _ _ _ ?_); simp -dsimp (disch := first | exact vD | fail) only [push_cast, simprocAttr]; (repeat (refine aI ?_)); (first | refine hK _ _ _ ?_ | refine hK _ _ ?_); clear hK K) | ((first | refine AL_guard rfl rfl (fun K1 K2 h1 h2 => ?_) rfl | refine AC_cond_k (fun K1 K2 h1 h2 => ?_)); simp -dsimp (disch := first | exact vD | fail) only [push_cast, simprocAttr]; (first | (refine ⟨fun hc => ?_, fun hc => ?_⟩ <;> first | (exfalso; omega) | (exfalso; contradiction) | refine h1 ?_ | refine h2 ?_) | refine h1 ?_ | refine h2 ?_); all_goals clear h1 h2 K1 K2) | (refine AL_nil ?_) | (refine Thn_normal ?_) | (refine Thn_ret ?_) | (refine Thn_exit ?_) | (refine Blk_normal ?_) | (refine Blk_ret ?_) | (refine Blk_here ?_) | (refine Blk_other rfl ?_) | (refine AC_block ?_) | (refine AC_exit ?_) | (refine AC_skip ?_) | (refine AC_ret ?_))
  all_goals first
    | ((refine Ends.mk2 (by first | exact .inr rfl | exact .inl rfl) [] ?_; simp -dsimp (disch := first | exact vD | fail) only [push_cast, simprocAttr, Tryd.f36]; (repeat (refine aI ?_)); try (first | exact vI | fail)); done)
    | trace_state
theorem made2O : ACall Tryd.prog 12 [.sl 0 0 4 3] [.cells [u8v 2, u8v 3, .val (.bool false), u8v 2, u8v 3, .val (.bool false), u8v 2, u8v 12, .val (.bool false), u8v 2, u8v 12, .val (.bool false)] 61] 0 (.isl false (cR mk2) 4) [] :=
  ACall.own (args' := [.isl false [u8v 2, u8v 3, .val (.bool false), u8v 2, u8v 3, .val (.bool false), u8v 2, u8v 12, .val (.bool false), u8v 2, u8v 12, .val (.bool false)] 4]) (by simp [bnd]) (by simp [frzV]) (by simp [bnd]) made2
theorem pairs_ok : ACall Tryd.prog 37 [] [] 0 (.isl false (cR mk2) 4) [] := by
  refine ACall.enter Tryd.func37 rfl (by simp [Tryd.ntmps37]) (by simp) ?_; simp only [entry, idx, Tryd.ntmps37, List.length, List.map_cons, List.map_nil, List.append_nil, List.cons_append, List.nil_append, Nat.reduceAdd, Nat.zero_add, List.length_cons, List.length_nil]
  repeat' (first | (refine AC_seq ?_) | (refine AC_region_lit ?_) | ((first | refine AL_go rfl (fun K hK => ?_) | refine AL_go0 (fun K hK => ?_)); (first | refine R_callG (f := 12) [0] 0 false ?_); simp -dsimp (disch := first | exact vD | fail) only [push_cast, simprocAttr]; (repeat (refine aI ?_)); intro G hG; refine hG _ _ ?_; clear hG G; (first | refine ⟨_, _, made2O, ?_⟩); simp -dsimp (disch := first | exact vD | fail) only [push_cast, simprocAttr]; (repeat (refine aI ?_)); (first | refine hK _ _ _ ?_ | refine hK _ _ ?_); clear hK K) | ((first | refine AL_go rfl (fun K hK => ?_) | refine AL_go0 (fun K hK => ?_)); (first | refine R_assign _ ?_ | refine Q_build _ _ ?_ | refine Q_buildArr _ _ ?_ | refine Q_buildSlice _ _ _ ?_); simp -dsimp (disch := first | exact vD | fail) only [push_cast, simprocAttr]; (repeat (refine aI ?_)); (first | refine hK _ _ _ ?_ | refine hK _ _ ?_); clear hK K) | ((first | refine AL_guard rfl rfl (fun K1 K2 h1 h2 => ?_) rfl | refine AC_cond_k (fun K1 K2 h1 h2 => ?_)); simp -dsimp (disch := first | exact vD | fail) only [push_cast, simprocAttr]; (first | (refine ⟨fun hc => ?_, fun hc => ?_⟩ <;> first | (exfalso; omega) | (exfalso; contradiction) | refine h1 ?_ | refine h2 ?_) | refine h1 ?_ | refine h2 ?_); all_goals clear h1 h2 K1 K2) | (refine AL_nil ?_) | (refine Thn_normal ?_) | (refine Thn_ret ?_) | (refine Thn_exit ?_) | (refine Blk_normal ?_) | (refine Blk_ret ?_) | (refine Blk_here ?_) | (refine Blk_other rfl ?_) | (refine AC_block ?_) | (refine AC_exit ?_) | (refine AC_skip ?_) | (refine AC_ret ?_))
  all_goals first
    | ((refine Ends.mk2 (by first | exact .inr rfl | exact .inl rfl) [] ?_; simp -dsimp (disch := first | exact vD | fail) only [push_cast, simprocAttr, Tryd.f37]; (repeat (refine aI ?_)); try (first | exact vI | fail)); done)
    | trace_state
theorem a_min : ACall Tryd.prog 13 [.isl false (cR mk3) 4] [] 0 (.tup [.isl false [u16v 7, u16v 11, u16v 13, u16v 14] 4, .val (.int .i64 0)]) [] := by
  have h := minimal_ok (zl := false) (l := made sl3) made_LOk len3 (by decide)
  rw [aw_min] at h; exact h
theorem a_blk : ACall Tryd.prog 16 [.isl false (cR mk3) 4, .val (.int .i64 3), u16v 3] [] 0 (.tup [.val (.bool true), .val (.int .i64 0)]) [] := by
  have h := blocks_ok (zl := false) (l := made sl3) (a := 3) (s := 3) made_LOk len3
  rw [aw_blk.1, aw_blk.2] at h; exact h
theorem a_spr : ACall Tryd.prog 18 [.isl false (cR mk3) 4, u16v 1] [] 0 (.tup [u16v 1, .val (.int .i64 0)]) [] := by
  have h := spread_ok (zl := false) (l := made sl3) (s := 1) made_LOk len3
  rw [aw_spr.1, aw_spr.2] at h; exact h
theorem a_splg : ACall Tryd.prog 22 [.isl false (cR mk3) 4] [] 0 (.tup [u16v 3, .val (.int .i64 0)]) [] := by
  have h := splitting_ok (zl := false) (l := made sl3) made_LOk len3 (by decide) (fun i hi => made_flag i (by rw [len3]; exact hi))
  rw [aw_splg] at h; exact h
theorem a_spl2 : ACall Tryd.prog 20 [.isl false (cR mk2) 4] [] 0 (.tup [u16v 3, u16v 12, .val (.int .i64 0)]) [] := by
  have h := split_ok (zl := false) (l := made sl2) made_LOk len2 (by decide)
  rw [aw_spl2] at h; exact h
theorem a_spl3 : ∃ a b : Int, ACall Tryd.prog 20 [.isl false (cR mk3) 4] [] 0 (.tup [u16v a, u16v b, .val (.int .i64 13)]) [] := by
  have h := split_ok (zl := false) (l := made sl3) made_LOk len3 (by decide)
  unfold splV at h
  rw [aw_spl3] at h; exact ⟨_, _, h⟩
theorem a_same : ACall Tryd.prog 15 [.isl false [u16v 7, u16v 11, u16v 13, u16v 14] 4, .isl false [u16v 7, u16v 11, u16v 13, u16v 14] 4] [] 0 (.val (.bool true)) [] :=
  same8_ok (zl := false) (zr := false) (qs := [7, 11, 13, 14]) rfl (by decide)
attribute [local irreducible] mk3 mk2 cR
theorem awake_ok : ACall Tryd.prog 11 [] [] 0 (.val (.bool true)) [] := by
  obtain ⟨a, b, h3⟩ := a_spl3
  refine ACall.enter Tryd.func11 rfl (by simp [Tryd.ntmps11]) (by simp) ?_; simp only [entry, idx, Tryd.ntmps11, List.length, List.map_cons, List.map_nil, List.append_nil, List.cons_append, List.nil_append, Nat.reduceAdd, Nat.zero_add, List.length_cons, List.length_nil]
  repeat' (first | (refine AC_seq ?_) | (refine AC_region_lit ?_) | ((first | refine AL_go rfl (fun K hK => ?_) | refine AL_go0 (fun K hK => ?_)); (first | refine R_callG (f := 36) [] 0 false ?_ | refine R_callG (f := 37) [] 0 false ?_ | refine R_callG (f := 13) [] 0 false ?_ | refine R_callG (f := 16) [] 0 false ?_ | refine R_callG (f := 18) [] 0 false ?_ | refine R_callG (f := 22) [] 0 false ?_ | refine R_callG (f := 20) (dst := some 35) [] 0 false ?_ | refine R_callG (f := 15) [] 0 true ?_); simp -dsimp (disch := first | exact vD | fail) only [push_cast, simprocAttr]; (repeat (refine aI ?_)); intro G hG; refine hG _ _ ?_; clear hG G; (first | refine ⟨_, _, three_ok, ?_⟩ | refine ⟨_, _, pairs_ok, ?_⟩ | refine ⟨_, _, a_min, ?_⟩ | refine ⟨_, _, a_blk, ?_⟩ | refine ⟨_, _, a_spr, ?_⟩ | refine ⟨_, _, a_splg, ?_⟩ | refine ⟨_, _, a_spl2, ?_⟩ | refine ⟨_, _, a_same, ?_⟩); simp -dsimp (disch := first | exact vD | fail) only [push_cast, simprocAttr]; (repeat (refine aI ?_)); (first | refine hK _ _ _ ?_ | refine hK _ _ ?_); clear hK K) | ((first | refine AL_go rfl (fun K hK => ?_) | refine AL_go0 (fun K hK => ?_)); (first | (refine R_callG (f := 20) [] 0 false ?_; simp -dsimp (disch := first | exact vD | fail) only [push_cast, simprocAttr]; (repeat (refine aI ?_)); intro G hG; refine hG _ _ ?_; clear hG G; refine ⟨_, _, a_spl2, ?_⟩; simp -dsimp (disch := first | exact vD | fail) only [push_cast, simprocAttr]; (repeat (refine aI ?_)); (first | refine hK _ _ _ ?_ | refine hK _ _ ?_); clear hK K) | (refine R_callG (f := 20) [] 0 false ?_; simp -dsimp (disch := first | exact vD | fail) only [push_cast, simprocAttr]; (repeat (refine aI ?_)); intro G hG; refine hG _ _ ?_; clear hG G; refine ⟨_, _, h3, ?_⟩; simp -dsimp (disch := first | exact vD | fail) only [push_cast, simprocAttr]; (repeat (refine aI ?_)); (first | refine hK _ _ _ ?_ | refine hK _ _ ?_); clear hK K))) | ((first | refine AL_go rfl (fun K hK => ?_) | refine AL_go0 (fun K hK => ?_)); (first | refine R_move _ ?_ | refine R_assign _ ?_ | refine Q_pick _ _ _ ?_ | refine Q_extract _ _ ?_ | refine Q_buildSlice _ _ _ ?_ | refine Q_eqAgg _ _ _ _ ?_ | refine Q_neqAgg _ _ _ _ ?_ | refine Q_neqSelf _ _ _ _ ?_ | refine Q_bin _ _ _ _ _ ?_); simp -dsimp (disch := first | exact vD | fail) only [push_cast, simprocAttr]; (repeat (refine aI ?_)); (first | refine hK _ _ _ ?_ | refine hK _ _ ?_); clear hK K) | ((first | refine AL_guard rfl rfl (fun K1 K2 h1 h2 => ?_) rfl | refine AC_cond_k (fun K1 K2 h1 h2 => ?_)); simp -dsimp (disch := first | exact vD | fail) only [push_cast, simprocAttr]; (first | (refine ⟨fun hc => ?_, fun hc => ?_⟩ <;> first | (exfalso; omega) | (exfalso; contradiction) | refine h1 ?_ | refine h2 ?_) | refine h1 ?_ | refine h2 ?_); all_goals clear h1 h2 K1 K2) | (refine AL_nil ?_) | (refine Thn_normal ?_) | (refine Thn_ret ?_) | (refine Thn_exit ?_) | (refine Blk_normal ?_) | (refine Blk_ret ?_) | (refine Blk_here ?_) | (refine Blk_other rfl ?_) | (refine AC_block ?_) | (refine AC_exit ?_) | (refine AC_skip ?_) | (refine AC_ret ?_))
  all_goals first
    | ((refine Ends.mk2 (by first | exact .inr rfl | exact .inl rfl) [] ?_; simp -dsimp (disch := first | exact vD | fail) only [push_cast, simprocAttr, Tryd.f11]; (repeat (refine aI ?_)); try (first | exact vI | fail)); done)
    | trace_state
end Go.Proofs.YtgnkcohlfdddnaaDoor
