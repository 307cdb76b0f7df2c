/- The network: New, Send, Repeat, All and Waiting of the program's side. No condition. -/
import Derived.Test.YtphpjgfhdoobjaaNet3
set_option linter.unusedVariables false
set_option linter.unusedSectionVars false
set_option linter.unusedSimpArgs false
set_option maxHeartbeats 1000000
set_option maxRecDepth 20000
namespace Go.Proofs.Ytphpjgfhdoobjaa
open Go Go.Sy
attribute [local irreducible] AO AL AC OpT ACall Ends DGo DRun Thn Blk Nxt
variable {l : List Pk} {n next a b : Int} {i j k len : Nat} {z : Bool} {m : Msg} {f : List (List Int × Bool)}

theorem new_range (h : n < 1 ∨ 18 < n) : ACall Try.prog 11 [.val (.int .i64 n)] [] 0 (.tup [.val (.pointer none), .val (.int .i64 7)]) [] := by
  refine ACall.enter Try.func11 rfl (by simp [Try.ntmps11]) (by simp) ?_
  simp only [entry, idx, Try.ntmps11, List.length, List.map_cons, List.map_nil, List.append_nil, List.cons_append, List.nil_append, Nat.reduceAdd, Nat.zero_add, List.length_cons, List.length_nil]
  repeat' (first
    | (refine AC_seq ?_)
    | (refine AC_region_lit ?_)
    | ((first | refine AL_go rfl (fun K hK => ?_) | refine AL_go0 (fun K hK => ?_))
       (first | refine R_move _ ?_ | refine R_assign _ ?_ | refine Q_pick _ _ _ ?_ | refine Q_box _ _ ?_ | refine Q_build _ _ ?_ | refine Q_buildArr _ _ ?_ | refine Q_makeMap _ ?_ | refine Q_bin _ _ _ _ _ ?_)
       simp (dsimp := false) (disch := first | exact vD | fail) only [push_cast, List.reduceReplicate, Nat.reduceAdd, Nat.reduceMul, Nat.reduceSub, Nat.reduceEqDiff, Nat.reduceLT, Nat.reduceLeDiff, Nat.reduceBEq, Int.reduceToNat, Int.reduceEq, Int.reduceLT, Int.reduceLE, Int.reduceAdd, Int.reduceSub, Int.reduceMul, ↓reduceIte, reduceCtorEq]
       (repeat (refine aI ?_)); (first | refine hK _ _ _ ?_ | refine hK _ _ ?_); clear hK K)
    | ((first | refine AL_guard rfl rfl (fun K1 K2 h1 h2 => ?_) rfl | refine AC_cond_k (fun K1 K2 h1 h2 => ?_))
       simp (dsimp := false) (disch := first | exact vD | fail) only [push_cast, List.reduceReplicate, Nat.reduceAdd, Nat.reduceMul, Nat.reduceSub, Nat.reduceEqDiff, Nat.reduceLT, Nat.reduceLeDiff, Nat.reduceBEq, Int.reduceToNat, Int.reduceEq, Int.reduceLT, Int.reduceLE, Int.reduceAdd, Int.reduceSub, Int.reduceMul, ↓reduceIte, reduceCtorEq]
       first | (refine ⟨fun hc => ?_, fun hc => ?_⟩ <;> first | (exfalso; omega) | (exfalso; contradiction) | refine h1 ?_ | refine h2 ?_) | refine h1 ?_ | refine h2 ?_
       all_goals clear h1 h2 K1 K2)
    | (refine AL_nil ?_) | (refine Thn_normal ?_) | (refine Thn_ret ?_) | (refine Thn_exit ?_) | (refine Blk_normal ?_) | (refine Blk_ret ?_) | (refine Blk_here ?_) | (refine Blk_other rfl ?_) | (refine AC_block ?_) | (refine AC_exit ?_) | (refine AC_skip ?_) | (refine AC_ret ?_))
  all_goals (refine Ends.mk2 (by first | exact .inr rfl | exact .inl rfl) [] ?_; simp (dsimp := false) (disch := first | exact vD | fail) only [push_cast, List.reduceReplicate, Nat.reduceAdd, Nat.reduceMul, Nat.reduceSub, Nat.reduceEqDiff, Nat.reduceLT, Nat.reduceLeDiff, Nat.reduceBEq, Int.reduceToNat, Int.reduceEq, Int.reduceLT, Int.reduceLE, Int.reduceAdd, Int.reduceSub, Int.reduceMul, ↓reduceIte, reduceCtorEq, Try.f11]; (repeat (refine aI ?_)); try (first | exact vI | fail))
theorem new_ok (h : ¬ (n < 1 ∨ 18 < n)) : ACall Try.prog 11 [.val (.int .i64 n)] [] 0 (.tup [.pt 0 0, .val (.int .i64 0)]) (n0 n 0 []) := by
  refine ACall.enter Try.func11 rfl (by simp [Try.ntmps11]) (by simp) ?_
  simp only [entry, idx, Try.ntmps11, List.length, List.map_cons, List.map_nil, List.append_nil, List.cons_append, List.nil_append, Nat.reduceAdd, Nat.zero_add, List.length_cons, List.length_nil]
  repeat' (first
    | (refine AC_seq ?_)
    | (refine AC_region_lit ?_)
    | ((first | refine AL_go rfl (fun K hK => ?_) | refine AL_go0 (fun K hK => ?_))
       (first | refine R_move _ ?_ | refine R_assign _ ?_ | refine Q_pick _ _ _ ?_ | refine Q_box _ _ ?_ | refine Q_build _ _ ?_ | refine Q_buildArr _ _ ?_ | refine Q_makeMap _ ?_ | refine Q_bin _ _ _ _ _ ?_)
       simp (dsimp := false) (disch := first | exact vD | fail) only [push_cast, List.reduceReplicate, Nat.reduceAdd, Nat.reduceMul, Nat.reduceSub, Nat.reduceEqDiff, Nat.reduceLT, Nat.reduceLeDiff, Nat.reduceBEq, Int.reduceToNat, Int.reduceEq, Int.reduceLT, Int.reduceLE, Int.reduceAdd, Int.reduceSub, Int.reduceMul, ↓reduceIte, reduceCtorEq]
       (repeat (refine aI ?_)); (first | refine hK _ _ _ ?_ | refine hK _ _ ?_); clear hK K)
    | ((first | refine AL_guard rfl rfl (fun K1 K2 h1 h2 => ?_) rfl | refine AC_cond_k (fun K1 K2 h1 h2 => ?_))
       simp (dsimp := false) (disch := first | exact vD | fail) only [push_cast, List.reduceReplicate, Nat.reduceAdd, Nat.reduceMul, Nat.reduceSub, Nat.reduceEqDiff, Nat.reduceLT, Nat.reduceLeDiff, Nat.reduceBEq, Int.reduceToNat, Int.reduceEq, Int.reduceLT, Int.reduceLE, Int.reduceAdd, Int.reduceSub, Int.reduceMul, ↓reduceIte, reduceCtorEq]
       first | (refine ⟨fun hc => ?_, fun hc => ?_⟩ <;> first | (exfalso; omega) | (exfalso; contradiction) | refine h1 ?_ | refine h2 ?_) | refine h1 ?_ | refine h2 ?_
       all_goals clear h1 h2 K1 K2)
    | (refine AL_nil ?_) | (refine Thn_normal ?_) | (refine Thn_ret ?_) | (refine Thn_exit ?_) | (refine Blk_normal ?_) | (refine Blk_ret ?_) | (refine Blk_here ?_) | (refine Blk_other rfl ?_) | (refine AC_block ?_) | (refine AC_exit ?_) | (refine AC_skip ?_) | (refine AC_ret ?_))
  all_goals (refine Ends.mk2 (by first | exact .inr rfl | exact .inl rfl) [1,0] ?_; simp (dsimp := false) (disch := first | exact vD | fail) only [push_cast, List.reduceReplicate, Nat.reduceAdd, Nat.reduceMul, Nat.reduceSub, Nat.reduceEqDiff, Nat.reduceLT, Nat.reduceLeDiff, Nat.reduceBEq, Int.reduceToNat, Int.reduceEq, Int.reduceLT, Int.reduceLE, Int.reduceAdd, Int.reduceSub, Int.reduceMul, ↓reduceIte, reduceCtorEq, Try.f11, n0, bV, List.map_nil]; (repeat (refine aI ?_)); try (first | exact vI | fail))
theorem all_0 : ACall Try.prog 15 [.pt 0 0] (n0 n next f) 2 (.isl true [] 0) (n0 n next f) := by
  refine ACall.enter Try.func15 rfl (by simp [Try.ntmps15, n0]) (by simp [n0]) ?_
  simp only [entry, idx, n0, Try.ntmps15, List.length, List.map_cons, List.map_nil, List.append_nil, List.cons_append, List.nil_append, Nat.reduceAdd, Nat.zero_add, List.length_cons, List.length_nil]
  repeat' (first
    | (refine AC_seq ?_)
    | (refine AC_region_lit ?_)
    | ((first | refine AL_go rfl (fun K hK => ?_) | refine AL_go0 (fun K hK => ?_))
       (first | refine R_callG (f := 31) [] 0 false ?_)
       simp (dsimp := false) (disch := first | exact vD | fail) only [push_cast, List.reduceReplicate, Nat.reduceAdd, Nat.reduceMul, Nat.reduceSub, Nat.reduceEqDiff, Nat.reduceLT, Nat.reduceLeDiff, Nat.reduceBEq, Int.reduceToNat, Int.reduceEq, Int.reduceLT, Int.reduceLE, Int.reduceAdd, Int.reduceSub, Int.reduceMul, ↓reduceIte, reduceCtorEq, n0]
       (repeat (refine aI ?_)); intro G hG; refine hG _ _ ?_; clear hG G
       (first | refine ⟨_, _, clone_n, ?_⟩)
       simp (dsimp := false) (disch := first | exact vD | fail) only [push_cast, List.reduceReplicate, Nat.reduceAdd, Nat.reduceMul, Nat.reduceSub, Nat.reduceEqDiff, Nat.reduceLT, Nat.reduceLeDiff, Nat.reduceBEq, Int.reduceToNat, Int.reduceEq, Int.reduceLT, Int.reduceLE, Int.reduceAdd, Int.reduceSub, Int.reduceMul, ↓reduceIte, reduceCtorEq, n0]
       (repeat (refine aI ?_)); (first | refine hK _ _ _ ?_ | refine hK _ _ ?_); clear hK K)
    | ((first | refine AL_go rfl (fun K hK => ?_) | refine AL_go0 (fun K hK => ?_))
       (first | refine R_move _ ?_ | refine R_assign _ ?_ | refine Q_load _ _ ?_ | refine Q_loadAgg _ _ ?_ | refine Q_fieldAddr _ _ _ ?_ | refine R_nilCheck _ ?_)
       simp (dsimp := false) (disch := first | exact vD | fail) only [push_cast, List.reduceReplicate, Nat.reduceAdd, Nat.reduceMul, Nat.reduceSub, Nat.reduceEqDiff, Nat.reduceLT, Nat.reduceLeDiff, Nat.reduceBEq, Int.reduceToNat, Int.reduceEq, Int.reduceLT, Int.reduceLE, Int.reduceAdd, Int.reduceSub, Int.reduceMul, ↓reduceIte, reduceCtorEq, n0]
       (repeat (refine aI ?_)); (first | refine hK _ _ _ ?_ | refine hK _ _ ?_); clear hK K)
    | ((first | refine AL_guard rfl rfl (fun K1 K2 h1 h2 => ?_) rfl | refine AC_cond_k (fun K1 K2 h1 h2 => ?_))
       simp (dsimp := false) (disch := first | exact vD | fail) only [push_cast, List.reduceReplicate, Nat.reduceAdd, Nat.reduceMul, Nat.reduceSub, Nat.reduceEqDiff, Nat.reduceLT, Nat.reduceLeDiff, Nat.reduceBEq, Int.reduceToNat, Int.reduceEq, Int.reduceLT, Int.reduceLE, Int.reduceAdd, Int.reduceSub, Int.reduceMul, ↓reduceIte, reduceCtorEq, n0]
       first | (refine ⟨fun hc => ?_, fun hc => ?_⟩ <;> first | (exfalso; omega) | (exfalso; contradiction) | refine h1 ?_ | refine h2 ?_) | refine h1 ?_ | refine h2 ?_
       all_goals clear h1 h2 K1 K2)
    | (refine AL_nil ?_) | (refine Thn_normal ?_) | (refine Thn_ret ?_) | (refine Thn_exit ?_) | (refine Blk_normal ?_) | (refine Blk_ret ?_) | (refine Blk_here ?_) | (refine Blk_other rfl ?_) | (refine AC_block ?_) | (refine AC_exit ?_) | (refine AC_skip ?_) | (refine AC_ret ?_))
  all_goals (refine Ends.mk2 (by first | exact .inr rfl | exact .inl rfl) [0,1] ?_; simp (dsimp := false) (disch := first | exact vD | fail) only [push_cast, List.reduceReplicate, Nat.reduceAdd, Nat.reduceMul, Nat.reduceSub, Nat.reduceEqDiff, Nat.reduceLT, Nat.reduceLeDiff, Nat.reduceBEq, Int.reduceToNat, Int.reduceEq, Int.reduceLT, Int.reduceLE, Int.reduceAdd, Int.reduceSub, Int.reduceMul, ↓reduceIte, reduceCtorEq, Try.f15, n0]; (repeat (refine aI ?_)); try (first | exact vI | fail))
theorem clone_own (hn : l.length ≤ 1000) : ACall Try.prog 31 [.sl 0 0 l.length 24] [.cells (cR l) 41] 1 (.sl 1 0 l.length 24) [.cells (cR l) 41, .cells (cR l) 41] := by
  refine ACall.enter Try.func31 rfl (by simp [Try.ntmps31]) (by simp) ?_
  simp only [entry, idx, Try.ntmps31, List.length, List.map_cons, List.map_nil, List.append_nil, List.cons_append, List.nil_append, Nat.reduceAdd, Nat.zero_add, List.length_cons, List.length_nil]
  repeat' (first
    | (refine AC_seq ?_)
    | (refine AC_region_lit ?_)
    | ((first | refine AL_go rfl (fun K hK => ?_) | refine AL_go0 (fun K hK => ?_))
       (first | refine R_move _ ?_ | refine R_assign _ ?_ | refine Q_buildSlice _ _ _ ?_ | refine Q_eqAgg _ _ _ _ ?_ | refine Q_neqAgg _ _ _ _ ?_ | refine Q_neqSelf _ _ _ _ ?_ | refine Q_bin _ _ _ _ _ ?_ | refine Q_appendNil _ _ _ ?_)
       simp (dsimp := false) (disch := first | exact vD | fail) only [push_cast, List.reduceReplicate, Nat.reduceAdd, Nat.reduceMul, Nat.reduceSub, Nat.reduceEqDiff, Nat.reduceLT, Nat.reduceLeDiff, Nat.reduceBEq, Int.reduceToNat, Int.reduceEq, Int.reduceLT, Int.reduceLE, Int.reduceAdd, Int.reduceSub, Int.reduceMul, ↓reduceIte, reduceCtorEq]
       (repeat (refine aI ?_)); (first | refine hK _ _ _ ?_ | refine hK _ _ ?_); clear hK K)
    | ((first | refine AL_go rfl (fun K hK => ?_) | refine AL_go0 (fun K hK => ?_))
       (first | refine Q_eqnil _ _ _ _ ?_ | refine Q_neqnil _ _ _ _ ?_ | refine Q_append _ _ _ ?_)
       simp (dsimp := false) (disch := first | exact vD | fail) only [push_cast, List.reduceReplicate, Nat.reduceAdd, Nat.reduceMul, Nat.reduceSub, Nat.reduceEqDiff, Nat.reduceLT, Nat.reduceLeDiff, Nat.reduceBEq, Int.reduceToNat, Int.reduceEq, Int.reduceLT, Int.reduceLE, Int.reduceAdd, Int.reduceSub, Int.reduceMul, ↓reduceIte, reduceCtorEq]
       (repeat (refine aI ?_)); (first | refine hK _ _ _ ?_ | refine hK _ _ ?_); clear hK K)
    | ((first | refine AL_go rfl (fun K hK => ?_) | refine AL_go0 (fun K hK => ?_))
       (first | refine Q_append00 _ _ _ ?_)
       simp (dsimp := false) (disch := first | exact vD | fail) only [push_cast, List.reduceReplicate, Nat.reduceAdd, Nat.reduceMul, Nat.reduceSub, Nat.reduceEqDiff, Nat.reduceLT, Nat.reduceLeDiff, Nat.reduceBEq, Int.reduceToNat, Int.reduceEq, Int.reduceLT, Int.reduceLE, Int.reduceAdd, Int.reduceSub, Int.reduceMul, ↓reduceIte, reduceCtorEq]
       (repeat (refine aI ?_)); (first | refine hK _ _ _ ?_ | refine hK _ _ ?_); clear hK K)
    | ((first | refine AL_go rfl (fun K hK => ?_) | refine AL_go0 (fun K hK => ?_))
       (first | refine Q_appendIn _ _ _ ?_)
       simp (dsimp := false) (disch := first | exact vD | fail) only [push_cast, List.reduceReplicate, Nat.reduceAdd, Nat.reduceMul, Nat.reduceSub, Nat.reduceEqDiff, Nat.reduceLT, Nat.reduceLeDiff, Nat.reduceBEq, Int.reduceToNat, Int.reduceEq, Int.reduceLT, Int.reduceLE, Int.reduceAdd, Int.reduceSub, Int.reduceMul, ↓reduceIte, reduceCtorEq]
       (repeat (refine aI ?_)); (first | refine hK _ _ _ ?_ | refine hK _ _ ?_); clear hK K)
    | ((first | refine AL_guard rfl rfl (fun K1 K2 h1 h2 => ?_) rfl | refine AC_cond_k (fun K1 K2 h1 h2 => ?_))
       simp (dsimp := false) (disch := first | exact vD | fail) only [push_cast, List.reduceReplicate, Nat.reduceAdd, Nat.reduceMul, Nat.reduceSub, Nat.reduceEqDiff, Nat.reduceLT, Nat.reduceLeDiff, Nat.reduceBEq, Int.reduceToNat, Int.reduceEq, Int.reduceLT, Int.reduceLE, Int.reduceAdd, Int.reduceSub, Int.reduceMul, ↓reduceIte, reduceCtorEq]
       first | (refine ⟨fun hc => ?_, fun hc => ?_⟩ <;> first | (exfalso; omega) | (exfalso; contradiction) | refine h1 ?_ | refine h2 ?_) | refine h1 ?_ | refine h2 ?_
       all_goals clear h1 h2 K1 K2)
    | (refine AL_nil ?_) | (refine Thn_normal ?_) | (refine Thn_ret ?_) | (refine Thn_exit ?_) | (refine Blk_normal ?_) | (refine Blk_ret ?_) | (refine Blk_here ?_) | (refine Blk_other rfl ?_) | (refine AC_block ?_) | (refine AC_exit ?_) | (refine AC_skip ?_) | (refine AC_ret ?_))
  all_goals (refine Ends.mk2 (by first | exact .inr rfl | exact .inl rfl) [0,2] ?_; simp (dsimp := false) (disch := first | exact vD | fail) only [push_cast, List.reduceReplicate, Nat.reduceAdd, Nat.reduceMul, Nat.reduceSub, Nat.reduceEqDiff, Nat.reduceLT, Nat.reduceLeDiff, Nat.reduceBEq, Int.reduceToNat, Int.reduceEq, Int.reduceLT, Int.reduceLE, Int.reduceAdd, Int.reduceSub, Int.reduceMul, ↓reduceIte, reduceCtorEq, Try.f31]; (repeat (refine aI ?_)); try (first | exact vI | fail))
theorem all_1 (hn : l.length ≤ 1000) : ACall Try.prog 15 [.pt 0 0] (n1 n next l f) 3 (.sl 3 0 l.length 24) (n1 n next l f ++ [.cells (cR l) 41]) := by
  refine ACall.enter Try.func15 rfl (by simp [Try.ntmps15, n1]) (by simp [n1]) ?_
  simp only [entry, idx, n1, Try.ntmps15, List.length, List.map_cons, List.map_nil, List.append_nil, List.cons_append, List.nil_append, Nat.reduceAdd, Nat.zero_add, List.length_cons, List.length_nil]
  repeat' (first
    | (refine AC_seq ?_)
    | (refine AC_region_lit ?_)
    | ((first | refine AL_go rfl (fun K hK => ?_) | refine AL_go0 (fun K hK => ?_))
       (first | refine R_callG (f := 31) [2] 1 false ?_)
       simp (dsimp := false) (disch := first | exact vD | fail) only [push_cast, List.reduceReplicate, Nat.reduceAdd, Nat.reduceMul, Nat.reduceSub, Nat.reduceEqDiff, Nat.reduceLT, Nat.reduceLeDiff, Nat.reduceBEq, Int.reduceToNat, Int.reduceEq, Int.reduceLT, Int.reduceLE, Int.reduceAdd, Int.reduceSub, Int.reduceMul, ↓reduceIte, reduceCtorEq, n1]
       (repeat (refine aI ?_)); intro G hG; refine hG _ _ ?_; clear hG G
       (first | refine ⟨_, _, clone_own hn, ?_⟩)
       simp (dsimp := false) (disch := first | exact vD | fail) only [push_cast, List.reduceReplicate, Nat.reduceAdd, Nat.reduceMul, Nat.reduceSub, Nat.reduceEqDiff, Nat.reduceLT, Nat.reduceLeDiff, Nat.reduceBEq, Int.reduceToNat, Int.reduceEq, Int.reduceLT, Int.reduceLE, Int.reduceAdd, Int.reduceSub, Int.reduceMul, ↓reduceIte, reduceCtorEq, n1]
       (repeat (refine aI ?_)); (first | refine hK _ _ _ ?_ | refine hK _ _ ?_); clear hK K)
    | ((first | refine AL_go rfl (fun K hK => ?_) | refine AL_go0 (fun K hK => ?_))
       (first | refine R_move _ ?_ | refine R_assign _ ?_ | refine Q_load _ _ ?_ | refine Q_loadAgg _ _ ?_ | refine Q_fieldAddr _ _ _ ?_ | refine R_nilCheck _ ?_)
       simp (dsimp := false) (disch := first | exact vD | fail) only [push_cast, List.reduceReplicate, Nat.reduceAdd, Nat.reduceMul, Nat.reduceSub, Nat.reduceEqDiff, Nat.reduceLT, Nat.reduceLeDiff, Nat.reduceBEq, Int.reduceToNat, Int.reduceEq, Int.reduceLT, Int.reduceLE, Int.reduceAdd, Int.reduceSub, Int.reduceMul, ↓reduceIte, reduceCtorEq, n1]
       (repeat (refine aI ?_)); (first | refine hK _ _ _ ?_ | refine hK _ _ ?_); clear hK K)
    | ((first | refine AL_guard rfl rfl (fun K1 K2 h1 h2 => ?_) rfl | refine AC_cond_k (fun K1 K2 h1 h2 => ?_))
       simp (dsimp := false) (disch := first | exact vD | fail) only [push_cast, List.reduceReplicate, Nat.reduceAdd, Nat.reduceMul, Nat.reduceSub, Nat.reduceEqDiff, Nat.reduceLT, Nat.reduceLeDiff, Nat.reduceBEq, Int.reduceToNat, Int.reduceEq, Int.reduceLT, Int.reduceLE, Int.reduceAdd, Int.reduceSub, Int.reduceMul, ↓reduceIte, reduceCtorEq, n1]
       first | (refine ⟨fun hc => ?_, fun hc => ?_⟩ <;> first | (exfalso; omega) | (exfalso; contradiction) | refine h1 ?_ | refine h2 ?_) | refine h1 ?_ | refine h2 ?_
       all_goals clear h1 h2 K1 K2)
    | (refine AL_nil ?_) | (refine Thn_normal ?_) | (refine Thn_ret ?_) | (refine Thn_exit ?_) | (refine Blk_normal ?_) | (refine Blk_ret ?_) | (refine Blk_here ?_) | (refine Blk_other rfl ?_) | (refine AC_block ?_) | (refine AC_exit ?_) | (refine AC_skip ?_) | (refine AC_ret ?_))
  all_goals (refine Ends.mk2 (by first | exact .inr rfl | exact .inl rfl) [0,1,2,3] ?_; simp (dsimp := false) (disch := first | exact vD | fail) only [push_cast, List.reduceReplicate, Nat.reduceAdd, Nat.reduceMul, Nat.reduceSub, Nat.reduceEqDiff, Nat.reduceLT, Nat.reduceLeDiff, Nat.reduceBEq, Int.reduceToNat, Int.reduceEq, Int.reduceLT, Int.reduceLE, Int.reduceAdd, Int.reduceSub, Int.reduceMul, ↓reduceIte, reduceCtorEq, Try.f15, n1]; (repeat (refine aI ?_)); try (first | exact vI | fail))
/-! ### Send -/
def pty (n a : Int) : Bool := decide (0 ≤ a) && decide (a < n)
theorem party_p : ACall Try.prog 26 [.ipt [.val (.int .i64 n), .val (.int .i64 next), .isl z (cR l) len, .any] 0, .val (.int .i64 a)] [] 0 (.val (.bool (pty n a))) [] := party_ok
theorem send_a (h : pty n m.fr = false) : ACall Try.prog 12 [.pt 0 0, .agg (mC m)] (n1 n next l f) 3 (.val (.int .i64 7)) (n1 n next l f) := by
  refine ACall.enter Try.func12 rfl (by simp [Try.ntmps12, n1]) (by simp [n1]) ?_
  simp only [entry, idx, n1, Try.ntmps12, List.length, List.map_cons, List.map_nil, List.append_nil, List.cons_append, List.nil_append, Nat.reduceAdd, Nat.zero_add, List.length_cons, List.length_nil]
  repeat' (first
    | (refine AC_seq ?_)
    | (refine AC_region_lit ?_)
    | ((first | refine AL_go rfl (fun K hK => ?_) | refine AL_go0 (fun K hK => ?_) | refine DG_run (fun K hK => ?_))
       (first | refine R_callG (f := 26) [] 0 true ?_)
       simp (dsimp := false) (disch := first | exact vD | fail) only [push_cast, List.reduceReplicate, Nat.reduceAdd, Nat.reduceMul, Nat.reduceSub, Nat.reduceEqDiff, Nat.reduceLT, Nat.reduceLeDiff, Nat.reduceBEq, Int.reduceToNat, Int.reduceEq, Int.reduceLT, Int.reduceLE, Int.reduceAdd, Int.reduceSub, Int.reduceMul, ↓reduceIte, reduceCtorEq, n1, h]
       (repeat (refine aI ?_)); intro G hG; refine hG _ _ ?_; clear hG G
       (first | refine ⟨_, _, party_p, ?_⟩)
       simp (dsimp := false) (disch := first | exact vD | fail) only [push_cast, List.reduceReplicate, Nat.reduceAdd, Nat.reduceMul, Nat.reduceSub, Nat.reduceEqDiff, Nat.reduceLT, Nat.reduceLeDiff, Nat.reduceBEq, Int.reduceToNat, Int.reduceEq, Int.reduceLT, Int.reduceLE, Int.reduceAdd, Int.reduceSub, Int.reduceMul, ↓reduceIte, reduceCtorEq, n1, h]
       (repeat (refine aI ?_)); (first | refine hK _ _ _ ?_ | refine hK _ _ ?_); clear hK K)
    | ((first | refine AL_go rfl (fun K hK => ?_) | refine AL_go0 (fun K hK => ?_) | refine DG_run (fun K hK => ?_))
       (first | refine R_move _ ?_ | refine R_assign _ ?_ | refine Q_load _ _ ?_ | refine Q_loadAgg _ _ ?_ | refine Q_fieldAddr _ _ _ ?_ | refine R_nilCheck _ ?_ | refine Q_len _ _ ?_ | refine Q_lenStr _ _ ?_ | refine Q_pick _ _ _ ?_ | refine Q_not _ _ ?_ | refine Q_neg _ _ ?_ | refine Q_box _ _ ?_ | refine Q_store _ _ _ ?_ | refine Q_build _ _ ?_ | refine Q_buildArr _ _ ?_ | refine Q_buildSlice _ _ _ ?_ | refine Q_bin _ _ _ _ _ ?_ | refine Q_appendNil _ _ _ ?_)
       simp (dsimp := false) (disch := first | exact vD | fail) only [push_cast, List.reduceReplicate, Nat.reduceAdd, Nat.reduceMul, Nat.reduceSub, Nat.reduceEqDiff, Nat.reduceLT, Nat.reduceLeDiff, Nat.reduceBEq, Int.reduceToNat, Int.reduceEq, Int.reduceLT, Int.reduceLE, Int.reduceAdd, Int.reduceSub, Int.reduceMul, ↓reduceIte, reduceCtorEq, n1, h]
       (repeat (refine aI ?_)); (first | refine hK _ _ _ ?_ | refine hK _ _ ?_); clear hK K)
    | ((first | refine AL_go rfl (fun K hK => ?_) | refine AL_go0 (fun K hK => ?_) | refine DG_run (fun K hK => ?_))
       (first | refine Q_append _ _ _ ?_)
       simp (dsimp := false) (disch := first | exact vD | fail) only [push_cast, List.reduceReplicate, Nat.reduceAdd, Nat.reduceMul, Nat.reduceSub, Nat.reduceEqDiff, Nat.reduceLT, Nat.reduceLeDiff, Nat.reduceBEq, Int.reduceToNat, Int.reduceEq, Int.reduceLT, Int.reduceLE, Int.reduceAdd, Int.reduceSub, Int.reduceMul, ↓reduceIte, reduceCtorEq, n1, h]
       (repeat (refine aI ?_)); (first | refine hK _ _ _ ?_ | refine hK _ _ ?_); clear hK K)
    | ((first | refine AL_go rfl (fun K hK => ?_) | refine AL_go0 (fun K hK => ?_) | refine DG_run (fun K hK => ?_))
       (first | refine Q_append00 _ _ _ ?_)
       simp (dsimp := false) (disch := first | exact vD | fail) only [push_cast, List.reduceReplicate, Nat.reduceAdd, Nat.reduceMul, Nat.reduceSub, Nat.reduceEqDiff, Nat.reduceLT, Nat.reduceLeDiff, Nat.reduceBEq, Int.reduceToNat, Int.reduceEq, Int.reduceLT, Int.reduceLE, Int.reduceAdd, Int.reduceSub, Int.reduceMul, ↓reduceIte, reduceCtorEq, n1, h]
       (repeat (refine aI ?_)); (first | refine hK _ _ _ ?_ | refine hK _ _ ?_); clear hK K)
    | ((first | refine AL_go rfl (fun K hK => ?_) | refine AL_go0 (fun K hK => ?_) | refine DG_run (fun K hK => ?_))
       (first | refine Q_appendIn _ _ _ ?_)
       simp (dsimp := false) (disch := first | exact vD | fail) only [push_cast, List.reduceReplicate, Nat.reduceAdd, Nat.reduceMul, Nat.reduceSub, Nat.reduceEqDiff, Nat.reduceLT, Nat.reduceLeDiff, Nat.reduceBEq, Int.reduceToNat, Int.reduceEq, Int.reduceLT, Int.reduceLE, Int.reduceAdd, Int.reduceSub, Int.reduceMul, ↓reduceIte, reduceCtorEq, n1, h]
       (repeat (refine aI ?_)); (first | refine hK _ _ _ ?_ | refine hK _ _ ?_); clear hK K)
    | ((first | refine AL_guard rfl rfl (fun K1 K2 h1 h2 => ?_) rfl | refine AC_cond_k (fun K1 K2 h1 h2 => ?_) | refine DG_guard rfl rfl (fun K1 K2 h1 h2 => ?_))
       simp (dsimp := false) (disch := first | exact vD | fail) only [push_cast, List.reduceReplicate, Nat.reduceAdd, Nat.reduceMul, Nat.reduceSub, Nat.reduceEqDiff, Nat.reduceLT, Nat.reduceLeDiff, Nat.reduceBEq, Int.reduceToNat, Int.reduceEq, Int.reduceLT, Int.reduceLE, Int.reduceAdd, Int.reduceSub, Int.reduceMul, ↓reduceIte, reduceCtorEq, n1, h]
       first | (refine ⟨fun hc => ?_, fun hc => ?_⟩ <;> first | (exfalso; omega) | (exfalso; contradiction) | refine h1 ?_ | refine h2 ?_) | refine h1 ?_ | refine h2 ?_
       all_goals clear h1 h2 K1 K2)
    | (refine AC_draw (id := 5) (by kernel_rfl) [⟨0, [], [24, 25, 26, 27, 28, 29, 30, 31, 32, 33, 34, 35, 36, 37, 38, 39], [2], [], 0⟩, ⟨1, [], [23, 28, 29, 30, 31, 32, 33, 34, 35, 36, 37, 38], [], [], 0⟩, ⟨2, [1], [23, 28, 29, 30, 31, 32, 33, 34, 35, 36, 37, 38], [], [], 0⟩, ⟨3, [1, 2], [23, 28, 29, 30, 31, 32, 33, 34, 35, 36, 37, 38], [], [], 0⟩, ⟨4, [1, 2, 3], [23, 28, 29, 30, 31, 32, 33, 34, 35, 36, 37, 38], [], [], 0⟩, ⟨5, [], [23, 24, 25, 26, 27, 32, 33, 34, 35, 36], [], [], 0⟩, ⟨6, [5], [23, 24, 25, 26, 27, 32, 33, 34, 35, 36], [], [], 0⟩, ⟨7, [5, 6], [23, 24, 25, 26, 27, 32, 33, 34, 35, 36], [], [], 0⟩, ⟨8, [5, 6, 7], [23, 24, 25, 26, 27, 32, 33, 34, 35, 36], [], [], 0⟩, ⟨9, [], [23, 24, 25, 26, 27, 28, 29, 30, 31, 34, 35, 36], [], [], 0⟩, ⟨10, [9], [23, 24, 25, 26, 27, 28, 29, 30, 31, 34, 35, 36], [], [], 0⟩, ⟨11, [], [23, 24, 25, 26, 27, 28, 29, 30, 31, 32, 33, 36], [], [], 0⟩, ⟨12, [11], [23, 24, 25, 26, 27, 28, 29, 30, 31, 32, 33, 36], [], [], 0⟩, ⟨13, [], [23, 24, 25, 26, 27, 28, 29, 30, 31, 32, 33, 34, 35], [], [], 0⟩, ⟨14, [5, 6, 7, 8, 9, 10, 11, 12, 13], [23, 24, 25, 26, 27], [], [], 0⟩, ⟨15, [5, 6, 7, 8, 9, 10, 11, 12, 13, 14], [23, 24, 25, 26, 27], [], [], 1⟩, ⟨16, [1, 2, 3, 4, 5, 6, 7, 8, 9, 10, 11, 12, 13, 14, 15], [23], [], [2], 1⟩, ⟨17, [0, 1, 2, 3, 4, 5, 6, 7, 8, 9, 10, 11, 12, 13, 14, 15, 16], [], [], [], 0⟩, ⟨18, [0, 1, 2, 3, 4, 5, 6, 7, 8, 9, 10, 11, 12, 13, 14, 15, 16, 17], [], [], [], 0⟩, ⟨19, [0, 1, 2, 3, 4, 5, 6, 7, 8, 9, 10, 11, 12, 13, 14, 15, 16, 17, 18], [], [], [2], 0⟩] (by kernel_rfl) (by kernel_rfl) (by kernel_rfl) ?_)
    | ((first | refine DG_next' (by kernel_rfl) (fun K hK => ?_) | refine DG_nil (by kernel_rfl) (fun K hK => ?_))
       simp only [↓Go.Sy.dsnE_some, ↓Go.Sy.dsnE_none, ↓Go.Sy.dsnE_nil, ↓Go.Sy.dsnO_snoc, ↓Go.Sy.dsnO_nil, ↓Go.Sy.nidAt_snoc, ↓Go.Sy.nidAt_nil, push_cast, Nat.reduceLeDiff, Nat.reduceSub, Nat.reduceBEq, Nat.reduceEqDiff, Nat.reduceAdd, Nat.reduceLT, ↓reduceIte, reduceCtorEq]
       refine hK _ _ _ ?_; clear hK K)
    | (refine DG_go ?_)
    | (refine AL_nil ?_) | (refine Thn_normal ?_) | (refine Thn_ret ?_) | (refine Thn_exit ?_) | (refine Blk_normal ?_) | (refine Blk_ret ?_) | (refine Blk_here ?_) | (refine Blk_other rfl ?_) | (refine AC_block ?_) | (refine AC_exit ?_) | (refine AC_skip ?_) | (refine AC_ret ?_))
  all_goals (refine Ends.mk2 (by first | exact .inr rfl | exact .inl rfl) [0,1,2] ?_; simp (dsimp := false) (disch := first | exact vD | fail) only [push_cast, List.reduceReplicate, Nat.reduceAdd, Nat.reduceMul, Nat.reduceSub, Nat.reduceEqDiff, Nat.reduceLT, Nat.reduceLeDiff, Nat.reduceBEq, Int.reduceToNat, Int.reduceEq, Int.reduceLT, Int.reduceLE, Int.reduceAdd, Int.reduceSub, Int.reduceMul, ↓reduceIte, reduceCtorEq, Try.f12, n1]; (repeat (refine aI ?_)); try (first | exact vI | fail))
theorem send_b (hf : pty n m.fr = true) (h : pty n m.to = false) : ACall Try.prog 12 [.pt 0 0, .agg (mC m)] (n1 n next l f) 3 (.val (.int .i64 7)) (n1 n next l f) := by
  refine ACall.enter Try.func12 rfl (by simp [Try.ntmps12, n1]) (by simp [n1]) ?_
  simp only [entry, idx, n1, Try.ntmps12, List.length, List.map_cons, List.map_nil, List.append_nil, List.cons_append, List.nil_append, Nat.reduceAdd, Nat.zero_add, List.length_cons, List.length_nil]
  repeat' (first
    | (refine AC_seq ?_)
    | (refine AC_region_lit ?_)
    | ((first | refine AL_go rfl (fun K hK => ?_) | refine AL_go0 (fun K hK => ?_) | refine DG_run (fun K hK => ?_))
       (first | refine R_callG (f := 26) [] 0 true ?_)
       simp (dsimp := false) (disch := first | exact vD | fail) only [push_cast, List.reduceReplicate, Nat.reduceAdd, Nat.reduceMul, Nat.reduceSub, Nat.reduceEqDiff, Nat.reduceLT, Nat.reduceLeDiff, Nat.reduceBEq, Int.reduceToNat, Int.reduceEq, Int.reduceLT, Int.reduceLE, Int.reduceAdd, Int.reduceSub, Int.reduceMul, ↓reduceIte, reduceCtorEq, n1, hf, h]
       (repeat (refine aI ?_)); intro G hG; refine hG _ _ ?_; clear hG G
       (first | refine ⟨_, _, party_p, ?_⟩)
       simp (dsimp := false) (disch := first | exact vD | fail) only [push_cast, List.reduceReplicate, Nat.reduceAdd, Nat.reduceMul, Nat.reduceSub, Nat.reduceEqDiff, Nat.reduceLT, Nat.reduceLeDiff, Nat.reduceBEq, Int.reduceToNat, Int.reduceEq, Int.reduceLT, Int.reduceLE, Int.reduceAdd, Int.reduceSub, Int.reduceMul, ↓reduceIte, reduceCtorEq, n1, hf, h]
       (repeat (refine aI ?_)); (first | refine hK _ _ _ ?_ | refine hK _ _ ?_); clear hK K)
    | ((first | refine AL_go rfl (fun K hK => ?_) | refine AL_go0 (fun K hK => ?_) | refine DG_run (fun K hK => ?_))
       (first | refine R_move _ ?_ | refine R_assign _ ?_ | refine Q_load _ _ ?_ | refine Q_loadAgg _ _ ?_ | refine Q_fieldAddr _ _ _ ?_ | refine R_nilCheck _ ?_ | refine Q_len _ _ ?_ | refine Q_lenStr _ _ ?_ | refine Q_pick _ _ _ ?_ | refine Q_not _ _ ?_ | refine Q_neg _ _ ?_ | refine Q_box _ _ ?_ | refine Q_store _ _ _ ?_ | refine Q_build _ _ ?_ | refine Q_buildArr _ _ ?_ | refine Q_buildSlice _ _ _ ?_ | refine Q_bin _ _ _ _ _ ?_ | refine Q_appendNil _ _ _ ?_)
       simp (dsimp := false) (disch := first | exact vD | fail) only [push_cast, List.reduceReplicate, Nat.reduceAdd, Nat.reduceMul, Nat.reduceSub, Nat.reduceEqDiff, Nat.reduceLT, Nat.reduceLeDiff, Nat.reduceBEq, Int.reduceToNat, Int.reduceEq, Int.reduceLT, Int.reduceLE, Int.reduceAdd, Int.reduceSub, Int.reduceMul, ↓reduceIte, reduceCtorEq, n1, hf, h]
       (repeat (refine aI ?_)); (first | refine hK _ _ _ ?_ | refine hK _ _ ?_); clear hK K)
    | ((first | refine AL_go rfl (fun K hK => ?_) | refine AL_go0 (fun K hK => ?_) | refine DG_run (fun K hK => ?_))
       (first | refine Q_append _ _ _ ?_)
       simp (dsimp := false) (disch := first | exact vD | fail) only [push_cast, List.reduceReplicate, Nat.reduceAdd, Nat.reduceMul, Nat.reduceSub, Nat.reduceEqDiff, Nat.reduceLT, Nat.reduceLeDiff, Nat.reduceBEq, Int.reduceToNat, Int.reduceEq, Int.reduceLT, Int.reduceLE, Int.reduceAdd, Int.reduceSub, Int.reduceMul, ↓reduceIte, reduceCtorEq, n1, hf, h]
       (repeat (refine aI ?_)); (first | refine hK _ _ _ ?_ | refine hK _ _ ?_); clear hK K)
    | ((first | refine AL_go rfl (fun K hK => ?_) | refine AL_go0 (fun K hK => ?_) | refine DG_run (fun K hK => ?_))
       (first | refine Q_append00 _ _ _ ?_)
       simp (dsimp := false) (disch := first | exact vD | fail) only [push_cast, List.reduceReplicate, Nat.reduceAdd, Nat.reduceMul, Nat.reduceSub, Nat.reduceEqDiff, Nat.reduceLT, Nat.reduceLeDiff, Nat.reduceBEq, Int.reduceToNat, Int.reduceEq, Int.reduceLT, Int.reduceLE, Int.reduceAdd, Int.reduceSub, Int.reduceMul, ↓reduceIte, reduceCtorEq, n1, hf, h]
       (repeat (refine aI ?_)); (first | refine hK _ _ _ ?_ | refine hK _ _ ?_); clear hK K)
    | ((first | refine AL_go rfl (fun K hK => ?_) | refine AL_go0 (fun K hK => ?_) | refine DG_run (fun K hK => ?_))
       (first | refine Q_appendIn _ _ _ ?_)
       simp (dsimp := false) (disch := first | exact vD | fail) only [push_cast, List.reduceReplicate, Nat.reduceAdd, Nat.reduceMul, Nat.reduceSub, Nat.reduceEqDiff, Nat.reduceLT, Nat.reduceLeDiff, Nat.reduceBEq, Int.reduceToNat, Int.reduceEq, Int.reduceLT, Int.reduceLE, Int.reduceAdd, Int.reduceSub, Int.reduceMul, ↓reduceIte, reduceCtorEq, n1, hf, h]
       (repeat (refine aI ?_)); (first | refine hK _ _ _ ?_ | refine hK _ _ ?_); clear hK K)
    | ((first | refine AL_guard rfl rfl (fun K1 K2 h1 h2 => ?_) rfl | refine AC_cond_k (fun K1 K2 h1 h2 => ?_) | refine DG_guard rfl rfl (fun K1 K2 h1 h2 => ?_))
       simp (dsimp := false) (disch := first | exact vD | fail) only [push_cast, List.reduceReplicate, Nat.reduceAdd, Nat.reduceMul, Nat.reduceSub, Nat.reduceEqDiff, Nat.reduceLT, Nat.reduceLeDiff, Nat.reduceBEq, Int.reduceToNat, Int.reduceEq, Int.reduceLT, Int.reduceLE, Int.reduceAdd, Int.reduceSub, Int.reduceMul, ↓reduceIte, reduceCtorEq, n1, hf, h]
       first | (refine ⟨fun hc => ?_, fun hc => ?_⟩ <;> first | (exfalso; omega) | (exfalso; contradiction) | refine h1 ?_ | refine h2 ?_) | refine h1 ?_ | refine h2 ?_
       all_goals clear h1 h2 K1 K2)
    | (refine AC_draw (id := 5) (by kernel_rfl) [⟨0, [], [24, 25, 26, 27, 28, 29, 30, 31, 32, 33, 34, 35, 36, 37, 38, 39], [2], [], 0⟩, ⟨1, [], [23, 28, 29, 30, 31, 32, 33, 34, 35, 36, 37, 38], [], [], 0⟩, ⟨2, [1], [23, 28, 29, 30, 31, 32, 33, 34, 35, 36, 37, 38], [], [], 0⟩, ⟨3, [1, 2], [23, 28, 29, 30, 31, 32, 33, 34, 35, 36, 37, 38], [], [], 0⟩, ⟨4, [1, 2, 3], [23, 28, 29, 30, 31, 32, 33, 34, 35, 36, 37, 38], [], [], 0⟩, ⟨5, [], [23, 24, 25, 26, 27, 32, 33, 34, 35, 36], [], [], 0⟩, ⟨6, [5], [23, 24, 25, 26, 27, 32, 33, 34, 35, 36], [], [], 0⟩, ⟨7, [5, 6], [23, 24, 25, 26, 27, 32, 33, 34, 35, 36], [], [], 0⟩, ⟨8, [5, 6, 7], [23, 24, 25, 26, 27, 32, 33, 34, 35, 36], [], [], 0⟩, ⟨9, [], [23, 24, 25, 26, 27, 28, 29, 30, 31, 34, 35, 36], [], [], 0⟩, ⟨10, [9], [23, 24, 25, 26, 27, 28, 29, 30, 31, 34, 35, 36], [], [], 0⟩, ⟨11, [], [23, 24, 25, 26, 27, 28, 29, 30, 31, 32, 33, 36], [], [], 0⟩, ⟨12, [11], [23, 24, 25, 26, 27, 28, 29, 30, 31, 32, 33, 36], [], [], 0⟩, ⟨13, [], [23, 24, 25, 26, 27, 28, 29, 30, 31, 32, 33, 34, 35], [], [], 0⟩, ⟨14, [5, 6, 7, 8, 9, 10, 11, 12, 13], [23, 24, 25, 26, 27], [], [], 0⟩, ⟨15, [5, 6, 7, 8, 9, 10, 11, 12, 13, 14], [23, 24, 25, 26, 27], [], [], 1⟩, ⟨16, [1, 2, 3, 4, 5, 6, 7, 8, 9, 10, 11, 12, 13, 14, 15], [23], [], [2], 1⟩, ⟨17, [0, 1, 2, 3, 4, 5, 6, 7, 8, 9, 10, 11, 12, 13, 14, 15, 16], [], [], [], 0⟩, ⟨18, [0, 1, 2, 3, 4, 5, 6, 7, 8, 9, 10, 11, 12, 13, 14, 15, 16, 17], [], [], [], 0⟩, ⟨19, [0, 1, 2, 3, 4, 5, 6, 7, 8, 9, 10, 11, 12, 13, 14, 15, 16, 17, 18], [], [], [2], 0⟩] (by kernel_rfl) (by kernel_rfl) (by kernel_rfl) ?_)
    | ((first | refine DG_next' (by kernel_rfl) (fun K hK => ?_) | refine DG_nil (by kernel_rfl) (fun K hK => ?_))
       simp only [↓Go.Sy.dsnE_some, ↓Go.Sy.dsnE_none, ↓Go.Sy.dsnE_nil, ↓Go.Sy.dsnO_snoc, ↓Go.Sy.dsnO_nil, ↓Go.Sy.nidAt_snoc, ↓Go.Sy.nidAt_nil, push_cast, Nat.reduceLeDiff, Nat.reduceSub, Nat.reduceBEq, Nat.reduceEqDiff, Nat.reduceAdd, Nat.reduceLT, ↓reduceIte, reduceCtorEq]
       refine hK _ _ _ ?_; clear hK K)
    | (refine DG_go ?_)
    | (refine AL_nil ?_) | (refine Thn_normal ?_) | (refine Thn_ret ?_) | (refine Thn_exit ?_) | (refine Blk_normal ?_) | (refine Blk_ret ?_) | (refine Blk_here ?_) | (refine Blk_other rfl ?_) | (refine AC_block ?_) | (refine AC_exit ?_) | (refine AC_skip ?_) | (refine AC_ret ?_))
  all_goals (refine Ends.mk2 (by first | exact .inr rfl | exact .inl rfl) [0,1,2] ?_; simp (dsimp := false) (disch := first | exact vD | fail) only [push_cast, List.reduceReplicate, Nat.reduceAdd, Nat.reduceMul, Nat.reduceSub, Nat.reduceEqDiff, Nat.reduceLT, Nat.reduceLeDiff, Nat.reduceBEq, Int.reduceToNat, Int.reduceEq, Int.reduceLT, Int.reduceLE, Int.reduceAdd, Int.reduceSub, Int.reduceMul, ↓reduceIte, reduceCtorEq, Try.f12, n1]; (repeat (refine aI ?_)); try (first | exact vI | fail))
theorem send_range (h : (pty n m.fr && pty n m.to) = false) : ACall Try.prog 12 [.pt 0 0, .agg (mC m)] (n1 n next l f) 3 (.val (.int .i64 7)) (n1 n next l f) := by
  cases hf : pty n m.fr with
  | false => exact send_a hf
  | true => rw [hf, Bool.true_and] at h; exact send_b hf h
theorem send_a0 (h : pty n m.fr = false) : ACall Try.prog 12 [.pt 0 0, .agg (mC m)] (n0 n next f) 2 (.val (.int .i64 7)) (n0 n next f) := by
  refine ACall.enter Try.func12 rfl (by simp [Try.ntmps12, n0]) (by simp [n0]) ?_
  simp only [entry, idx, n0, Try.ntmps12, List.length, List.map_cons, List.map_nil, List.append_nil, List.cons_append, List.nil_append, Nat.reduceAdd, Nat.zero_add, List.length_cons, List.length_nil]
  repeat' (first
    | (refine AC_seq ?_)
    | (refine AC_region_lit ?_)
    | ((first | refine AL_go rfl (fun K hK => ?_) | refine AL_go0 (fun K hK => ?_) | refine DG_run (fun K hK => ?_))
       (first | refine R_callG (f := 26) [] 0 true ?_)
       simp (dsimp := false) (disch := first | exact vD | fail) only [push_cast, List.reduceReplicate, Nat.reduceAdd, Nat.reduceMul, Nat.reduceSub, Nat.reduceEqDiff, Nat.reduceLT, Nat.reduceLeDiff, Nat.reduceBEq, Int.reduceToNat, Int.reduceEq, Int.reduceLT, Int.reduceLE, Int.reduceAdd, Int.reduceSub, Int.reduceMul, ↓reduceIte, reduceCtorEq, n0, h]
       (repeat (refine aI ?_)); intro G hG; refine hG _ _ ?_; clear hG G
       (first | refine ⟨_, _, party_p (l := []), ?_⟩)
       simp (dsimp := false) (disch := first | exact vD | fail) only [push_cast, List.reduceReplicate, Nat.reduceAdd, Nat.reduceMul, Nat.reduceSub, Nat.reduceEqDiff, Nat.reduceLT, Nat.reduceLeDiff, Nat.reduceBEq, Int.reduceToNat, Int.reduceEq, Int.reduceLT, Int.reduceLE, Int.reduceAdd, Int.reduceSub, Int.reduceMul, ↓reduceIte, reduceCtorEq, n0, h]
       (repeat (refine aI ?_)); (first | refine hK _ _ _ ?_ | refine hK _ _ ?_); clear hK K)
    | ((first | refine AL_go rfl (fun K hK => ?_) | refine AL_go0 (fun K hK => ?_) | refine DG_run (fun K hK => ?_))
       (first | refine R_move _ ?_ | refine R_assign _ ?_ | refine Q_load _ _ ?_ | refine Q_loadAgg _ _ ?_ | refine Q_fieldAddr _ _ _ ?_ | refine R_nilCheck _ ?_ | refine Q_len _ _ ?_ | refine Q_lenStr _ _ ?_ | refine Q_pick _ _ _ ?_ | refine Q_not _ _ ?_ | refine Q_neg _ _ ?_ | refine Q_box _ _ ?_ | refine Q_store _ _ _ ?_ | refine Q_build _ _ ?_ | refine Q_buildArr _ _ ?_ | refine Q_buildSlice _ _ _ ?_ | refine Q_bin _ _ _ _ _ ?_ | refine Q_appendNil _ _ _ ?_)
       simp (dsimp := false) (disch := first | exact vD | fail) only [push_cast, List.reduceReplicate, Nat.reduceAdd, Nat.reduceMul, Nat.reduceSub, Nat.reduceEqDiff, Nat.reduceLT, Nat.reduceLeDiff, Nat.reduceBEq, Int.reduceToNat, Int.reduceEq, Int.reduceLT, Int.reduceLE, Int.reduceAdd, Int.reduceSub, Int.reduceMul, ↓reduceIte, reduceCtorEq, n0, h]
       (repeat (refine aI ?_)); (first | refine hK _ _ _ ?_ | refine hK _ _ ?_); clear hK K)
    | ((first | refine AL_go rfl (fun K hK => ?_) | refine AL_go0 (fun K hK => ?_) | refine DG_run (fun K hK => ?_))
       (first | refine Q_append _ _ _ ?_)
       simp (dsimp := false) (disch := first | exact vD | fail) only [push_cast, List.reduceReplicate, Nat.reduceAdd, Nat.reduceMul, Nat.reduceSub, Nat.reduceEqDiff, Nat.reduceLT, Nat.reduceLeDiff, Nat.reduceBEq, Int.reduceToNat, Int.reduceEq, Int.reduceLT, Int.reduceLE, Int.reduceAdd, Int.reduceSub, Int.reduceMul, ↓reduceIte, reduceCtorEq, n0, h]
       (repeat (refine aI ?_)); (first | refine hK _ _ _ ?_ | refine hK _ _ ?_); clear hK K)
    | ((first | refine AL_go rfl (fun K hK => ?_) | refine AL_go0 (fun K hK => ?_) | refine DG_run (fun K hK => ?_))
       (first | refine Q_append00 _ _ _ ?_)
       simp (dsimp := false) (disch := first | exact vD | fail) only [push_cast, List.reduceReplicate, Nat.reduceAdd, Nat.reduceMul, Nat.reduceSub, Nat.reduceEqDiff, Nat.reduceLT, Nat.reduceLeDiff, Nat.reduceBEq, Int.reduceToNat, Int.reduceEq, Int.reduceLT, Int.reduceLE, Int.reduceAdd, Int.reduceSub, Int.reduceMul, ↓reduceIte, reduceCtorEq, n0, h]
       (repeat (refine aI ?_)); (first | refine hK _ _ _ ?_ | refine hK _ _ ?_); clear hK K)
    | ((first | refine AL_go rfl (fun K hK => ?_) | refine AL_go0 (fun K hK => ?_) | refine DG_run (fun K hK => ?_))
       (first | refine Q_appendIn _ _ _ ?_)
       simp (dsimp := false) (disch := first | exact vD | fail) only [push_cast, List.reduceReplicate, Nat.reduceAdd, Nat.reduceMul, Nat.reduceSub, Nat.reduceEqDiff, Nat.reduceLT, Nat.reduceLeDiff, Nat.reduceBEq, Int.reduceToNat, Int.reduceEq, Int.reduceLT, Int.reduceLE, Int.reduceAdd, Int.reduceSub, Int.reduceMul, ↓reduceIte, reduceCtorEq, n0, h]
       (repeat (refine aI ?_)); (first | refine hK _ _ _ ?_ | refine hK _ _ ?_); clear hK K)
    | ((first | refine AL_guard rfl rfl (fun K1 K2 h1 h2 => ?_) rfl | refine AC_cond_k (fun K1 K2 h1 h2 => ?_) | refine DG_guard rfl rfl (fun K1 K2 h1 h2 => ?_))
       simp (dsimp := false) (disch := first | exact vD | fail) only [push_cast, List.reduceReplicate, Nat.reduceAdd, Nat.reduceMul, Nat.reduceSub, Nat.reduceEqDiff, Nat.reduceLT, Nat.reduceLeDiff, Nat.reduceBEq, Int.reduceToNat, Int.reduceEq, Int.reduceLT, Int.reduceLE, Int.reduceAdd, Int.reduceSub, Int.reduceMul, ↓reduceIte, reduceCtorEq, n0, h]
       first | (refine ⟨fun hc => ?_, fun hc => ?_⟩ <;> first | (exfalso; omega) | (exfalso; contradiction) | refine h1 ?_ | refine h2 ?_) | refine h1 ?_ | refine h2 ?_
       all_goals clear h1 h2 K1 K2)
    | (refine AC_draw (id := 5) (by kernel_rfl) [⟨0, [], [24, 25, 26, 27, 28, 29, 30, 31, 32, 33, 34, 35, 36, 37, 38, 39], [2], [], 0⟩, ⟨1, [], [23, 28, 29, 30, 31, 32, 33, 34, 35, 36, 37, 38], [], [], 0⟩, ⟨2, [1], [23, 28, 29, 30, 31, 32, 33, 34, 35, 36, 37, 38], [], [], 0⟩, ⟨3, [1, 2], [23, 28, 29, 30, 31, 32, 33, 34, 35, 36, 37, 38], [], [], 0⟩, ⟨4, [1, 2, 3], [23, 28, 29, 30, 31, 32, 33, 34, 35, 36, 37, 38], [], [], 0⟩, ⟨5, [], [23, 24, 25, 26, 27, 32, 33, 34, 35, 36], [], [], 0⟩, ⟨6, [5], [23, 24, 25, 26, 27, 32, 33, 34, 35, 36], [], [], 0⟩, ⟨7, [5, 6], [23, 24, 25, 26, 27, 32, 33, 34, 35, 36], [], [], 0⟩, ⟨8, [5, 6, 7], [23, 24, 25, 26, 27, 32, 33, 34, 35, 36], [], [], 0⟩, ⟨9, [], [23, 24, 25, 26, 27, 28, 29, 30, 31, 34, 35, 36], [], [], 0⟩, ⟨10, [9], [23, 24, 25, 26, 27, 28, 29, 30, 31, 34, 35, 36], [], [], 0⟩, ⟨11, [], [23, 24, 25, 26, 27, 28, 29, 30, 31, 32, 33, 36], [], [], 0⟩, ⟨12, [11], [23, 24, 25, 26, 27, 28, 29, 30, 31, 32, 33, 36], [], [], 0⟩, ⟨13, [], [23, 24, 25, 26, 27, 28, 29, 30, 31, 32, 33, 34, 35], [], [], 0⟩, ⟨14, [5, 6, 7, 8, 9, 10, 11, 12, 13], [23, 24, 25, 26, 27], [], [], 0⟩, ⟨15, [5, 6, 7, 8, 9, 10, 11, 12, 13, 14], [23, 24, 25, 26, 27], [], [], 1⟩, ⟨16, [1, 2, 3, 4, 5, 6, 7, 8, 9, 10, 11, 12, 13, 14, 15], [23], [], [2], 1⟩, ⟨17, [0, 1, 2, 3, 4, 5, 6, 7, 8, 9, 10, 11, 12, 13, 14, 15, 16], [], [], [], 0⟩, ⟨18, [0, 1, 2, 3, 4, 5, 6, 7, 8, 9, 10, 11, 12, 13, 14, 15, 16, 17], [], [], [], 0⟩, ⟨19, [0, 1, 2, 3, 4, 5, 6, 7, 8, 9, 10, 11, 12, 13, 14, 15, 16, 17, 18], [], [], [2], 0⟩] (by kernel_rfl) (by kernel_rfl) (by kernel_rfl) ?_)
    | ((first | refine DG_next' (by kernel_rfl) (fun K hK => ?_) | refine DG_nil (by kernel_rfl) (fun K hK => ?_))
       simp only [↓Go.Sy.dsnE_some, ↓Go.Sy.dsnE_none, ↓Go.Sy.dsnE_nil, ↓Go.Sy.dsnO_snoc, ↓Go.Sy.dsnO_nil, ↓Go.Sy.nidAt_snoc, ↓Go.Sy.nidAt_nil, push_cast, Nat.reduceLeDiff, Nat.reduceSub, Nat.reduceBEq, Nat.reduceEqDiff, Nat.reduceAdd, Nat.reduceLT, ↓reduceIte, reduceCtorEq]
       refine hK _ _ _ ?_; clear hK K)
    | (refine DG_go ?_)
    | (refine AL_nil ?_) | (refine Thn_normal ?_) | (refine Thn_ret ?_) | (refine Thn_exit ?_) | (refine Blk_normal ?_) | (refine Blk_ret ?_) | (refine Blk_here ?_) | (refine Blk_other rfl ?_) | (refine AC_block ?_) | (refine AC_exit ?_) | (refine AC_skip ?_) | (refine AC_ret ?_))
  all_goals (refine Ends.mk2 (by first | exact .inr rfl | exact .inl rfl) [0,1] ?_; simp (dsimp := false) (disch := first | exact vD | fail) only [push_cast, List.reduceReplicate, Nat.reduceAdd, Nat.reduceMul, Nat.reduceSub, Nat.reduceEqDiff, Nat.reduceLT, Nat.reduceLeDiff, Nat.reduceBEq, Int.reduceToNat, Int.reduceEq, Int.reduceLT, Int.reduceLE, Int.reduceAdd, Int.reduceSub, Int.reduceMul, ↓reduceIte, reduceCtorEq, Try.f12, n0]; (repeat (refine aI ?_)); try (first | exact vI | fail))
theorem send_b0 (hf : pty n m.fr = true) (h : pty n m.to = false) : ACall Try.prog 12 [.pt 0 0, .agg (mC m)] (n0 n next f) 2 (.val (.int .i64 7)) (n0 n next f) := by
  refine ACall.enter Try.func12 rfl (by simp [Try.ntmps12, n0]) (by simp [n0]) ?_
  simp only [entry, idx, n0, Try.ntmps12, List.length, List.map_cons, List.map_nil, List.append_nil, List.cons_append, List.nil_append, Nat.reduceAdd, Nat.zero_add, List.length_cons, List.length_nil]
  repeat' (first
    | (refine AC_seq ?_)
    | (refine AC_region_lit ?_)
    | ((first | refine AL_go rfl (fun K hK => ?_) | refine AL_go0 (fun K hK => ?_) | refine DG_run (fun K hK => ?_))
       (first | refine R_callG (f := 26) [] 0 true ?_)
       simp (dsimp := false) (disch := first | exact vD | fail) only [push_cast, List.reduceReplicate, Nat.reduceAdd, Nat.reduceMul, Nat.reduceSub, Nat.reduceEqDiff, Nat.reduceLT, Nat.reduceLeDiff, Nat.reduceBEq, Int.reduceToNat, Int.reduceEq, Int.reduceLT, Int.reduceLE, Int.reduceAdd, Int.reduceSub, Int.reduceMul, ↓reduceIte, reduceCtorEq, n0, hf, h]
       (repeat (refine aI ?_)); intro G hG; refine hG _ _ ?_; clear hG G
       (first | refine ⟨_, _, party_p (l := []), ?_⟩)
       simp (dsimp := false) (disch := first | exact vD | fail) only [push_cast, List.reduceReplicate, Nat.reduceAdd, Nat.reduceMul, Nat.reduceSub, Nat.reduceEqDiff, Nat.reduceLT, Nat.reduceLeDiff, Nat.reduceBEq, Int.reduceToNat, Int.reduceEq, Int.reduceLT, Int.reduceLE, Int.reduceAdd, Int.reduceSub, Int.reduceMul, ↓reduceIte, reduceCtorEq, n0, hf, h]
       (repeat (refine aI ?_)); (first | refine hK _ _ _ ?_ | refine hK _ _ ?_); clear hK K)
    | ((first | refine AL_go rfl (fun K hK => ?_) | refine AL_go0 (fun K hK => ?_) | refine DG_run (fun K hK => ?_))
       (first | refine R_move _ ?_ | refine R_assign _ ?_ | refine Q_load _ _ ?_ | refine Q_loadAgg _ _ ?_ | refine Q_fieldAddr _ _ _ ?_ | refine R_nilCheck _ ?_ | refine Q_len _ _ ?_ | refine Q_lenStr _ _ ?_ | refine Q_pick _ _ _ ?_ | refine Q_not _ _ ?_ | refine Q_neg _ _ ?_ | refine Q_box _ _ ?_ | refine Q_store _ _ _ ?_ | refine Q_build _ _ ?_ | refine Q_buildArr _ _ ?_ | refine Q_buildSlice _ _ _ ?_ | refine Q_bin _ _ _ _ _ ?_ | refine Q_appendNil _ _ _ ?_)
       simp (dsimp := false) (disch := first | exact vD | fail) only [push_cast, List.reduceReplicate, Nat.reduceAdd, Nat.reduceMul, Nat.reduceSub, Nat.reduceEqDiff, Nat.reduceLT, Nat.reduceLeDiff, Nat.reduceBEq, Int.reduceToNat, Int.reduceEq, Int.reduceLT, Int.reduceLE, Int.reduceAdd, Int.reduceSub, Int.reduceMul, ↓reduceIte, reduceCtorEq, n0, hf, h]
       (repeat (refine aI ?_)); (first | refine hK _ _ _ ?_ | refine hK _ _ ?_); clear hK K)
    | ((first | refine AL_go rfl (fun K hK => ?_) | refine AL_go0 (fun K hK => ?_) | refine DG_run (fun K hK => ?_))
       (first | refine Q_append _ _ _ ?_)
       simp (dsimp := false) (disch := first | exact vD | fail) only [push_cast, List.reduceReplicate, Nat.reduceAdd, Nat.reduceMul, Nat.reduceSub, Nat.reduceEqDiff, Nat.reduceLT, Nat.reduceLeDiff, Nat.reduceBEq, Int.reduceToNat, Int.reduceEq, Int.reduceLT, Int.reduceLE, Int.reduceAdd, Int.reduceSub, Int.reduceMul, ↓reduceIte, reduceCtorEq, n0, hf, h]
       (repeat (refine aI ?_)); (first | refine hK _ _ _ ?_ | refine hK _ _ ?_); clear hK K)
    | ((first | refine AL_go rfl (fun K hK => ?_) | refine AL_go0 (fun K hK => ?_) | refine DG_run (fun K hK => ?_))
       (first | refine Q_append00 _ _ _ ?_)
       simp (dsimp := false) (disch := first | exact vD | fail) only [push_cast, List.reduceReplicate, Nat.reduceAdd, Nat.reduceMul, Nat.reduceSub, Nat.reduceEqDiff, Nat.reduceLT, Nat.reduceLeDiff, Nat.reduceBEq, Int.reduceToNat, Int.reduceEq, Int.reduceLT, Int.reduceLE, Int.reduceAdd, Int.reduceSub, Int.reduceMul, ↓reduceIte, reduceCtorEq, n0, hf, h]
       (repeat (refine aI ?_)); (first | refine hK _ _ _ ?_ | refine hK _ _ ?_); clear hK K)
    | ((first | refine AL_go rfl (fun K hK => ?_) | refine AL_go0 (fun K hK => ?_) | refine DG_run (fun K hK => ?_))
       (first | refine Q_appendIn _ _ _ ?_)
       simp (dsimp := false) (disch := first | exact vD | fail) only [push_cast, List.reduceReplicate, Nat.reduceAdd, Nat.reduceMul, Nat.reduceSub, Nat.reduceEqDiff, Nat.reduceLT, Nat.reduceLeDiff, Nat.reduceBEq, Int.reduceToNat, Int.reduceEq, Int.reduceLT, Int.reduceLE, Int.reduceAdd, Int.reduceSub, Int.reduceMul, ↓reduceIte, reduceCtorEq, n0, hf, h]
       (repeat (refine aI ?_)); (first | refine hK _ _ _ ?_ | refine hK _ _ ?_); clear hK K)
    | ((first | refine AL_guard rfl rfl (fun K1 K2 h1 h2 => ?_) rfl | refine AC_cond_k (fun K1 K2 h1 h2 => ?_) | refine DG_guard rfl rfl (fun K1 K2 h1 h2 => ?_))
       simp (dsimp := false) (disch := first | exact vD | fail) only [push_cast, List.reduceReplicate, Nat.reduceAdd, Nat.reduceMul, Nat.reduceSub, Nat.reduceEqDiff, Nat.reduceLT, Nat.reduceLeDiff, Nat.reduceBEq, Int.reduceToNat, Int.reduceEq, Int.reduceLT, Int.reduceLE, Int.reduceAdd, Int.reduceSub, Int.reduceMul, ↓reduceIte, reduceCtorEq, n0, hf, h]
       first | (refine ⟨fun hc => ?_, fun hc => ?_⟩ <;> first | (exfalso; omega) | (exfalso; contradiction) | refine h1 ?_ | refine h2 ?_) | refine h1 ?_ | refine h2 ?_
       all_goals clear h1 h2 K1 K2)
    | (refine AC_draw (id := 5) (by kernel_rfl) [⟨0, [], [24, 25, 26, 27, 28, 29, 30, 31, 32, 33, 34, 35, 36, 37, 38, 39], [2], [], 0⟩, ⟨1, [], [23, 28, 29, 30, 31, 32, 33, 34, 35, 36, 37, 38], [], [], 0⟩, ⟨2, [1], [23, 28, 29, 30, 31, 32, 33, 34, 35, 36, 37, 38], [], [], 0⟩, ⟨3, [1, 2], [23, 28, 29, 30, 31, 32, 33, 34, 35, 36, 37, 38], [], [], 0⟩, ⟨4, [1, 2, 3], [23, 28, 29, 30, 31, 32, 33, 34, 35, 36, 37, 38], [], [], 0⟩, ⟨5, [], [23, 24, 25, 26, 27, 32, 33, 34, 35, 36], [], [], 0⟩, ⟨6, [5], [23, 24, 25, 26, 27, 32, 33, 34, 35, 36], [], [], 0⟩, ⟨7, [5, 6], [23, 24, 25, 26, 27, 32, 33, 34, 35, 36], [], [], 0⟩, ⟨8, [5, 6, 7], [23, 24, 25, 26, 27, 32, 33, 34, 35, 36], [], [], 0⟩, ⟨9, [], [23, 24, 25, 26, 27, 28, 29, 30, 31, 34, 35, 36], [], [], 0⟩, ⟨10, [9], [23, 24, 25, 26, 27, 28, 29, 30, 31, 34, 35, 36], [], [], 0⟩, ⟨11, [], [23, 24, 25, 26, 27, 28, 29, 30, 31, 32, 33, 36], [], [], 0⟩, ⟨12, [11], [23, 24, 25, 26, 27, 28, 29, 30, 31, 32, 33, 36], [], [], 0⟩, ⟨13, [], [23, 24, 25, 26, 27, 28, 29, 30, 31, 32, 33, 34, 35], [], [], 0⟩, ⟨14, [5, 6, 7, 8, 9, 10, 11, 12, 13], [23, 24, 25, 26, 27], [], [], 0⟩, ⟨15, [5, 6, 7, 8, 9, 10, 11, 12, 13, 14], [23, 24, 25, 26, 27], [], [], 1⟩, ⟨16, [1, 2, 3, 4, 5, 6, 7, 8, 9, 10, 11, 12, 13, 14, 15], [23], [], [2], 1⟩, ⟨17, [0, 1, 2, 3, 4, 5, 6, 7, 8, 9, 10, 11, 12, 13, 14, 15, 16], [], [], [], 0⟩, ⟨18, [0, 1, 2, 3, 4, 5, 6, 7, 8, 9, 10, 11, 12, 13, 14, 15, 16, 17], [], [], [], 0⟩, ⟨19, [0, 1, 2, 3, 4, 5, 6, 7, 8, 9, 10, 11, 12, 13, 14, 15, 16, 17, 18], [], [], [2], 0⟩] (by kernel_rfl) (by kernel_rfl) (by kernel_rfl) ?_)
    | ((first | refine DG_next' (by kernel_rfl) (fun K hK => ?_) | refine DG_nil (by kernel_rfl) (fun K hK => ?_))
       simp only [↓Go.Sy.dsnE_some, ↓Go.Sy.dsnE_none, ↓Go.Sy.dsnE_nil, ↓Go.Sy.dsnO_snoc, ↓Go.Sy.dsnO_nil, ↓Go.Sy.nidAt_snoc, ↓Go.Sy.nidAt_nil, push_cast, Nat.reduceLeDiff, Nat.reduceSub, Nat.reduceBEq, Nat.reduceEqDiff, Nat.reduceAdd, Nat.reduceLT, ↓reduceIte, reduceCtorEq]
       refine hK _ _ _ ?_; clear hK K)
    | (refine DG_go ?_)
    | (refine AL_nil ?_) | (refine Thn_normal ?_) | (refine Thn_ret ?_) | (refine Thn_exit ?_) | (refine Blk_normal ?_) | (refine Blk_ret ?_) | (refine Blk_here ?_) | (refine Blk_other rfl ?_) | (refine AC_block ?_) | (refine AC_exit ?_) | (refine AC_skip ?_) | (refine AC_ret ?_))
  all_goals (refine Ends.mk2 (by first | exact .inr rfl | exact .inl rfl) [0,1] ?_; simp (dsimp := false) (disch := first | exact vD | fail) only [push_cast, List.reduceReplicate, Nat.reduceAdd, Nat.reduceMul, Nat.reduceSub, Nat.reduceEqDiff, Nat.reduceLT, Nat.reduceLeDiff, Nat.reduceBEq, Int.reduceToNat, Int.reduceEq, Int.reduceLT, Int.reduceLE, Int.reduceAdd, Int.reduceSub, Int.reduceMul, ↓reduceIte, reduceCtorEq, Try.f12, n0]; (repeat (refine aI ?_)); try (first | exact vI | fail))
theorem send_range0 (h : (pty n m.fr && pty n m.to) = false) : ACall Try.prog 12 [.pt 0 0, .agg (mC m)] (n0 n next f) 2 (.val (.int .i64 7)) (n0 n next f) := by
  cases hf : pty n m.fr with
  | false => exact send_a0 hf
  | true => rw [hf, Bool.true_and] at h; exact send_b0 hf h
theorem send_full (hf : pty n m.fr = true) (ht : pty n m.to = true) (h : 400 ≤ l.length) (hn : l.length ≤ 1000) : ACall Try.prog 12 [.pt 0 0, .agg (mC m)] (n1 n next l f) 3 (.val (.int .i64 3)) (n1 n next l f) := by
  refine ACall.enter Try.func12 rfl (by simp [Try.ntmps12, n1]) (by simp [n1]) ?_
  simp only [entry, idx, n1, Try.ntmps12, List.length, List.map_cons, List.map_nil, List.append_nil, List.cons_append, List.nil_append, Nat.reduceAdd, Nat.zero_add, List.length_cons, List.length_nil]
  repeat' (first
    | (refine AC_seq ?_)
    | (refine AC_region_lit ?_)
    | ((first | refine AL_go rfl (fun K hK => ?_) | refine AL_go0 (fun K hK => ?_) | refine DG_run (fun K hK => ?_))
       (first | refine R_callG (f := 26) [] 0 true ?_)
       simp (dsimp := false) (disch := first | exact vD | fail) only [push_cast, List.reduceReplicate, Nat.reduceAdd, Nat.reduceMul, Nat.reduceSub, Nat.reduceEqDiff, Nat.reduceLT, Nat.reduceLeDiff, Nat.reduceBEq, Int.reduceToNat, Int.reduceEq, Int.reduceLT, Int.reduceLE, Int.reduceAdd, Int.reduceSub, Int.reduceMul, ↓reduceIte, reduceCtorEq, n1, hf, ht]
       (repeat (refine aI ?_)); intro G hG; refine hG _ _ ?_; clear hG G
       (first | refine ⟨_, _, party_p, ?_⟩)
       simp (dsimp := false) (disch := first | exact vD | fail) only [push_cast, List.reduceReplicate, Nat.reduceAdd, Nat.reduceMul, Nat.reduceSub, Nat.reduceEqDiff, Nat.reduceLT, Nat.reduceLeDiff, Nat.reduceBEq, Int.reduceToNat, Int.reduceEq, Int.reduceLT, Int.reduceLE, Int.reduceAdd, Int.reduceSub, Int.reduceMul, ↓reduceIte, reduceCtorEq, n1, hf, ht]
       (repeat (refine aI ?_)); (first | refine hK _ _ _ ?_ | refine hK _ _ ?_); clear hK K)
    | ((first | refine AL_go rfl (fun K hK => ?_) | refine AL_go0 (fun K hK => ?_) | refine DG_run (fun K hK => ?_))
       (first | refine R_move _ ?_ | refine R_assign _ ?_ | refine Q_load _ _ ?_ | refine Q_loadAgg _ _ ?_ | refine Q_fieldAddr _ _ _ ?_ | refine R_nilCheck _ ?_ | refine Q_len _ _ ?_ | refine Q_lenStr _ _ ?_ | refine Q_pick _ _ _ ?_ | refine Q_not _ _ ?_ | refine Q_neg _ _ ?_ | refine Q_box _ _ ?_ | refine Q_store _ _ _ ?_ | refine Q_build _ _ ?_ | refine Q_buildArr _ _ ?_ | refine Q_buildSlice _ _ _ ?_ | refine Q_bin _ _ _ _ _ ?_ | refine Q_appendNil _ _ _ ?_)
       simp (dsimp := false) (disch := first | exact vD | fail) only [push_cast, List.reduceReplicate, Nat.reduceAdd, Nat.reduceMul, Nat.reduceSub, Nat.reduceEqDiff, Nat.reduceLT, Nat.reduceLeDiff, Nat.reduceBEq, Int.reduceToNat, Int.reduceEq, Int.reduceLT, Int.reduceLE, Int.reduceAdd, Int.reduceSub, Int.reduceMul, ↓reduceIte, reduceCtorEq, n1, hf, ht]
       (repeat (refine aI ?_)); (first | refine hK _ _ _ ?_ | refine hK _ _ ?_); clear hK K)
    | ((first | refine AL_go rfl (fun K hK => ?_) | refine AL_go0 (fun K hK => ?_) | refine DG_run (fun K hK => ?_))
       (first | refine Q_append _ _ _ ?_)
       simp (dsimp := false) (disch := first | exact vD | fail) only [push_cast, List.reduceReplicate, Nat.reduceAdd, Nat.reduceMul, Nat.reduceSub, Nat.reduceEqDiff, Nat.reduceLT, Nat.reduceLeDiff, Nat.reduceBEq, Int.reduceToNat, Int.reduceEq, Int.reduceLT, Int.reduceLE, Int.reduceAdd, Int.reduceSub, Int.reduceMul, ↓reduceIte, reduceCtorEq, n1, hf, ht]
       (repeat (refine aI ?_)); (first | refine hK _ _ _ ?_ | refine hK _ _ ?_); clear hK K)
    | ((first | refine AL_go rfl (fun K hK => ?_) | refine AL_go0 (fun K hK => ?_) | refine DG_run (fun K hK => ?_))
       (first | refine Q_append00 _ _ _ ?_)
       simp (dsimp := false) (disch := first | exact vD | fail) only [push_cast, List.reduceReplicate, Nat.reduceAdd, Nat.reduceMul, Nat.reduceSub, Nat.reduceEqDiff, Nat.reduceLT, Nat.reduceLeDiff, Nat.reduceBEq, Int.reduceToNat, Int.reduceEq, Int.reduceLT, Int.reduceLE, Int.reduceAdd, Int.reduceSub, Int.reduceMul, ↓reduceIte, reduceCtorEq, n1, hf, ht]
       (repeat (refine aI ?_)); (first | refine hK _ _ _ ?_ | refine hK _ _ ?_); clear hK K)
    | ((first | refine AL_go rfl (fun K hK => ?_) | refine AL_go0 (fun K hK => ?_) | refine DG_run (fun K hK => ?_))
       (first | refine Q_appendIn _ _ _ ?_)
       simp (dsimp := false) (disch := first | exact vD | fail) only [push_cast, List.reduceReplicate, Nat.reduceAdd, Nat.reduceMul, Nat.reduceSub, Nat.reduceEqDiff, Nat.reduceLT, Nat.reduceLeDiff, Nat.reduceBEq, Int.reduceToNat, Int.reduceEq, Int.reduceLT, Int.reduceLE, Int.reduceAdd, Int.reduceSub, Int.reduceMul, ↓reduceIte, reduceCtorEq, n1, hf, ht]
       (repeat (refine aI ?_)); (first | refine hK _ _ _ ?_ | refine hK _ _ ?_); clear hK K)
    | ((first | refine AL_guard rfl rfl (fun K1 K2 h1 h2 => ?_) rfl | refine AC_cond_k (fun K1 K2 h1 h2 => ?_) | refine DG_guard rfl rfl (fun K1 K2 h1 h2 => ?_))
       simp (dsimp := false) (disch := first | exact vD | fail) only [push_cast, List.reduceReplicate, Nat.reduceAdd, Nat.reduceMul, Nat.reduceSub, Nat.reduceEqDiff, Nat.reduceLT, Nat.reduceLeDiff, Nat.reduceBEq, Int.reduceToNat, Int.reduceEq, Int.reduceLT, Int.reduceLE, Int.reduceAdd, Int.reduceSub, Int.reduceMul, ↓reduceIte, reduceCtorEq, n1, hf, ht]
       first | (refine ⟨fun hc => ?_, fun hc => ?_⟩ <;> first | (exfalso; omega) | (exfalso; contradiction) | refine h1 ?_ | refine h2 ?_) | refine h1 ?_ | refine h2 ?_
       all_goals clear h1 h2 K1 K2)
    | (refine AC_draw (id := 5) (by kernel_rfl) [⟨0, [], [24, 25, 26, 27, 28, 29, 30, 31, 32, 33, 34, 35, 36, 37, 38, 39], [2], [], 0⟩, ⟨1, [], [23, 28, 29, 30, 31, 32, 33, 34, 35, 36, 37, 38], [], [], 0⟩, ⟨2, [1], [23, 28, 29, 30, 31, 32, 33, 34, 35, 36, 37, 38], [], [], 0⟩, ⟨3, [1, 2], [23, 28, 29, 30, 31, 32, 33, 34, 35, 36, 37, 38], [], [], 0⟩, ⟨4, [1, 2, 3], [23, 28, 29, 30, 31, 32, 33, 34, 35, 36, 37, 38], [], [], 0⟩, ⟨5, [], [23, 24, 25, 26, 27, 32, 33, 34, 35, 36], [], [], 0⟩, ⟨6, [5], [23, 24, 25, 26, 27, 32, 33, 34, 35, 36], [], [], 0⟩, ⟨7, [5, 6], [23, 24, 25, 26, 27, 32, 33, 34, 35, 36], [], [], 0⟩, ⟨8, [5, 6, 7], [23, 24, 25, 26, 27, 32, 33, 34, 35, 36], [], [], 0⟩, ⟨9, [], [23, 24, 25, 26, 27, 28, 29, 30, 31, 34, 35, 36], [], [], 0⟩, ⟨10, [9], [23, 24, 25, 26, 27, 28, 29, 30, 31, 34, 35, 36], [], [], 0⟩, ⟨11, [], [23, 24, 25, 26, 27, 28, 29, 30, 31, 32, 33, 36], [], [], 0⟩, ⟨12, [11], [23, 24, 25, 26, 27, 28, 29, 30, 31, 32, 33, 36], [], [], 0⟩, ⟨13, [], [23, 24, 25, 26, 27, 28, 29, 30, 31, 32, 33, 34, 35], [], [], 0⟩, ⟨14, [5, 6, 7, 8, 9, 10, 11, 12, 13], [23, 24, 25, 26, 27], [], [], 0⟩, ⟨15, [5, 6, 7, 8, 9, 10, 11, 12, 13, 14], [23, 24, 25, 26, 27], [], [], 1⟩, ⟨16, [1, 2, 3, 4, 5, 6, 7, 8, 9, 10, 11, 12, 13, 14, 15], [23], [], [2], 1⟩, ⟨17, [0, 1, 2, 3, 4, 5, 6, 7, 8, 9, 10, 11, 12, 13, 14, 15, 16], [], [], [], 0⟩, ⟨18, [0, 1, 2, 3, 4, 5, 6, 7, 8, 9, 10, 11, 12, 13, 14, 15, 16, 17], [], [], [], 0⟩, ⟨19, [0, 1, 2, 3, 4, 5, 6, 7, 8, 9, 10, 11, 12, 13, 14, 15, 16, 17, 18], [], [], [2], 0⟩] (by kernel_rfl) (by kernel_rfl) (by kernel_rfl) ?_)
    | ((first | refine DG_next' (by kernel_rfl) (fun K hK => ?_) | refine DG_nil (by kernel_rfl) (fun K hK => ?_))
       simp only [↓Go.Sy.dsnE_some, ↓Go.Sy.dsnE_none, ↓Go.Sy.dsnE_nil, ↓Go.Sy.dsnO_snoc, ↓Go.Sy.dsnO_nil, ↓Go.Sy.nidAt_snoc, ↓Go.Sy.nidAt_nil, push_cast, Nat.reduceLeDiff, Nat.reduceSub, Nat.reduceBEq, Nat.reduceEqDiff, Nat.reduceAdd, Nat.reduceLT, ↓reduceIte, reduceCtorEq]
       refine hK _ _ _ ?_; clear hK K)
    | (refine DG_go ?_)
    | (refine AL_nil ?_) | (refine Thn_normal ?_) | (refine Thn_ret ?_) | (refine Thn_exit ?_) | (refine Blk_normal ?_) | (refine Blk_ret ?_) | (refine Blk_here ?_) | (refine Blk_other rfl ?_) | (refine AC_block ?_) | (refine AC_exit ?_) | (refine AC_skip ?_) | (refine AC_ret ?_))
  all_goals (refine Ends.mk2 (by first | exact .inr rfl | exact .inl rfl) [0,1,2] ?_; simp (dsimp := false) (disch := first | exact vD | fail) only [push_cast, List.reduceReplicate, Nat.reduceAdd, Nat.reduceMul, Nat.reduceSub, Nat.reduceEqDiff, Nat.reduceLT, Nat.reduceLeDiff, Nat.reduceBEq, Int.reduceToNat, Int.reduceEq, Int.reduceLT, Int.reduceLE, Int.reduceAdd, Int.reduceSub, Int.reduceMul, ↓reduceIte, reduceCtorEq, Try.f12, n1]; (repeat (refine aI ?_)); try (first | exact vI | fail))
theorem fill_spl {vs : List AV} : ∀ {cs : List AV} {off : Nat}, off + vs.length ≤ cs.length → fillOne cs off vs = spl cs off vs := by
  induction vs with
  | nil => intro cs off _; simp [fillOne, spl]
  | cons v vs ih =>
    intro cs off h
    rw [List.length_cons] at h
    rw [fillOne, ih (by rw [List.length_set]; omega)]
    have e : cs.set off v = cs.take off ++ v :: cs.drop (off + 1) := by rw [List.set_eq_take_append_cons_drop, if_pos (by omega)]
    unfold spl
    have hl : (cs.take off).length = off := by rw [List.length_take]; omega
    have h1 : (cs.take off).take (off + 1) = cs.take off := List.take_of_length_le (by omega)
    have h2 : (cs.take off).drop (off + 1 + vs.length) = [] := List.drop_eq_nil_of_le (by omega)
    rw [e, List.take_append, List.drop_append, hl, h1, h2, show off + 1 - off = 1 by omega, show off + 1 + vs.length - off = vs.length + 1 by omega, List.nil_append, List.drop_succ_cons, List.drop_drop, List.length_cons, show off + 1 + vs.length = off + (vs.length + 1) by omega]
    simp
theorem mc_fill {a b c : AV} {cs : List AV} (m : Msg) (h : cs.length = 21) : fillOne (a :: b :: c :: cs) 3 (mC m) = a :: b :: c :: mC m := by
  rw [fill_spl (by simp [mc_len, h]), mc_spl3 m h]
theorem pc_fill {cs : List AV} (p : Pk) (h : cs.length = 24) : fillOne cs 0 (pC p) = pC p := by
  rw [fill_spl (by simp [pc_len, h]), pc_spl p h]
attribute [push_cast] mc_fill pc_fill
theorem pk_mk {i a b : Int} {m : Msg} : .val (.int .i64 i) :: .val (.int .i64 a) :: .val (.int .i64 b) :: mC m = pC ⟨i, a, b, m⟩ := rfl
theorem pk_snoc {p : Pk} : cR l ++ pC p = cR (l ++ [p]) := cR_snoc' (a := p)
theorem pk_one {p : Pk} : pC p = cR [p] := (cR_one (a := p)).symm
theorem send_ok (hf : pty n m.fr = true) (ht : pty n m.to = true) (h : l.length < 400) (h0 : 0 ≤ next) (h1 : next ≤ 1000000) : ACall Try.prog 12 [.pt 0 0, .agg (mC m)] (n1 n next l f) 2 (.val (.int .i64 0)) (n1x n (next + 1) (l ++ [⟨next, m.fr, m.to, m⟩]) (l.length + 1) f) := by
  refine ACall.enter Try.func12 rfl (by simp [Try.ntmps12, n1]) (by simp [n1]) ?_
  simp only [entry, idx, n1, Try.ntmps12, List.length, List.map_cons, List.map_nil, List.append_nil, List.cons_append, List.nil_append, Nat.reduceAdd, Nat.zero_add, List.length_cons, List.length_nil]
  repeat' (first
    | (refine AC_seq ?_)
    | (refine AC_region_lit ?_)
    | ((first | refine AL_go rfl (fun K hK => ?_) | refine AL_go0 (fun K hK => ?_) | refine DG_run (fun K hK => ?_))
       (first | refine R_callG (f := 26) [] 0 true ?_)
       simp (dsimp := false) (disch := first | exact vD | fail) only [push_cast, List.reduceReplicate, Nat.reduceAdd, Nat.reduceMul, Nat.reduceSub, Nat.reduceEqDiff, Nat.reduceLT, Nat.reduceLeDiff, Nat.reduceBEq, Int.reduceToNat, Int.reduceEq, Int.reduceLT, Int.reduceLE, Int.reduceAdd, Int.reduceSub, Int.reduceMul, ↓reduceIte, reduceCtorEq, n1, hf, ht, pk_mk, pk_snoc]
       (repeat (refine aI ?_)); intro G hG; refine hG _ _ ?_; clear hG G
       (first | refine ⟨_, _, party_p, ?_⟩)
       simp (dsimp := false) (disch := first | exact vD | fail) only [push_cast, List.reduceReplicate, Nat.reduceAdd, Nat.reduceMul, Nat.reduceSub, Nat.reduceEqDiff, Nat.reduceLT, Nat.reduceLeDiff, Nat.reduceBEq, Int.reduceToNat, Int.reduceEq, Int.reduceLT, Int.reduceLE, Int.reduceAdd, Int.reduceSub, Int.reduceMul, ↓reduceIte, reduceCtorEq, n1, hf, ht, pk_mk, pk_snoc]
       (repeat (refine aI ?_)); (first | refine hK _ _ _ ?_ | refine hK _ _ ?_); clear hK K)
    | ((first | refine AL_go rfl (fun K hK => ?_) | refine AL_go0 (fun K hK => ?_) | refine DG_run (fun K hK => ?_))
       (first | refine R_move _ ?_ | refine R_assign _ ?_ | refine Q_load _ _ ?_ | refine Q_loadAgg _ _ ?_ | refine Q_fieldAddr _ _ _ ?_ | refine R_nilCheck _ ?_ | refine Q_len _ _ ?_ | refine Q_lenStr _ _ ?_ | refine Q_pick _ _ _ ?_ | refine Q_not _ _ ?_ | refine Q_neg _ _ ?_ | refine Q_box _ _ ?_ | refine Q_store _ _ _ ?_ | refine Q_build _ _ ?_ | refine Q_buildArr _ _ ?_ | refine Q_buildSlice _ _ _ ?_ | refine Q_bin _ _ _ _ _ ?_ | refine Q_appendNil _ _ _ ?_)
       simp (dsimp := false) (disch := first | exact vD | fail) only [push_cast, List.reduceReplicate, Nat.reduceAdd, Nat.reduceMul, Nat.reduceSub, Nat.reduceEqDiff, Nat.reduceLT, Nat.reduceLeDiff, Nat.reduceBEq, Int.reduceToNat, Int.reduceEq, Int.reduceLT, Int.reduceLE, Int.reduceAdd, Int.reduceSub, Int.reduceMul, ↓reduceIte, reduceCtorEq, n1, hf, ht, pk_mk, pk_snoc]
       (repeat (refine aI ?_)); (first | refine hK _ _ _ ?_ | refine hK _ _ ?_); clear hK K)
    | ((first | refine AL_go rfl (fun K hK => ?_) | refine AL_go0 (fun K hK => ?_) | refine DG_run (fun K hK => ?_))
       (first | refine Q_append _ _ _ ?_)
       simp (dsimp := false) (disch := first | exact vD | fail) only [push_cast, List.reduceReplicate, Nat.reduceAdd, Nat.reduceMul, Nat.reduceSub, Nat.reduceEqDiff, Nat.reduceLT, Nat.reduceLeDiff, Nat.reduceBEq, Int.reduceToNat, Int.reduceEq, Int.reduceLT, Int.reduceLE, Int.reduceAdd, Int.reduceSub, Int.reduceMul, ↓reduceIte, reduceCtorEq, n1, hf, ht, pk_mk, pk_snoc]
       (repeat (refine aI ?_)); (first | refine hK _ _ _ ?_ | refine hK _ _ ?_); clear hK K)
    | ((first | refine AL_go rfl (fun K hK => ?_) | refine AL_go0 (fun K hK => ?_) | refine DG_run (fun K hK => ?_))
       (first | refine Q_append00 _ _ _ ?_)
       simp (dsimp := false) (disch := first | exact vD | fail) only [push_cast, List.reduceReplicate, Nat.reduceAdd, Nat.reduceMul, Nat.reduceSub, Nat.reduceEqDiff, Nat.reduceLT, Nat.reduceLeDiff, Nat.reduceBEq, Int.reduceToNat, Int.reduceEq, Int.reduceLT, Int.reduceLE, Int.reduceAdd, Int.reduceSub, Int.reduceMul, ↓reduceIte, reduceCtorEq, n1, hf, ht, pk_mk, pk_snoc]
       (repeat (refine aI ?_)); (first | refine hK _ _ _ ?_ | refine hK _ _ ?_); clear hK K)
    | ((first | refine AL_go rfl (fun K hK => ?_) | refine AL_go0 (fun K hK => ?_) | refine DG_run (fun K hK => ?_))
       (first | refine Q_appendIn _ _ _ ?_)
       simp (dsimp := false) (disch := first | exact vD | fail) only [push_cast, List.reduceReplicate, Nat.reduceAdd, Nat.reduceMul, Nat.reduceSub, Nat.reduceEqDiff, Nat.reduceLT, Nat.reduceLeDiff, Nat.reduceBEq, Int.reduceToNat, Int.reduceEq, Int.reduceLT, Int.reduceLE, Int.reduceAdd, Int.reduceSub, Int.reduceMul, ↓reduceIte, reduceCtorEq, n1, hf, ht, pk_mk, pk_snoc]
       (repeat (refine aI ?_)); (first | refine hK _ _ _ ?_ | refine hK _ _ ?_); clear hK K)
    | ((first | refine AL_guard rfl rfl (fun K1 K2 h1 h2 => ?_) rfl | refine AC_cond_k (fun K1 K2 h1 h2 => ?_) | refine DG_guard rfl rfl (fun K1 K2 h1 h2 => ?_))
       simp (dsimp := false) (disch := first | exact vD | fail) only [push_cast, List.reduceReplicate, Nat.reduceAdd, Nat.reduceMul, Nat.reduceSub, Nat.reduceEqDiff, Nat.reduceLT, Nat.reduceLeDiff, Nat.reduceBEq, Int.reduceToNat, Int.reduceEq, Int.reduceLT, Int.reduceLE, Int.reduceAdd, Int.reduceSub, Int.reduceMul, ↓reduceIte, reduceCtorEq, n1, hf, ht, pk_mk, pk_snoc]
       first | (refine ⟨fun hc => ?_, fun hc => ?_⟩ <;> first | (exfalso; omega) | (exfalso; contradiction) | refine h1 ?_ | refine h2 ?_) | refine h1 ?_ | refine h2 ?_
       all_goals clear h1 h2 K1 K2)
    | (refine AC_draw (id := 5) (by kernel_rfl) [⟨0, [], [24, 25, 26, 27, 28, 29, 30, 31, 32, 33, 34, 35, 36, 37, 38, 39], [2], [], 0⟩, ⟨1, [], [23, 28, 29, 30, 31, 32, 33, 34, 35, 36, 37, 38], [], [], 0⟩, ⟨2, [1], [23, 28, 29, 30, 31, 32, 33, 34, 35, 36, 37, 38], [], [], 0⟩, ⟨3, [1, 2], [23, 28, 29, 30, 31, 32, 33, 34, 35, 36, 37, 38], [], [], 0⟩, ⟨4, [1, 2, 3], [23, 28, 29, 30, 31, 32, 33, 34, 35, 36, 37, 38], [], [], 0⟩, ⟨5, [], [23, 24, 25, 26, 27, 32, 33, 34, 35, 36], [], [], 0⟩, ⟨6, [5], [23, 24, 25, 26, 27, 32, 33, 34, 35, 36], [], [], 0⟩, ⟨7, [5, 6], [23, 24, 25, 26, 27, 32, 33, 34, 35, 36], [], [], 0⟩, ⟨8, [5, 6, 7], [23, 24, 25, 26, 27, 32, 33, 34, 35, 36], [], [], 0⟩, ⟨9, [], [23, 24, 25, 26, 27, 28, 29, 30, 31, 34, 35, 36], [], [], 0⟩, ⟨10, [9], [23, 24, 25, 26, 27, 28, 29, 30, 31, 34, 35, 36], [], [], 0⟩, ⟨11, [], [23, 24, 25, 26, 27, 28, 29, 30, 31, 32, 33, 36], [], [], 0⟩, ⟨12, [11], [23, 24, 25, 26, 27, 28, 29, 30, 31, 32, 33, 36], [], [], 0⟩, ⟨13, [], [23, 24, 25, 26, 27, 28, 29, 30, 31, 32, 33, 34, 35], [], [], 0⟩, ⟨14, [5, 6, 7, 8, 9, 10, 11, 12, 13], [23, 24, 25, 26, 27], [], [], 0⟩, ⟨15, [5, 6, 7, 8, 9, 10, 11, 12, 13, 14], [23, 24, 25, 26, 27], [], [], 1⟩, ⟨16, [1, 2, 3, 4, 5, 6, 7, 8, 9, 10, 11, 12, 13, 14, 15], [23], [], [2], 1⟩, ⟨17, [0, 1, 2, 3, 4, 5, 6, 7, 8, 9, 10, 11, 12, 13, 14, 15, 16], [], [], [], 0⟩, ⟨18, [0, 1, 2, 3, 4, 5, 6, 7, 8, 9, 10, 11, 12, 13, 14, 15, 16, 17], [], [], [], 0⟩, ⟨19, [0, 1, 2, 3, 4, 5, 6, 7, 8, 9, 10, 11, 12, 13, 14, 15, 16, 17, 18], [], [], [2], 0⟩] (by kernel_rfl) (by kernel_rfl) (by kernel_rfl) ?_)
    | ((first | refine DG_next' (by kernel_rfl) (fun K hK => ?_) | refine DG_nil (by kernel_rfl) (fun K hK => ?_))
       simp only [↓Go.Sy.dsnE_some, ↓Go.Sy.dsnE_none, ↓Go.Sy.dsnE_nil, ↓Go.Sy.dsnO_snoc, ↓Go.Sy.dsnO_nil, ↓Go.Sy.nidAt_snoc, ↓Go.Sy.nidAt_nil, push_cast, Nat.reduceLeDiff, Nat.reduceSub, Nat.reduceBEq, Nat.reduceEqDiff, Nat.reduceAdd, Nat.reduceLT, ↓reduceIte, reduceCtorEq]
       refine hK _ _ _ ?_; clear hK K)
    | (refine DG_go ?_)
    | (refine AL_nil ?_) | (refine Thn_normal ?_) | (refine Thn_ret ?_) | (refine Thn_exit ?_) | (refine Blk_normal ?_) | (refine Blk_ret ?_) | (refine Blk_here ?_) | (refine Blk_other rfl ?_) | (refine AC_block ?_) | (refine AC_exit ?_) | (refine AC_skip ?_) | (refine AC_ret ?_))
  all_goals (refine Ends.mk2 (by first | exact .inr rfl | exact .inl rfl) [0,1,5] ?_; simp (dsimp := false) (disch := first | exact vD | fail) only [push_cast, List.reduceReplicate, Nat.reduceAdd, Nat.reduceMul, Nat.reduceSub, Nat.reduceEqDiff, Nat.reduceLT, Nat.reduceLeDiff, Nat.reduceBEq, Int.reduceToNat, Int.reduceEq, Int.reduceLT, Int.reduceLE, Int.reduceAdd, Int.reduceSub, Int.reduceMul, ↓reduceIte, reduceCtorEq, Try.f12, n1x]; (repeat (refine aI ?_)); try (first | exact vI | fail))
theorem send_ok0 (hf : pty n m.fr = true) (ht : pty n m.to = true) (h0 : 0 ≤ next) (h1 : next ≤ 1000000) : ACall Try.prog 12 [.pt 0 0, .agg (mC m)] (n0 n next f) 2 (.val (.int .i64 0)) (n1x n (next + 1) [⟨next, m.fr, m.to, m⟩] 1 f) := by
  refine ACall.enter Try.func12 rfl (by simp [Try.ntmps12, n0]) (by simp [n0]) ?_
  simp only [entry, idx, n0, Try.ntmps12, List.length, List.map_cons, List.map_nil, List.append_nil, List.cons_append, List.nil_append, Nat.reduceAdd, Nat.zero_add, List.length_cons, List.length_nil]
  repeat' (first
    | (refine AC_seq ?_)
    | (refine AC_region_lit ?_)
    | ((first | refine AL_go rfl (fun K hK => ?_) | refine AL_go0 (fun K hK => ?_) | refine DG_run (fun K hK => ?_))
       (first | refine R_callG (f := 26) [] 0 true ?_)
       simp (dsimp := false) (disch := first | exact vD | fail) only [push_cast, List.reduceReplicate, Nat.reduceAdd, Nat.reduceMul, Nat.reduceSub, Nat.reduceEqDiff, Nat.reduceLT, Nat.reduceLeDiff, Nat.reduceBEq, Int.reduceToNat, Int.reduceEq, Int.reduceLT, Int.reduceLE, Int.reduceAdd, Int.reduceSub, Int.reduceMul, ↓reduceIte, reduceCtorEq, n0, hf, ht, pk_mk, pk_snoc]
       (repeat (refine aI ?_)); intro G hG; refine hG _ _ ?_; clear hG G
       (first | refine ⟨_, _, party_p (l := []), ?_⟩)
       simp (dsimp := false) (disch := first | exact vD | fail) only [push_cast, List.reduceReplicate, Nat.reduceAdd, Nat.reduceMul, Nat.reduceSub, Nat.reduceEqDiff, Nat.reduceLT, Nat.reduceLeDiff, Nat.reduceBEq, Int.reduceToNat, Int.reduceEq, Int.reduceLT, Int.reduceLE, Int.reduceAdd, Int.reduceSub, Int.reduceMul, ↓reduceIte, reduceCtorEq, n0, hf, ht, pk_mk, pk_snoc]
       (repeat (refine aI ?_)); (first | refine hK _ _ _ ?_ | refine hK _ _ ?_); clear hK K)
    | ((first | refine AL_go rfl (fun K hK => ?_) | refine AL_go0 (fun K hK => ?_) | refine DG_run (fun K hK => ?_))
       (first | refine R_move _ ?_ | refine R_assign _ ?_ | refine Q_load _ _ ?_ | refine Q_loadAgg _ _ ?_ | refine Q_fieldAddr _ _ _ ?_ | refine R_nilCheck _ ?_ | refine Q_len _ _ ?_ | refine Q_lenStr _ _ ?_ | refine Q_pick _ _ _ ?_ | refine Q_not _ _ ?_ | refine Q_neg _ _ ?_ | refine Q_box _ _ ?_ | refine Q_store _ _ _ ?_ | refine Q_build _ _ ?_ | refine Q_buildArr _ _ ?_ | refine Q_buildSlice _ _ _ ?_ | refine Q_bin _ _ _ _ _ ?_ | refine Q_appendNil _ _ _ ?_)
       simp (dsimp := false) (disch := first | exact vD | fail) only [push_cast, List.reduceReplicate, Nat.reduceAdd, Nat.reduceMul, Nat.reduceSub, Nat.reduceEqDiff, Nat.reduceLT, Nat.reduceLeDiff, Nat.reduceBEq, Int.reduceToNat, Int.reduceEq, Int.reduceLT, Int.reduceLE, Int.reduceAdd, Int.reduceSub, Int.reduceMul, ↓reduceIte, reduceCtorEq, n0, hf, ht, pk_mk, pk_snoc]
       (repeat (refine aI ?_)); (first | refine hK _ _ _ ?_ | refine hK _ _ ?_); clear hK K)
    | ((first | refine AL_go rfl (fun K hK => ?_) | refine AL_go0 (fun K hK => ?_) | refine DG_run (fun K hK => ?_))
       (first | refine Q_append _ _ _ ?_)
       simp (dsimp := false) (disch := first | exact vD | fail) only [push_cast, List.reduceReplicate, Nat.reduceAdd, Nat.reduceMul, Nat.reduceSub, Nat.reduceEqDiff, Nat.reduceLT, Nat.reduceLeDiff, Nat.reduceBEq, Int.reduceToNat, Int.reduceEq, Int.reduceLT, Int.reduceLE, Int.reduceAdd, Int.reduceSub, Int.reduceMul, ↓reduceIte, reduceCtorEq, n0, hf, ht, pk_mk, pk_snoc]
       (repeat (refine aI ?_)); (first | refine hK _ _ _ ?_ | refine hK _ _ ?_); clear hK K)
    | ((first | refine AL_go rfl (fun K hK => ?_) | refine AL_go0 (fun K hK => ?_) | refine DG_run (fun K hK => ?_))
       (first | refine Q_append00 _ _ _ ?_)
       simp (dsimp := false) (disch := first | exact vD | fail) only [push_cast, List.reduceReplicate, Nat.reduceAdd, Nat.reduceMul, Nat.reduceSub, Nat.reduceEqDiff, Nat.reduceLT, Nat.reduceLeDiff, Nat.reduceBEq, Int.reduceToNat, Int.reduceEq, Int.reduceLT, Int.reduceLE, Int.reduceAdd, Int.reduceSub, Int.reduceMul, ↓reduceIte, reduceCtorEq, n0, hf, ht, pk_mk, pk_snoc]
       (repeat (refine aI ?_)); (first | refine hK _ _ _ ?_ | refine hK _ _ ?_); clear hK K)
    | ((first | refine AL_go rfl (fun K hK => ?_) | refine AL_go0 (fun K hK => ?_) | refine DG_run (fun K hK => ?_))
       (first | refine Q_appendIn _ _ _ ?_)
       simp (dsimp := false) (disch := first | exact vD | fail) only [push_cast, List.reduceReplicate, Nat.reduceAdd, Nat.reduceMul, Nat.reduceSub, Nat.reduceEqDiff, Nat.reduceLT, Nat.reduceLeDiff, Nat.reduceBEq, Int.reduceToNat, Int.reduceEq, Int.reduceLT, Int.reduceLE, Int.reduceAdd, Int.reduceSub, Int.reduceMul, ↓reduceIte, reduceCtorEq, n0, hf, ht, pk_mk, pk_snoc]
       (repeat (refine aI ?_)); (first | refine hK _ _ _ ?_ | refine hK _ _ ?_); clear hK K)
    | ((first | refine AL_guard rfl rfl (fun K1 K2 h1 h2 => ?_) rfl | refine AC_cond_k (fun K1 K2 h1 h2 => ?_) | refine DG_guard rfl rfl (fun K1 K2 h1 h2 => ?_))
       simp (dsimp := false) (disch := first | exact vD | fail) only [push_cast, List.reduceReplicate, Nat.reduceAdd, Nat.reduceMul, Nat.reduceSub, Nat.reduceEqDiff, Nat.reduceLT, Nat.reduceLeDiff, Nat.reduceBEq, Int.reduceToNat, Int.reduceEq, Int.reduceLT, Int.reduceLE, Int.reduceAdd, Int.reduceSub, Int.reduceMul, ↓reduceIte, reduceCtorEq, n0, hf, ht, pk_mk, pk_snoc]
       first | (refine ⟨fun hc => ?_, fun hc => ?_⟩ <;> first | (exfalso; omega) | (exfalso; contradiction) | refine h1 ?_ | refine h2 ?_) | refine h1 ?_ | refine h2 ?_
       all_goals clear h1 h2 K1 K2)
    | (refine AC_draw (id := 5) (by kernel_rfl) [⟨0, [], [24, 25, 26, 27, 28, 29, 30, 31, 32, 33, 34, 35, 36, 37, 38, 39], [2], [], 0⟩, ⟨1, [], [23, 28, 29, 30, 31, 32, 33, 34, 35, 36, 37, 38], [], [], 0⟩, ⟨2, [1], [23, 28, 29, 30, 31, 32, 33, 34, 35, 36, 37, 38], [], [], 0⟩, ⟨3, [1, 2], [23, 28, 29, 30, 31, 32, 33, 34, 35, 36, 37, 38], [], [], 0⟩, ⟨4, [1, 2, 3], [23, 28, 29, 30, 31, 32, 33, 34, 35, 36, 37, 38], [], [], 0⟩, ⟨5, [], [23, 24, 25, 26, 27, 32, 33, 34, 35, 36], [], [], 0⟩, ⟨6, [5], [23, 24, 25, 26, 27, 32, 33, 34, 35, 36], [], [], 0⟩, ⟨7, [5, 6], [23, 24, 25, 26, 27, 32, 33, 34, 35, 36], [], [], 0⟩, ⟨8, [5, 6, 7], [23, 24, 25, 26, 27, 32, 33, 34, 35, 36], [], [], 0⟩, ⟨9, [], [23, 24, 25, 26, 27, 28, 29, 30, 31, 34, 35, 36], [], [], 0⟩, ⟨10, [9], [23, 24, 25, 26, 27, 28, 29, 30, 31, 34, 35, 36], [], [], 0⟩, ⟨11, [], [23, 24, 25, 26, 27, 28, 29, 30, 31, 32, 33, 36], [], [], 0⟩, ⟨12, [11], [23, 24, 25, 26, 27, 28, 29, 30, 31, 32, 33, 36], [], [], 0⟩, ⟨13, [], [23, 24, 25, 26, 27, 28, 29, 30, 31, 32, 33, 34, 35], [], [], 0⟩, ⟨14, [5, 6, 7, 8, 9, 10, 11, 12, 13], [23, 24, 25, 26, 27], [], [], 0⟩, ⟨15, [5, 6, 7, 8, 9, 10, 11, 12, 13, 14], [23, 24, 25, 26, 27], [], [], 1⟩, ⟨16, [1, 2, 3, 4, 5, 6, 7, 8, 9, 10, 11, 12, 13, 14, 15], [23], [], [2], 1⟩, ⟨17, [0, 1, 2, 3, 4, 5, 6, 7, 8, 9, 10, 11, 12, 13, 14, 15, 16], [], [], [], 0⟩, ⟨18, [0, 1, 2, 3, 4, 5, 6, 7, 8, 9, 10, 11, 12, 13, 14, 15, 16, 17], [], [], [], 0⟩, ⟨19, [0, 1, 2, 3, 4, 5, 6, 7, 8, 9, 10, 11, 12, 13, 14, 15, 16, 17, 18], [], [], [2], 0⟩] (by kernel_rfl) (by kernel_rfl) (by kernel_rfl) ?_)
    | ((first | refine DG_next' (by kernel_rfl) (fun K hK => ?_) | refine DG_nil (by kernel_rfl) (fun K hK => ?_))
       simp only [↓Go.Sy.dsnE_some, ↓Go.Sy.dsnE_none, ↓Go.Sy.dsnE_nil, ↓Go.Sy.dsnO_snoc, ↓Go.Sy.dsnO_nil, ↓Go.Sy.nidAt_snoc, ↓Go.Sy.nidAt_nil, push_cast, Nat.reduceLeDiff, Nat.reduceSub, Nat.reduceBEq, Nat.reduceEqDiff, Nat.reduceAdd, Nat.reduceLT, ↓reduceIte, reduceCtorEq]
       refine hK _ _ _ ?_; clear hK K)
    | (refine DG_go ?_)
    | (refine AL_nil ?_) | (refine Thn_normal ?_) | (refine Thn_ret ?_) | (refine Thn_exit ?_) | (refine Blk_normal ?_) | (refine Blk_ret ?_) | (refine Blk_here ?_) | (refine Blk_other rfl ?_) | (refine AC_block ?_) | (refine AC_exit ?_) | (refine AC_skip ?_) | (refine AC_ret ?_))
  all_goals (refine Ends.mk2 (by first | exact .inr rfl | exact .inl rfl) [0,1,4] ?_; simp (dsimp := false) (disch := first | exact vD | fail) only [push_cast, List.reduceReplicate, Nat.reduceAdd, Nat.reduceMul, Nat.reduceSub, Nat.reduceEqDiff, Nat.reduceLT, Nat.reduceLeDiff, Nat.reduceBEq, Int.reduceToNat, Int.reduceEq, Int.reduceLT, Int.reduceLE, Int.reduceAdd, Int.reduceSub, Int.reduceMul, ↓reduceIte, reduceCtorEq, Try.f12, n1x]; (repeat (refine aI ?_)); try (first | exact vI | fail))
end Go.Proofs.Ytphpjgfhdoobjaa
