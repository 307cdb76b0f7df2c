/- The network: packets compared; the messages of operations. No condition. -/
import Derived.Test.YtphpjgfhdoobjaaNet11
set_option linter.unusedVariables false
set_option linter.unusedSectionVars false
set_option linter.unusedSimpArgs false
set_option maxHeartbeats 1000000
set_option maxRecDepth 20000
namespace Go.Proofs.Ytphpjgfhdoobjaa
open Go Go.Sy
attribute [local irreducible] AO AL AC OpT ACall Ends DGo DRun Thn Blk Nxt
variable {l : List Pk} {n next a b : Int} {i j k len : Nat} {z z2 : Bool} {m : Msg} {f : List (List Int × Bool)} {c : Bool} {B : List Bool}

theorem same_ok : ACall Try.prog 41 [.agg (mC m), .agg (mC m)] [] 0 (.val (.bool true)) [] := by
  refine ACall.enter Try.func41 rfl (by simp [Try.ntmps41, mC]) (by simp [mC]) ?_
  simp only [entry, idx, mC, Try.ntmps41, List.length, List.map_cons, List.map_nil, List.append_nil, List.cons_append, List.nil_append, Nat.reduceAdd, Nat.zero_add, List.length_cons, List.length_nil]
  repeat' (first
    | (refine AC_seq ?_)
    | (refine AC_region_lit ?_)
    | ((first | refine AL_go rfl (fun K hK => ?_) | refine AL_go0 (fun K hK => ?_))
       (first | refine R_move _ ?_ | refine R_assign _ ?_ | refine Q_load _ _ ?_ | refine Q_loadAgg _ _ ?_ | refine Q_fieldAddr _ _ _ ?_ | refine Q_len _ _ ?_ | refine Q_lenStr _ _ ?_ | refine Q_pick _ _ _ ?_ | refine Q_box _ _ ?_ | refine Q_eqAgg _ _ _ _ ?_ | refine Q_neqAgg _ _ _ _ ?_ | refine Q_neqSelf _ _ _ _ ?_ | refine Q_bin _ _ _ _ _ ?_)
       simp (dsimp := false) (disch := first | exact vD | fail) only [push_cast, List.reduceReplicate, Nat.reduceAdd, Nat.reduceMul, Nat.reduceSub, Nat.reduceEqDiff, Nat.reduceLT, Nat.reduceLeDiff, Nat.reduceBEq, Int.reduceToNat, Int.reduceEq, Int.reduceLT, Int.reduceLE, Int.reduceAdd, Int.reduceSub, Int.reduceMul, ↓reduceIte, reduceCtorEq, mC, beq_self_eq_true, ne_eq, not_true_eq_false, decide_false]
       (repeat (refine aI ?_)); (first | refine hK _ _ _ ?_ | refine hK _ _ ?_); clear hK K)
    | ((first | refine AL_guard rfl rfl (fun K1 K2 h1 h2 => ?_) rfl | refine AC_cond_k (fun K1 K2 h1 h2 => ?_))
       simp (dsimp := false) (disch := first | exact vD | fail) only [push_cast, List.reduceReplicate, Nat.reduceAdd, Nat.reduceMul, Nat.reduceSub, Nat.reduceEqDiff, Nat.reduceLT, Nat.reduceLeDiff, Nat.reduceBEq, Int.reduceToNat, Int.reduceEq, Int.reduceLT, Int.reduceLE, Int.reduceAdd, Int.reduceSub, Int.reduceMul, ↓reduceIte, reduceCtorEq, mC, beq_self_eq_true, ne_eq, not_true_eq_false, decide_false]
       first | (refine ⟨fun hc => ?_, fun hc => ?_⟩ <;> first | (exfalso; omega) | (exfalso; contradiction) | refine h1 ?_ | refine h2 ?_) | refine h1 ?_ | refine h2 ?_
       all_goals clear h1 h2 K1 K2)
    | (refine AL_nil ?_) | (refine Thn_normal ?_) | (refine Thn_ret ?_) | (refine Thn_exit ?_) | (refine Blk_normal ?_) | (refine Blk_ret ?_) | (refine Blk_here ?_) | (refine Blk_other rfl ?_) | (refine AC_block ?_) | (refine AC_exit ?_) | (refine AC_skip ?_) | (refine AC_ret ?_))
  all_goals (refine Ends.mk2 (by first | exact .inr rfl | exact .inl rfl) [] ?_; simp (dsimp := false) (disch := first | exact vD | fail) only [push_cast, List.reduceReplicate, Nat.reduceAdd, Nat.reduceMul, Nat.reduceSub, Nat.reduceEqDiff, Nat.reduceLT, Nat.reduceLeDiff, Nat.reduceBEq, Int.reduceToNat, Int.reduceEq, Int.reduceLT, Int.reduceLE, Int.reduceAdd, Int.reduceSub, Int.reduceMul, ↓reduceIte, reduceCtorEq, Try.f41]; (repeat (refine aI ?_)); try (first | exact vI | fail))
theorem equal_ok {p : Pk} : ACall Try.prog 24 [.agg (pC p), .agg (pC p)] [] 0 (.val (.bool true)) [] := by
  refine ACall.enter Try.func24 rfl (by simp [Try.ntmps24]) (by simp) ?_
  simp only [entry, idx, Try.ntmps24, List.length, List.map_cons, List.map_nil, List.append_nil, List.cons_append, List.nil_append, Nat.reduceAdd, Nat.zero_add, List.length_cons, List.length_nil]
  repeat' (first
    | (refine AC_seq ?_)
    | (refine AC_region_lit ?_)
    | ((first | refine AL_go rfl (fun K hK => ?_) | refine AL_go0 (fun K hK => ?_))
       (first | refine R_callG (f := 41) [] 0 false ?_)
       simp (dsimp := false) (disch := first | exact vD | fail) only [push_cast, List.reduceReplicate, Nat.reduceAdd, Nat.reduceMul, Nat.reduceSub, Nat.reduceEqDiff, Nat.reduceLT, Nat.reduceLeDiff, Nat.reduceBEq, Int.reduceToNat, Int.reduceEq, Int.reduceLT, Int.reduceLE, Int.reduceAdd, Int.reduceSub, Int.reduceMul, ↓reduceIte, reduceCtorEq, beq_self_eq_true, ne_eq, not_true_eq_false, decide_false]
       (repeat (refine aI ?_)); intro G hG; refine hG _ _ ?_; clear hG G
       (first | refine ⟨_, _, same_ok, ?_⟩)
       simp (dsimp := false) (disch := first | exact vD | fail) only [push_cast, List.reduceReplicate, Nat.reduceAdd, Nat.reduceMul, Nat.reduceSub, Nat.reduceEqDiff, Nat.reduceLT, Nat.reduceLeDiff, Nat.reduceBEq, Int.reduceToNat, Int.reduceEq, Int.reduceLT, Int.reduceLE, Int.reduceAdd, Int.reduceSub, Int.reduceMul, ↓reduceIte, reduceCtorEq, beq_self_eq_true, ne_eq, not_true_eq_false, decide_false]
       (repeat (refine aI ?_)); (first | refine hK _ _ _ ?_ | refine hK _ _ ?_); clear hK K)
    | ((first | refine AL_go rfl (fun K hK => ?_) | refine AL_go0 (fun K hK => ?_))
       (first | refine R_move _ ?_ | refine R_assign _ ?_ | refine Q_load _ _ ?_ | refine Q_loadAgg _ _ ?_ | refine Q_fieldAddr _ _ _ ?_ | refine Q_pick _ _ _ ?_ | refine Q_box _ _ ?_ | refine Q_eqAgg _ _ _ _ ?_ | refine Q_neqAgg _ _ _ _ ?_ | refine Q_neqSelf _ _ _ _ ?_ | refine Q_bin _ _ _ _ _ ?_)
       simp (dsimp := false) (disch := first | exact vD | fail) only [push_cast, List.reduceReplicate, Nat.reduceAdd, Nat.reduceMul, Nat.reduceSub, Nat.reduceEqDiff, Nat.reduceLT, Nat.reduceLeDiff, Nat.reduceBEq, Int.reduceToNat, Int.reduceEq, Int.reduceLT, Int.reduceLE, Int.reduceAdd, Int.reduceSub, Int.reduceMul, ↓reduceIte, reduceCtorEq, beq_self_eq_true, ne_eq, not_true_eq_false, decide_false]
       (repeat (refine aI ?_)); (first | refine hK _ _ _ ?_ | refine hK _ _ ?_); clear hK K)
    | ((first | refine AL_guard rfl rfl (fun K1 K2 h1 h2 => ?_) rfl | refine AC_cond_k (fun K1 K2 h1 h2 => ?_))
       simp (dsimp := false) (disch := first | exact vD | fail) only [push_cast, List.reduceReplicate, Nat.reduceAdd, Nat.reduceMul, Nat.reduceSub, Nat.reduceEqDiff, Nat.reduceLT, Nat.reduceLeDiff, Nat.reduceBEq, Int.reduceToNat, Int.reduceEq, Int.reduceLT, Int.reduceLE, Int.reduceAdd, Int.reduceSub, Int.reduceMul, ↓reduceIte, reduceCtorEq, beq_self_eq_true, ne_eq, not_true_eq_false, decide_false]
       first | (refine ⟨fun hc => ?_, fun hc => ?_⟩ <;> first | (exfalso; omega) | (exfalso; contradiction) | refine h1 ?_ | refine h2 ?_) | refine h1 ?_ | refine h2 ?_
       all_goals clear h1 h2 K1 K2)
    | (refine AL_nil ?_) | (refine Thn_normal ?_) | (refine Thn_ret ?_) | (refine Thn_exit ?_) | (refine Blk_normal ?_) | (refine Blk_ret ?_) | (refine Blk_here ?_) | (refine Blk_other rfl ?_) | (refine AC_block ?_) | (refine AC_exit ?_) | (refine AC_skip ?_) | (refine AC_ret ?_))
  all_goals (refine Ends.mk2 (by first | exact .inr rfl | exact .inl rfl) [] ?_; simp (dsimp := false) (disch := first | exact vD | fail) only [push_cast, List.reduceReplicate, Nat.reduceAdd, Nat.reduceMul, Nat.reduceSub, Nat.reduceEqDiff, Nat.reduceLT, Nat.reduceLeDiff, Nat.reduceBEq, Int.reduceToNat, Int.reduceEq, Int.reduceLT, Int.reduceLE, Int.reduceAdd, Int.reduceSub, Int.reduceMul, ↓reduceIte, reduceCtorEq, Try.f24]; (repeat (refine aI ?_)); try (first | exact vI | fail))
def sameI (z z2 : Bool) (l : List Pk) (j : {j : Nat // j ≤ l.length}) : St :=
  ⟨27, 0, [(0,.isl z (cR l) l.length), (1,.isl z2 (cR l) l.length), (5,.val (.int .i64 j.val))], []⟩
theorem sameL (hn : l.length ≤ 1000) : ACall Try.prog 21 [.isl z (cR l) l.length, .isl z2 (cR l) l.length] [] 0 (.val (.bool true)) [] := by
  refine ACall.enter Try.func21 rfl (by simp [Try.ntmps21]) (by simp) ?_
  simp only [entry, idx, Try.ntmps21, List.length, List.map_cons, List.map_nil, List.append_nil, List.cons_append, List.nil_append, Nat.reduceAdd, Nat.zero_add, List.length_cons, List.length_nil]
  repeat' (first
    | (refine AC_loop_id ?_; refine AC_loop' [] ([].length) (sameI z z2 l) (fun j => l.length - j.val) (⟨0, by omega⟩) rfl (by unfold sameI; (try simp only [List.cons_append, List.nil_append]); refine Sub.mk2 ?_; (simp (dsimp := false) (disch := first | exact vD | fail) only [push_cast, List.reduceReplicate, Nat.reduceAdd, Nat.reduceMul, Nat.reduceSub, Nat.reduceEqDiff, Nat.reduceLT, Nat.reduceLeDiff, Nat.reduceBEq, Int.reduceToNat, Int.reduceEq, Int.reduceLT, Int.reduceLE, Int.reduceAdd, Int.reduceSub, Int.reduceMul, ↓reduceIte, reduceCtorEq, pc_load, ne_eq, not_true_eq_false, decide_false]); (repeat (refine aI ?_)); (first | done | (first | exact vI | fail)); done) ?_; (rintro ⟨j, hj⟩; (simp (dsimp := false) (disch := first | exact vD | fail) only [push_cast, List.reduceReplicate, Nat.reduceAdd, Nat.reduceMul, Nat.reduceSub, Nat.reduceEqDiff, Nat.reduceLT, Nat.reduceLeDiff, Nat.reduceBEq, Int.reduceToNat, Int.reduceEq, Int.reduceLT, Int.reduceLE, Int.reduceAdd, Int.reduceSub, Int.reduceMul, ↓reduceIte, reduceCtorEq, sameI])))
    | (refine Nxt_id ?_; refine Nxt.mk [] (⟨j + 1, by omega⟩) rfl (by unfold sameI; (try simp only [List.cons_append, List.nil_append]); refine Sub.mk2 ?_; (simp (dsimp := false) (disch := first | exact vD | fail) only [push_cast, List.reduceReplicate, Nat.reduceAdd, Nat.reduceMul, Nat.reduceSub, Nat.reduceEqDiff, Nat.reduceLT, Nat.reduceLeDiff, Nat.reduceBEq, Int.reduceToNat, Int.reduceEq, Int.reduceLT, Int.reduceLE, Int.reduceAdd, Int.reduceSub, Int.reduceMul, ↓reduceIte, reduceCtorEq, pc_load, ne_eq, not_true_eq_false, decide_false]); (repeat (refine aI ?_)); (first | done | (first | exact vI | fail)); done) (by first | omega | (simp; done) | (simp; omega)))
    | (refine AC_seq ?_)
    | (refine AC_region_lit ?_)
    | ((first | refine AL_go rfl (fun K hK => ?_) | refine AL_go0 (fun K hK => ?_) | refine DG_run (fun K hK => ?_))
       (first | refine R_callG (f := 24) [] 0 false ?_)
       simp (dsimp := false) (disch := first | exact vD | fail) only [push_cast, List.reduceReplicate, Nat.reduceAdd, Nat.reduceMul, Nat.reduceSub, Nat.reduceEqDiff, Nat.reduceLT, Nat.reduceLeDiff, Nat.reduceBEq, Int.reduceToNat, Int.reduceEq, Int.reduceLT, Int.reduceLE, Int.reduceAdd, Int.reduceSub, Int.reduceMul, ↓reduceIte, reduceCtorEq, pc_load, ne_eq, not_true_eq_false, decide_false]
       (repeat (refine aI ?_)); intro G hG; refine hG _ _ ?_; clear hG G
       (first | refine ⟨_, _, equal_ok, ?_⟩)
       simp (dsimp := false) (disch := first | exact vD | fail) only [push_cast, List.reduceReplicate, Nat.reduceAdd, Nat.reduceMul, Nat.reduceSub, Nat.reduceEqDiff, Nat.reduceLT, Nat.reduceLeDiff, Nat.reduceBEq, Int.reduceToNat, Int.reduceEq, Int.reduceLT, Int.reduceLE, Int.reduceAdd, Int.reduceSub, Int.reduceMul, ↓reduceIte, reduceCtorEq, pc_load, ne_eq, not_true_eq_false, decide_false]
       (repeat (refine aI ?_)); (first | refine hK _ _ _ ?_ | refine hK _ _ ?_); clear hK K)
    | ((first | refine AL_go rfl (fun K hK => ?_) | refine AL_go0 (fun K hK => ?_) | refine DG_run (fun K hK => ?_))
       (first | refine R_move _ ?_ | refine R_assign _ ?_ | refine Q_load _ _ ?_ | refine Q_loadAgg _ _ ?_ | refine Q_indexAddr _ _ _ ?_ | refine Q_indexArr _ _ _ ?_ | refine Q_len _ _ ?_ | refine Q_lenStr _ _ ?_ | refine Q_not _ _ ?_ | refine Q_neg _ _ ?_ | refine Q_eqAgg _ _ _ _ ?_ | refine Q_neqAgg _ _ _ _ ?_ | refine Q_neqSelf _ _ _ _ ?_ | refine Q_bin _ _ _ _ _ ?_)
       simp (dsimp := false) (disch := first | exact vD | fail) only [push_cast, List.reduceReplicate, Nat.reduceAdd, Nat.reduceMul, Nat.reduceSub, Nat.reduceEqDiff, Nat.reduceLT, Nat.reduceLeDiff, Nat.reduceBEq, Int.reduceToNat, Int.reduceEq, Int.reduceLT, Int.reduceLE, Int.reduceAdd, Int.reduceSub, Int.reduceMul, ↓reduceIte, reduceCtorEq, pc_load, ne_eq, not_true_eq_false, decide_false]
       (repeat (refine aI ?_)); (first | refine hK _ _ _ ?_ | refine hK _ _ ?_); clear hK K)
    | ((first | refine AL_guard rfl rfl (fun K1 K2 h1 h2 => ?_) rfl | refine AC_cond_k (fun K1 K2 h1 h2 => ?_) | refine DG_guard rfl rfl (fun K1 K2 h1 h2 => ?_))
       simp (dsimp := false) (disch := first | exact vD | fail) only [push_cast, List.reduceReplicate, Nat.reduceAdd, Nat.reduceMul, Nat.reduceSub, Nat.reduceEqDiff, Nat.reduceLT, Nat.reduceLeDiff, Nat.reduceBEq, Int.reduceToNat, Int.reduceEq, Int.reduceLT, Int.reduceLE, Int.reduceAdd, Int.reduceSub, Int.reduceMul, ↓reduceIte, reduceCtorEq, pc_load, ne_eq, not_true_eq_false, decide_false]
       first | (refine ⟨fun hc => ?_, fun hc => ?_⟩ <;> first | (exfalso; omega) | (exfalso; contradiction) | refine h1 ?_ | refine h2 ?_) | refine h1 ?_ | refine h2 ?_
       all_goals clear h1 h2 K1 K2)
    | (refine AC_draw (id := 6) (by kernel_rfl) [⟨0, [], [18, 21, 22, 23, 24], [], [], 0⟩, ⟨1, [], [17, 21, 22, 23, 24], [], [], 0⟩, ⟨2, [0, 1], [21, 22, 23, 24], [], [], 0⟩, ⟨3, [0, 1, 2], [21, 22, 23, 24], [], [], 0⟩, ⟨4, [], [17, 18, 19, 20, 22], [], [], 0⟩, ⟨5, [], [17, 18, 19, 20, 21], [], [], 0⟩, ⟨6, [4, 5], [17, 18, 19, 20], [], [], 0⟩, ⟨7, [4, 5, 6], [17, 18, 19, 20], [], [], 0⟩, ⟨8, [0, 1, 2, 3, 4, 5, 6, 7], [], [], [], 0⟩, ⟨9, [0, 1, 2, 3, 4, 5, 6, 7, 8], [], [], [], 0⟩] (by kernel_rfl) (by kernel_rfl) (by kernel_rfl) ?_)
    | ((first | refine DG_next' (by kernel_rfl) (fun K hK => ?_) | refine DG_nil (by kernel_rfl) (fun K hK => ?_))
       simp only [↓Go.Sy.dsnE_some, ↓Go.Sy.dsnE_none, ↓Go.Sy.dsnE_nil, ↓Go.Sy.dsnO_snoc, ↓Go.Sy.dsnO_nil, ↓Go.Sy.nidAt_snoc, ↓Go.Sy.nidAt_nil, push_cast, Nat.reduceLeDiff, Nat.reduceSub, Nat.reduceBEq, Nat.reduceEqDiff, Nat.reduceAdd, Nat.reduceLT, ↓reduceIte, reduceCtorEq]
       refine hK _ _ _ ?_; clear hK K)
    | (refine DG_go ?_)
    | (refine AL_nil ?_) | (refine Thn_normal ?_) | (refine Thn_ret ?_) | (refine Thn_exit ?_) | (refine Blk_normal ?_) | (refine Blk_ret ?_) | (refine Blk_here ?_) | (refine Blk_other rfl ?_) | (refine AC_block ?_) | (refine AC_exit ?_) | (refine AC_skip ?_) | (refine AC_ret ?_))
  all_goals (refine Ends.mk2 (by first | exact .inr rfl | exact .inl rfl) [] ?_; simp (dsimp := false) (disch := first | exact vD | fail) only [push_cast, List.reduceReplicate, Nat.reduceAdd, Nat.reduceMul, Nat.reduceSub, Nat.reduceEqDiff, Nat.reduceLT, Nat.reduceLeDiff, Nat.reduceBEq, Int.reduceToNat, Int.reduceEq, Int.reduceLT, Int.reduceLE, Int.reduceAdd, Int.reduceSub, Int.reduceMul, ↓reduceIte, reduceCtorEq, Try.f21]; (repeat (refine aI ?_)); try (first | exact vI | fail))
/-- An operation: kind, from, to, id, two sets. -/
structure OpN where
  kind : Int
  fr : Int
  to : Int
  id : Int
  a : Int
  b : Int
instance : Inhabited OpN := ⟨⟨0, 0, 0, 0, 0, 0⟩⟩
def oC (o : OpN) : List AV := [.val (.int .u8 o.kind), .val (.int .i8 o.fr), .val (.int .i8 o.to), .val (.int .i16 o.id), .val (.int .u16 o.a), .val (.int .u16 o.b)]
def okO (o : OpN) : Prop := (0 ≤ o.kind ∧ o.kind ≤ 255) ∧ (-128 ≤ o.fr ∧ o.fr ≤ 127) ∧ (-128 ≤ o.to ∧ o.to ≤ 127) ∧ (-32768 ≤ o.id ∧ o.id ≤ 32767) ∧ (0 ≤ o.a ∧ o.a ≤ 65535) ∧ (0 ≤ o.b ∧ o.b ≤ 65535)
def msgO (o : OpN) : Msg := { (default : Msg) with kind := 1, fr := o.fr, to := o.to, slot := o.id }
theorem mco {o : OpN} : mC (msgO o) = [.val (.int .i64 1), .val (.int .i64 o.fr), .val (.int .i64 o.to), .val (.int .i64 0), .val (.int .i64 o.id), .val (.string ⟨#[]⟩), .val (.int .i64 0), .val (.int .i64 0), .val (.int .i64 0), .val (.int .i64 0), .val (.int .i64 0), .val (.string ⟨#[]⟩), .val (.string ⟨#[]⟩), .isl true [] 0, .isl true [] 0, .val (.int .i64 0), .val (.string ⟨#[]⟩), .isl true [] 0, .isl true [] 0, .isl true [] 0, .isl true [] 0] := rfl
theorem message_ok {o : OpN} (ho : okO o) : ACall Try.prog 34 [.agg (oC o)] [] 0 (.agg (mC (msgO o))) [] := by
  obtain ⟨o1, o2, o3, o4, o5, o6⟩ := ho
  refine ACall.enter Try.func34 rfl (by simp [Try.ntmps34, oC]) (by simp [oC]) ?_
  simp only [entry, idx, oC, Try.ntmps34, List.length, List.map_cons, List.map_nil, List.append_nil, List.cons_append, List.nil_append, Nat.reduceAdd, Nat.zero_add, List.length_cons, List.length_nil]
  repeat' (first
    | (refine AC_seq ?_)
    | (refine AC_region_lit ?_)
    | ((first | refine AL_go rfl (fun K hK => ?_) | refine AL_go0 (fun K hK => ?_))
       (first | refine Q_load _ _ ?_ | refine Q_loadAgg _ _ ?_ | refine Q_fieldAddr _ _ _ ?_ | refine Q_box _ _ ?_ | refine R_alloc _ ?_ | refine Q_store _ _ _ ?_ | refine Q_build _ _ ?_ | refine Q_buildArr _ _ ?_ | refine Q_convert _ _ _ ?_)
       simp (dsimp := false) (disch := first | exact vD | fail) only [push_cast, List.reduceReplicate, Nat.reduceAdd, Nat.reduceMul, Nat.reduceSub, Nat.reduceEqDiff, Nat.reduceLT, Nat.reduceLeDiff, Nat.reduceBEq, Int.reduceToNat, Int.reduceEq, Int.reduceLT, Int.reduceLE, Int.reduceAdd, Int.reduceSub, Int.reduceMul, ↓reduceIte, reduceCtorEq, oC, mco]
       (repeat (refine aI ?_)); (first | refine hK _ _ _ ?_ | refine hK _ _ ?_); clear hK K)
    | ((first | refine AL_guard rfl rfl (fun K1 K2 h1 h2 => ?_) rfl | refine AC_cond_k (fun K1 K2 h1 h2 => ?_))
       simp (dsimp := false) (disch := first | exact vD | fail) only [push_cast, List.reduceReplicate, Nat.reduceAdd, Nat.reduceMul, Nat.reduceSub, Nat.reduceEqDiff, Nat.reduceLT, Nat.reduceLeDiff, Nat.reduceBEq, Int.reduceToNat, Int.reduceEq, Int.reduceLT, Int.reduceLE, Int.reduceAdd, Int.reduceSub, Int.reduceMul, ↓reduceIte, reduceCtorEq, oC, mco]
       first | (refine ⟨fun hc => ?_, fun hc => ?_⟩ <;> first | (exfalso; omega) | (exfalso; contradiction) | refine h1 ?_ | refine h2 ?_) | refine h1 ?_ | refine h2 ?_
       all_goals clear h1 h2 K1 K2)
    | (refine AL_nil ?_) | (refine Thn_normal ?_) | (refine Thn_ret ?_) | (refine Thn_exit ?_) | (refine Blk_normal ?_) | (refine Blk_ret ?_) | (refine Blk_here ?_) | (refine Blk_other rfl ?_) | (refine AC_block ?_) | (refine AC_exit ?_) | (refine AC_skip ?_) | (refine AC_ret ?_))
  all_goals (refine Ends.mk2 (by first | exact .inr rfl | exact .inl rfl) [] ?_; simp (dsimp := false) (disch := first | exact vD | fail) only [push_cast, List.reduceReplicate, Nat.reduceAdd, Nat.reduceMul, Nat.reduceSub, Nat.reduceEqDiff, Nat.reduceLT, Nat.reduceLeDiff, Nat.reduceBEq, Int.reduceToNat, Int.reduceEq, Int.reduceLT, Int.reduceLE, Int.reduceAdd, Int.reduceSub, Int.reduceMul, ↓reduceIte, reduceCtorEq, Try.f34, mco]; (repeat (refine aI ?_)); try (first | exact vI | fail))
end Go.Proofs.Ytphpjgfhdoobjaa
