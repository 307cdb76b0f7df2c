/- The network: Do of the reference; one operation on both sides. No condition. -/
import Derived.Test.YtphpjgfhdoobjaaNet16
set_option linter.unusedVariables false
set_option linter.unusedSectionVars false
set_option linter.unusedSimpArgs false
set_option maxHeartbeats 1000000
set_option maxRecDepth 20000
namespace Go.Proofs.Ytphpjgfhdoobjaa
open Go Go.Sy
attribute [local irreducible] AO AL AC OpT ACall Ends DGo DRun Thn Blk Nxt
variable {n a b : Int} {i j k len : Nat} {z z2 : Bool} {m : Msg} {c : Bool} {s : NS} {o : OpN} {l : List Pk} {f : List (List Int × Bool)} {next : Int} {B : List Bool}

theorem lB_send : (sendS n s m).s.B = s.B := by unfold sendS; split <;> (first | rfl | (split <;> rfl))
theorem lB_take : (takeS s a).s.B = s.B := by unfold takeS; split <;> (first | rfl | (split <;> rfl))
theorem lB_next : (nextS n s a).s.B = s.B := by unfold nextS; split <;> (first | rfl | (split <;> rfl))
theorem lB_drop : (dropS s a).s.B = s.B := by unfold dropS; split <;> rfl
theorem lB_rep : (repS n s a).s.B = s.B := by unfold repS; split <;> (first | rfl | exact lB_send)
theorem lB_block (h : s.B.length = 324) : (blockS n s a b c).s.B.length = 324 := by
  unfold blockS; split
  · show (gridR _ _ _ _ _).length = 324; rw [gridr_len, h]
  · exact h
theorem do_send (h : okS n s k) (hk0 : k ≤ 1000000) (ho : okO o) (hk : o.kind % 7 = 0) : ACall Try.prog 23 [rS n s, .agg (oC o)] [] 0 (.tup [rS n (sendS n s (msgO o)).s, .agg (pC (sendS n s (msgO o)).p), .val (.int .i64 (sendS n s (msgO o)).e)]) [] := by
  have ho' := ho
  obtain ⟨o1, o2, o3, o4, o5, o6⟩ := ho'
  skip
  have hF : (fB 324).length = 324 := fB_len
  have hB1 : s.B.length = 324 := h.lB
  have hB2 : (sendS n s (msgO o)).s.B.length = 324 := by rw [lB_send]; exact h.lB
  rw [sendS_p]
  refine ACall.enter Try.func23 rfl (by simp [Try.ntmps23, rS, rN, oC]) (by simp [rS, rN, oC]) ?_
  simp only [entry, idx, rS, rN, oC, Try.ntmps23, List.length, List.map_cons, List.map_nil, List.append_nil, List.cons_append, List.nil_append, Nat.reduceAdd, Nat.zero_add, List.length_cons, List.length_nil]
  repeat' (first
    | (refine AC_seq ?_)
    | (refine AC_region_lit ?_)
    | ((first | refine AL_go rfl (fun K hK => ?_) | refine AL_go0 (fun K hK => ?_) | refine DG_run (fun K hK => ?_))
       (first | refine R_callG (f := 34) [] 0 false ?_ | refine R_callG (f := 20) [] 0 false ?_)
       simp (dsimp := false) (disch := first | exact vD | fail) only [push_cast, List.reduceReplicate, Nat.reduceAdd, Nat.reduceMul, Nat.reduceSub, Nat.reduceEqDiff, Nat.reduceLT, Nat.reduceLeDiff, Nat.reduceBEq, Int.reduceToNat, Int.reduceEq, Int.reduceLT, Int.reduceLE, Int.reduceAdd, Int.reduceSub, Int.reduceMul, ↓reduceIte, reduceCtorEq, rS, rN, pz, oC, hk]
       (repeat (refine aI ?_)); intro G hG; refine hG _ _ ?_; clear hG G
       (first | refine ⟨_, _, message_ok ho, ?_⟩ | refine ⟨_, _, rsendQ (m := msgO o) h hk0, ?_⟩)
       simp (dsimp := false) (disch := first | exact vD | fail) only [push_cast, List.reduceReplicate, Nat.reduceAdd, Nat.reduceMul, Nat.reduceSub, Nat.reduceEqDiff, Nat.reduceLT, Nat.reduceLeDiff, Nat.reduceBEq, Int.reduceToNat, Int.reduceEq, Int.reduceLT, Int.reduceLE, Int.reduceAdd, Int.reduceSub, Int.reduceMul, ↓reduceIte, reduceCtorEq, rS, rN, pz, oC, hk]
       (repeat (refine aI ?_)); (first | refine hK _ _ _ ?_ | refine hK _ _ ?_); clear hK K)
    | ((first | refine AL_go rfl (fun K hK => ?_) | refine AL_go0 (fun K hK => ?_) | refine DG_run (fun K hK => ?_))
       (first | refine R_move _ ?_ | refine R_assign _ ?_ | refine Q_load _ _ ?_ | refine Q_loadAgg _ _ ?_ | refine Q_fieldAddr _ _ _ ?_ | refine Q_extract _ _ ?_ | refine Q_box _ _ ?_ | refine R_alloc _ ?_ | refine Q_store _ _ _ ?_ | refine Q_build _ _ ?_ | refine Q_buildArr _ _ ?_ | refine Q_convert _ _ _ ?_ | refine Q_eqAgg _ _ _ _ ?_ | refine Q_neqAgg _ _ _ _ ?_ | refine Q_neqSelf _ _ _ _ ?_ | refine Q_bin _ _ _ _ _ ?_)
       simp (dsimp := false) (disch := first | exact vD | fail) only [push_cast, List.reduceReplicate, Nat.reduceAdd, Nat.reduceMul, Nat.reduceSub, Nat.reduceEqDiff, Nat.reduceLT, Nat.reduceLeDiff, Nat.reduceBEq, Int.reduceToNat, Int.reduceEq, Int.reduceLT, Int.reduceLE, Int.reduceAdd, Int.reduceSub, Int.reduceMul, ↓reduceIte, reduceCtorEq, rS, rN, pz, oC, hk]
       (repeat (refine aI ?_)); (first | refine hK _ _ _ ?_ | refine hK _ _ ?_); clear hK K)
    | ((first | refine AL_guard rfl rfl (fun K1 K2 h1 h2 => ?_) rfl | refine AC_cond_k (fun K1 K2 h1 h2 => ?_) | refine DG_guard rfl rfl (fun K1 K2 h1 h2 => ?_))
       simp (dsimp := false) (disch := first | exact vD | fail) only [push_cast, List.reduceReplicate, Nat.reduceAdd, Nat.reduceMul, Nat.reduceSub, Nat.reduceEqDiff, Nat.reduceLT, Nat.reduceLeDiff, Nat.reduceBEq, Int.reduceToNat, Int.reduceEq, Int.reduceLT, Int.reduceLE, Int.reduceAdd, Int.reduceSub, Int.reduceMul, ↓reduceIte, reduceCtorEq, rS, rN, pz, oC, hk]
       first | (refine ⟨fun hc => ?_, fun hc => ?_⟩ <;> first | (exfalso; omega) | (exfalso; contradiction) | refine h1 ?_ | refine h2 ?_) | refine h1 ?_ | refine h2 ?_
       all_goals clear h1 h2 K1 K2)
    | (refine AC_draw (id := 3) (by kernel_rfl) [⟨0, [], [7, 22, 23], [], [], 0⟩, ⟨1, [], [7, 21], [], [], 0⟩, ⟨2, [1], [7, 21], [], [], 0⟩, ⟨3, [0, 1, 2], [7], [], [], 0⟩, ⟨4, [0, 1, 2, 3], [7], [], [], 0⟩, ⟨5, [0, 1, 2, 3, 4], [7, 26], [], [], 0⟩, ⟨6, [0, 1, 2, 3, 4], [7, 25], [7], [], 0⟩, ⟨7, [], [20, 21, 22, 23, 24, 25, 26], [], [], 1⟩, ⟨8, [0, 1, 2, 3, 4, 5, 7], [26], [], [7], 0⟩, ⟨9, [0, 1, 2, 3, 4, 5, 6, 7, 8], [], [], [], 0⟩] (by kernel_rfl) (by kernel_rfl) (by kernel_rfl) ?_)
    | ((first | refine DG_next' (by kernel_rfl) (fun K hK => ?_) | refine DG_nil (by kernel_rfl) (fun K hK => ?_))
       simp only [↓Go.Sy.dsnE_some, ↓Go.Sy.dsnE_none, ↓Go.Sy.dsnE_nil, ↓Go.Sy.dsnO_snoc, ↓Go.Sy.dsnO_nil, ↓Go.Sy.nidAt_snoc, ↓Go.Sy.nidAt_nil, push_cast, Nat.reduceLeDiff, Nat.reduceSub, Nat.reduceBEq, Nat.reduceEqDiff, Nat.reduceAdd, Nat.reduceLT, ↓reduceIte, reduceCtorEq]
       refine hK _ _ _ ?_; clear hK K)
    | (refine DG_go ?_)
    | (refine AL_nil ?_) | (refine Thn_normal ?_) | (refine Thn_ret ?_) | (refine Thn_exit ?_) | (refine Blk_normal ?_) | (refine Blk_ret ?_) | (refine Blk_here ?_) | (refine Blk_other rfl ?_) | (refine AC_block ?_) | (refine AC_exit ?_) | (refine AC_skip ?_) | (refine AC_ret ?_))
  all_goals (refine Ends.mk2 (by first | exact .inr rfl | exact .inl rfl) [] ?_; simp (dsimp := false) (disch := first | exact vD | fail) only [push_cast, List.reduceReplicate, Nat.reduceAdd, Nat.reduceMul, Nat.reduceSub, Nat.reduceEqDiff, Nat.reduceLT, Nat.reduceLeDiff, Nat.reduceBEq, Int.reduceToNat, Int.reduceEq, Int.reduceLT, Int.reduceLE, Int.reduceAdd, Int.reduceSub, Int.reduceMul, ↓reduceIte, reduceCtorEq, Try.f23, rS, rN, pz]; (repeat (refine aI ?_)); try (first | exact vI | fail))
theorem do_take (h : okS n s k) (hk0 : k ≤ 1000000) (ho : okO o) (hk : o.kind % 7 = 1) : ACall Try.prog 23 [rS n s, .agg (oC o)] [] 0 (.tup [rS n (takeS s o.id).s, .agg (pC (takeS s o.id).p), .val (.int .i64 (takeS s o.id).e)]) [] := by
  have ho' := ho
  obtain ⟨o1, o2, o3, o4, o5, o6⟩ := ho'
  skip
  have hF : (fB 324).length = 324 := fB_len
  have hB1 : s.B.length = 324 := h.lB
  have hB2 : (takeS s o.id).s.B.length = 324 := by rw [lB_take]; exact h.lB
  refine ACall.enter Try.func23 rfl (by simp [Try.ntmps23, rS, rN, oC]) (by simp [rS, rN, oC]) ?_
  simp only [entry, idx, rS, rN, oC, Try.ntmps23, List.length, List.map_cons, List.map_nil, List.append_nil, List.cons_append, List.nil_append, Nat.reduceAdd, Nat.zero_add, List.length_cons, List.length_nil]
  repeat' (first
    | (refine AC_seq ?_)
    | (refine AC_region_lit ?_)
    | ((first | refine AL_go rfl (fun K hK => ?_) | refine AL_go0 (fun K hK => ?_) | refine DG_run (fun K hK => ?_))
       (first | refine R_callG (f := 36) [] 0 false ?_)
       simp (dsimp := false) (disch := first | exact vD | fail) only [push_cast, List.reduceReplicate, Nat.reduceAdd, Nat.reduceMul, Nat.reduceSub, Nat.reduceEqDiff, Nat.reduceLT, Nat.reduceLeDiff, Nat.reduceBEq, Int.reduceToNat, Int.reduceEq, Int.reduceLT, Int.reduceLE, Int.reduceAdd, Int.reduceSub, Int.reduceMul, ↓reduceIte, reduceCtorEq, rS, rN, pz, oC, hk]
       (repeat (refine aI ?_)); intro G hG; refine hG _ _ ?_; clear hG G
       (first | refine ⟨_, _, rtakeQ h, ?_⟩)
       simp (dsimp := false) (disch := first | exact vD | fail) only [push_cast, List.reduceReplicate, Nat.reduceAdd, Nat.reduceMul, Nat.reduceSub, Nat.reduceEqDiff, Nat.reduceLT, Nat.reduceLeDiff, Nat.reduceBEq, Int.reduceToNat, Int.reduceEq, Int.reduceLT, Int.reduceLE, Int.reduceAdd, Int.reduceSub, Int.reduceMul, ↓reduceIte, reduceCtorEq, rS, rN, pz, oC, hk]
       (repeat (refine aI ?_)); (first | refine hK _ _ _ ?_ | refine hK _ _ ?_); clear hK K)
    | ((first | refine AL_go rfl (fun K hK => ?_) | refine AL_go0 (fun K hK => ?_) | refine DG_run (fun K hK => ?_))
       (first | refine R_move _ ?_ | refine R_assign _ ?_ | refine Q_load _ _ ?_ | refine Q_loadAgg _ _ ?_ | refine Q_fieldAddr _ _ _ ?_ | refine Q_extract _ _ ?_ | refine Q_box _ _ ?_ | refine R_alloc _ ?_ | refine Q_store _ _ _ ?_ | refine Q_build _ _ ?_ | refine Q_buildArr _ _ ?_ | refine Q_convert _ _ _ ?_ | refine Q_eqAgg _ _ _ _ ?_ | refine Q_neqAgg _ _ _ _ ?_ | refine Q_neqSelf _ _ _ _ ?_ | refine Q_bin _ _ _ _ _ ?_)
       simp (dsimp := false) (disch := first | exact vD | fail) only [push_cast, List.reduceReplicate, Nat.reduceAdd, Nat.reduceMul, Nat.reduceSub, Nat.reduceEqDiff, Nat.reduceLT, Nat.reduceLeDiff, Nat.reduceBEq, Int.reduceToNat, Int.reduceEq, Int.reduceLT, Int.reduceLE, Int.reduceAdd, Int.reduceSub, Int.reduceMul, ↓reduceIte, reduceCtorEq, rS, rN, pz, oC, hk]
       (repeat (refine aI ?_)); (first | refine hK _ _ _ ?_ | refine hK _ _ ?_); clear hK K)
    | ((first | refine AL_guard rfl rfl (fun K1 K2 h1 h2 => ?_) rfl | refine AC_cond_k (fun K1 K2 h1 h2 => ?_) | refine DG_guard rfl rfl (fun K1 K2 h1 h2 => ?_))
       simp (dsimp := false) (disch := first | exact vD | fail) only [push_cast, List.reduceReplicate, Nat.reduceAdd, Nat.reduceMul, Nat.reduceSub, Nat.reduceEqDiff, Nat.reduceLT, Nat.reduceLeDiff, Nat.reduceBEq, Int.reduceToNat, Int.reduceEq, Int.reduceLT, Int.reduceLE, Int.reduceAdd, Int.reduceSub, Int.reduceMul, ↓reduceIte, reduceCtorEq, rS, rN, pz, oC, hk]
       first | (refine ⟨fun hc => ?_, fun hc => ?_⟩ <;> first | (exfalso; omega) | (exfalso; contradiction) | refine h1 ?_ | refine h2 ?_) | refine h1 ?_ | refine h2 ?_
       all_goals clear h1 h2 K1 K2)
    | (refine AC_draw (id := 3) (by kernel_rfl) [⟨0, [], [7, 22, 23], [], [], 0⟩, ⟨1, [], [7, 21], [], [], 0⟩, ⟨2, [1], [7, 21], [], [], 0⟩, ⟨3, [0, 1, 2], [7], [], [], 0⟩, ⟨4, [0, 1, 2, 3], [7], [], [], 0⟩, ⟨5, [0, 1, 2, 3, 4], [7, 26], [], [], 0⟩, ⟨6, [0, 1, 2, 3, 4], [7, 25], [2], [], 0⟩, ⟨7, [], [20, 21, 22, 23, 24, 25, 26], [], [], 1⟩, ⟨8, [0, 1, 2, 3, 4, 5, 7], [26], [], [2], 0⟩, ⟨9, [0, 1, 2, 3, 4, 5, 6, 7, 8], [], [], [], 0⟩] (by kernel_rfl) (by kernel_rfl) (by kernel_rfl) ?_)
    | ((first | refine DG_next' (by kernel_rfl) (fun K hK => ?_) | refine DG_nil (by kernel_rfl) (fun K hK => ?_))
       simp only [↓Go.Sy.dsnE_some, ↓Go.Sy.dsnE_none, ↓Go.Sy.dsnE_nil, ↓Go.Sy.dsnO_snoc, ↓Go.Sy.dsnO_nil, ↓Go.Sy.nidAt_snoc, ↓Go.Sy.nidAt_nil, push_cast, Nat.reduceLeDiff, Nat.reduceSub, Nat.reduceBEq, Nat.reduceEqDiff, Nat.reduceAdd, Nat.reduceLT, ↓reduceIte, reduceCtorEq]
       refine hK _ _ _ ?_; clear hK K)
    | (refine DG_go ?_)
    | (refine AL_nil ?_) | (refine Thn_normal ?_) | (refine Thn_ret ?_) | (refine Thn_exit ?_) | (refine Blk_normal ?_) | (refine Blk_ret ?_) | (refine Blk_here ?_) | (refine Blk_other rfl ?_) | (refine AC_block ?_) | (refine AC_exit ?_) | (refine AC_skip ?_) | (refine AC_ret ?_))
  all_goals (refine Ends.mk2 (by first | exact .inr rfl | exact .inl rfl) [] ?_; simp (dsimp := false) (disch := first | exact vD | fail) only [push_cast, List.reduceReplicate, Nat.reduceAdd, Nat.reduceMul, Nat.reduceSub, Nat.reduceEqDiff, Nat.reduceLT, Nat.reduceLeDiff, Nat.reduceBEq, Int.reduceToNat, Int.reduceEq, Int.reduceLT, Int.reduceLE, Int.reduceAdd, Int.reduceSub, Int.reduceMul, ↓reduceIte, reduceCtorEq, Try.f23, rS, rN, pz]; (repeat (refine aI ?_)); try (first | exact vI | fail))
theorem do_next (h : okS n s k) (hk0 : k ≤ 1000000) (ho : okO o) (hk : o.kind % 7 = 2) : ACall Try.prog 23 [rS n s, .agg (oC o)] [] 0 (.tup [rS n (nextS n s o.to).s, .agg (pC (nextS n s o.to).p), .val (.int .i64 (nextS n s o.to).e)]) [] := by
  have ho' := ho
  obtain ⟨o1, o2, o3, o4, o5, o6⟩ := ho'
  skip
  have hF : (fB 324).length = 324 := fB_len
  have hB1 : s.B.length = 324 := h.lB
  have hB2 : (nextS n s o.to).s.B.length = 324 := by rw [lB_next]; exact h.lB
  refine ACall.enter Try.func23 rfl (by simp [Try.ntmps23, rS, rN, oC]) (by simp [rS, rN, oC]) ?_
  simp only [entry, idx, rS, rN, oC, Try.ntmps23, List.length, List.map_cons, List.map_nil, List.append_nil, List.cons_append, List.nil_append, Nat.reduceAdd, Nat.zero_add, List.length_cons, List.length_nil]
  repeat' (first
    | (refine AC_seq ?_)
    | (refine AC_region_lit ?_)
    | ((first | refine AL_go rfl (fun K hK => ?_) | refine AL_go0 (fun K hK => ?_) | refine DG_run (fun K hK => ?_))
       (first | refine R_callG (f := 37) [] 0 false ?_)
       simp (dsimp := false) (disch := first | exact vD | fail) only [push_cast, List.reduceReplicate, Nat.reduceAdd, Nat.reduceMul, Nat.reduceSub, Nat.reduceEqDiff, Nat.reduceLT, Nat.reduceLeDiff, Nat.reduceBEq, Int.reduceToNat, Int.reduceEq, Int.reduceLT, Int.reduceLE, Int.reduceAdd, Int.reduceSub, Int.reduceMul, ↓reduceIte, reduceCtorEq, rS, rN, pz, oC, hk]
       (repeat (refine aI ?_)); intro G hG; refine hG _ _ ?_; clear hG G
       (first | refine ⟨_, _, rrecvQ h, ?_⟩)
       simp (dsimp := false) (disch := first | exact vD | fail) only [push_cast, List.reduceReplicate, Nat.reduceAdd, Nat.reduceMul, Nat.reduceSub, Nat.reduceEqDiff, Nat.reduceLT, Nat.reduceLeDiff, Nat.reduceBEq, Int.reduceToNat, Int.reduceEq, Int.reduceLT, Int.reduceLE, Int.reduceAdd, Int.reduceSub, Int.reduceMul, ↓reduceIte, reduceCtorEq, rS, rN, pz, oC, hk]
       (repeat (refine aI ?_)); (first | refine hK _ _ _ ?_ | refine hK _ _ ?_); clear hK K)
    | ((first | refine AL_go rfl (fun K hK => ?_) | refine AL_go0 (fun K hK => ?_) | refine DG_run (fun K hK => ?_))
       (first | refine R_move _ ?_ | refine R_assign _ ?_ | refine Q_load _ _ ?_ | refine Q_loadAgg _ _ ?_ | refine Q_fieldAddr _ _ _ ?_ | refine Q_extract _ _ ?_ | refine Q_box _ _ ?_ | refine R_alloc _ ?_ | refine Q_store _ _ _ ?_ | refine Q_build _ _ ?_ | refine Q_buildArr _ _ ?_ | refine Q_convert _ _ _ ?_ | refine Q_eqAgg _ _ _ _ ?_ | refine Q_neqAgg _ _ _ _ ?_ | refine Q_neqSelf _ _ _ _ ?_ | refine Q_bin _ _ _ _ _ ?_)
       simp (dsimp := false) (disch := first | exact vD | fail) only [push_cast, List.reduceReplicate, Nat.reduceAdd, Nat.reduceMul, Nat.reduceSub, Nat.reduceEqDiff, Nat.reduceLT, Nat.reduceLeDiff, Nat.reduceBEq, Int.reduceToNat, Int.reduceEq, Int.reduceLT, Int.reduceLE, Int.reduceAdd, Int.reduceSub, Int.reduceMul, ↓reduceIte, reduceCtorEq, rS, rN, pz, oC, hk]
       (repeat (refine aI ?_)); (first | refine hK _ _ _ ?_ | refine hK _ _ ?_); clear hK K)
    | ((first | refine AL_guard rfl rfl (fun K1 K2 h1 h2 => ?_) rfl | refine AC_cond_k (fun K1 K2 h1 h2 => ?_) | refine DG_guard rfl rfl (fun K1 K2 h1 h2 => ?_))
       simp (dsimp := false) (disch := first | exact vD | fail) only [push_cast, List.reduceReplicate, Nat.reduceAdd, Nat.reduceMul, Nat.reduceSub, Nat.reduceEqDiff, Nat.reduceLT, Nat.reduceLeDiff, Nat.reduceBEq, Int.reduceToNat, Int.reduceEq, Int.reduceLT, Int.reduceLE, Int.reduceAdd, Int.reduceSub, Int.reduceMul, ↓reduceIte, reduceCtorEq, rS, rN, pz, oC, hk]
       first | (refine ⟨fun hc => ?_, fun hc => ?_⟩ <;> first | (exfalso; omega) | (exfalso; contradiction) | refine h1 ?_ | refine h2 ?_) | refine h1 ?_ | refine h2 ?_
       all_goals clear h1 h2 K1 K2)
    | (refine AC_draw (id := 3) (by kernel_rfl) [⟨0, [], [7, 22, 23], [], [], 0⟩, ⟨1, [], [7, 21], [], [], 0⟩, ⟨2, [1], [7, 21], [], [], 0⟩, ⟨3, [0, 1, 2], [7], [], [], 0⟩, ⟨4, [0, 1, 2, 3], [7], [], [], 0⟩, ⟨5, [0, 1, 2, 3, 4], [7, 26], [], [], 0⟩, ⟨6, [0, 1, 2, 3, 4], [7, 25], [2], [], 0⟩, ⟨7, [], [20, 21, 22, 23, 24, 25, 26], [], [], 1⟩, ⟨8, [0, 1, 2, 3, 4, 5, 7], [26], [], [2], 0⟩, ⟨9, [0, 1, 2, 3, 4, 5, 6, 7, 8], [], [], [], 0⟩] (by kernel_rfl) (by kernel_rfl) (by kernel_rfl) ?_)
    | ((first | refine DG_next' (by kernel_rfl) (fun K hK => ?_) | refine DG_nil (by kernel_rfl) (fun K hK => ?_))
       simp only [↓Go.Sy.dsnE_some, ↓Go.Sy.dsnE_none, ↓Go.Sy.dsnE_nil, ↓Go.Sy.dsnO_snoc, ↓Go.Sy.dsnO_nil, ↓Go.Sy.nidAt_snoc, ↓Go.Sy.nidAt_nil, push_cast, Nat.reduceLeDiff, Nat.reduceSub, Nat.reduceBEq, Nat.reduceEqDiff, Nat.reduceAdd, Nat.reduceLT, ↓reduceIte, reduceCtorEq]
       refine hK _ _ _ ?_; clear hK K)
    | (refine DG_go ?_)
    | (refine AL_nil ?_) | (refine Thn_normal ?_) | (refine Thn_ret ?_) | (refine Thn_exit ?_) | (refine Blk_normal ?_) | (refine Blk_ret ?_) | (refine Blk_here ?_) | (refine Blk_other rfl ?_) | (refine AC_block ?_) | (refine AC_exit ?_) | (refine AC_skip ?_) | (refine AC_ret ?_))
  all_goals (refine Ends.mk2 (by first | exact .inr rfl | exact .inl rfl) [] ?_; simp (dsimp := false) (disch := first | exact vD | fail) only [push_cast, List.reduceReplicate, Nat.reduceAdd, Nat.reduceMul, Nat.reduceSub, Nat.reduceEqDiff, Nat.reduceLT, Nat.reduceLeDiff, Nat.reduceBEq, Int.reduceToNat, Int.reduceEq, Int.reduceLT, Int.reduceLE, Int.reduceAdd, Int.reduceSub, Int.reduceMul, ↓reduceIte, reduceCtorEq, Try.f23, rS, rN, pz]; (repeat (refine aI ?_)); try (first | exact vI | fail))
theorem do_drop (h : okS n s k) (hk0 : k ≤ 1000000) (ho : okO o) (hk : o.kind % 7 = 3) : ACall Try.prog 23 [rS n s, .agg (oC o)] [] 0 (.tup [rS n (dropS s o.id).s, .agg (pC (dropS s o.id).p), .val (.int .i64 (dropS s o.id).e)]) [] := by
  have ho' := ho
  obtain ⟨o1, o2, o3, o4, o5, o6⟩ := ho'
  skip
  have hF : (fB 324).length = 324 := fB_len
  have hB1 : s.B.length = 324 := h.lB
  have hB2 : (dropS s o.id).s.B.length = 324 := by rw [lB_drop]; exact h.lB
  rw [dropS_p]
  refine ACall.enter Try.func23 rfl (by simp [Try.ntmps23, rS, rN, oC]) (by simp [rS, rN, oC]) ?_
  simp only [entry, idx, rS, rN, oC, Try.ntmps23, List.length, List.map_cons, List.map_nil, List.append_nil, List.cons_append, List.nil_append, Nat.reduceAdd, Nat.zero_add, List.length_cons, List.length_nil]
  repeat' (first
    | (refine AC_seq ?_)
    | (refine AC_region_lit ?_)
    | ((first | refine AL_go rfl (fun K hK => ?_) | refine AL_go0 (fun K hK => ?_) | refine DG_run (fun K hK => ?_))
       (first | refine R_callG (f := 38) [] 0 false ?_)
       simp (dsimp := false) (disch := first | exact vD | fail) only [push_cast, List.reduceReplicate, Nat.reduceAdd, Nat.reduceMul, Nat.reduceSub, Nat.reduceEqDiff, Nat.reduceLT, Nat.reduceLeDiff, Nat.reduceBEq, Int.reduceToNat, Int.reduceEq, Int.reduceLT, Int.reduceLE, Int.reduceAdd, Int.reduceSub, Int.reduceMul, ↓reduceIte, reduceCtorEq, rS, rN, pz, oC, hk]
       (repeat (refine aI ?_)); intro G hG; refine hG _ _ ?_; clear hG G
       (first | refine ⟨_, _, rdropQ h, ?_⟩)
       simp (dsimp := false) (disch := first | exact vD | fail) only [push_cast, List.reduceReplicate, Nat.reduceAdd, Nat.reduceMul, Nat.reduceSub, Nat.reduceEqDiff, Nat.reduceLT, Nat.reduceLeDiff, Nat.reduceBEq, Int.reduceToNat, Int.reduceEq, Int.reduceLT, Int.reduceLE, Int.reduceAdd, Int.reduceSub, Int.reduceMul, ↓reduceIte, reduceCtorEq, rS, rN, pz, oC, hk]
       (repeat (refine aI ?_)); (first | refine hK _ _ _ ?_ | refine hK _ _ ?_); clear hK K)
    | ((first | refine AL_go rfl (fun K hK => ?_) | refine AL_go0 (fun K hK => ?_) | refine DG_run (fun K hK => ?_))
       (first | refine R_move _ ?_ | refine R_assign _ ?_ | refine Q_load _ _ ?_ | refine Q_loadAgg _ _ ?_ | refine Q_fieldAddr _ _ _ ?_ | refine Q_extract _ _ ?_ | refine Q_box _ _ ?_ | refine R_alloc _ ?_ | refine Q_store _ _ _ ?_ | refine Q_build _ _ ?_ | refine Q_buildArr _ _ ?_ | refine Q_convert _ _ _ ?_ | refine Q_eqAgg _ _ _ _ ?_ | refine Q_neqAgg _ _ _ _ ?_ | refine Q_neqSelf _ _ _ _ ?_ | refine Q_bin _ _ _ _ _ ?_)
       simp (dsimp := false) (disch := first | exact vD | fail) only [push_cast, List.reduceReplicate, Nat.reduceAdd, Nat.reduceMul, Nat.reduceSub, Nat.reduceEqDiff, Nat.reduceLT, Nat.reduceLeDiff, Nat.reduceBEq, Int.reduceToNat, Int.reduceEq, Int.reduceLT, Int.reduceLE, Int.reduceAdd, Int.reduceSub, Int.reduceMul, ↓reduceIte, reduceCtorEq, rS, rN, pz, oC, hk]
       (repeat (refine aI ?_)); (first | refine hK _ _ _ ?_ | refine hK _ _ ?_); clear hK K)
    | ((first | refine AL_guard rfl rfl (fun K1 K2 h1 h2 => ?_) rfl | refine AC_cond_k (fun K1 K2 h1 h2 => ?_) | refine DG_guard rfl rfl (fun K1 K2 h1 h2 => ?_))
       simp (dsimp := false) (disch := first | exact vD | fail) only [push_cast, List.reduceReplicate, Nat.reduceAdd, Nat.reduceMul, Nat.reduceSub, Nat.reduceEqDiff, Nat.reduceLT, Nat.reduceLeDiff, Nat.reduceBEq, Int.reduceToNat, Int.reduceEq, Int.reduceLT, Int.reduceLE, Int.reduceAdd, Int.reduceSub, Int.reduceMul, ↓reduceIte, reduceCtorEq, rS, rN, pz, oC, hk]
       first | (refine ⟨fun hc => ?_, fun hc => ?_⟩ <;> first | (exfalso; omega) | (exfalso; contradiction) | refine h1 ?_ | refine h2 ?_) | refine h1 ?_ | refine h2 ?_
       all_goals clear h1 h2 K1 K2)
    | (refine AC_draw (id := 3) (by kernel_rfl) [⟨0, [], [7, 22, 23], [], [], 0⟩, ⟨1, [], [7, 21], [], [], 0⟩, ⟨2, [1], [7, 21], [], [], 0⟩, ⟨3, [0, 1, 2], [7], [], [], 0⟩, ⟨4, [0, 1, 2, 3], [7], [], [], 0⟩, ⟨5, [0, 1, 2, 3, 4], [7, 26], [], [], 0⟩, ⟨6, [0, 1, 2, 3, 4], [7, 25], [2], [], 0⟩, ⟨7, [], [20, 21, 22, 23, 24, 25, 26], [], [], 1⟩, ⟨8, [0, 1, 2, 3, 4, 5, 7], [26], [], [2], 0⟩, ⟨9, [0, 1, 2, 3, 4, 5, 6, 7, 8], [], [], [], 0⟩] (by kernel_rfl) (by kernel_rfl) (by kernel_rfl) ?_)
    | ((first | refine DG_next' (by kernel_rfl) (fun K hK => ?_) | refine DG_nil (by kernel_rfl) (fun K hK => ?_))
       simp only [↓Go.Sy.dsnE_some, ↓Go.Sy.dsnE_none, ↓Go.Sy.dsnE_nil, ↓Go.Sy.dsnO_snoc, ↓Go.Sy.dsnO_nil, ↓Go.Sy.nidAt_snoc, ↓Go.Sy.nidAt_nil, push_cast, Nat.reduceLeDiff, Nat.reduceSub, Nat.reduceBEq, Nat.reduceEqDiff, Nat.reduceAdd, Nat.reduceLT, ↓reduceIte, reduceCtorEq]
       refine hK _ _ _ ?_; clear hK K)
    | (refine DG_go ?_)
    | (refine AL_nil ?_) | (refine Thn_normal ?_) | (refine Thn_ret ?_) | (refine Thn_exit ?_) | (refine Blk_normal ?_) | (refine Blk_ret ?_) | (refine Blk_here ?_) | (refine Blk_other rfl ?_) | (refine AC_block ?_) | (refine AC_exit ?_) | (refine AC_skip ?_) | (refine AC_ret ?_))
  all_goals (refine Ends.mk2 (by first | exact .inr rfl | exact .inl rfl) [] ?_; simp (dsimp := false) (disch := first | exact vD | fail) only [push_cast, List.reduceReplicate, Nat.reduceAdd, Nat.reduceMul, Nat.reduceSub, Nat.reduceEqDiff, Nat.reduceLT, Nat.reduceLeDiff, Nat.reduceBEq, Int.reduceToNat, Int.reduceEq, Int.reduceLT, Int.reduceLE, Int.reduceAdd, Int.reduceSub, Int.reduceMul, ↓reduceIte, reduceCtorEq, Try.f23, rS, rN, pz]; (repeat (refine aI ?_)); try (first | exact vI | fail))
theorem do_rep (h : okS n s k) (hk0 : k ≤ 1000000) (ho : okO o) (hk : o.kind % 7 = 4) : ACall Try.prog 23 [rS n s, .agg (oC o)] [] 0 (.tup [rS n (repS n s o.id).s, .agg (pC (repS n s o.id).p), .val (.int .i64 (repS n s o.id).e)]) [] := by
  have ho' := ho
  obtain ⟨o1, o2, o3, o4, o5, o6⟩ := ho'
  skip
  have hF : (fB 324).length = 324 := fB_len
  have hB1 : s.B.length = 324 := h.lB
  have hB2 : (repS n s o.id).s.B.length = 324 := by rw [lB_rep]; exact h.lB
  rw [repS_p]
  refine ACall.enter Try.func23 rfl (by simp [Try.ntmps23, rS, rN, oC]) (by simp [rS, rN, oC]) ?_
  simp only [entry, idx, rS, rN, oC, Try.ntmps23, List.length, List.map_cons, List.map_nil, List.append_nil, List.cons_append, List.nil_append, Nat.reduceAdd, Nat.zero_add, List.length_cons, List.length_nil]
  repeat' (first
    | (refine AC_seq ?_)
    | (refine AC_region_lit ?_)
    | ((first | refine AL_go rfl (fun K hK => ?_) | refine AL_go0 (fun K hK => ?_) | refine DG_run (fun K hK => ?_))
       (first | refine R_callG (f := 39) [] 0 false ?_)
       simp (dsimp := false) (disch := first | exact vD | fail) only [push_cast, List.reduceReplicate, Nat.reduceAdd, Nat.reduceMul, Nat.reduceSub, Nat.reduceEqDiff, Nat.reduceLT, Nat.reduceLeDiff, Nat.reduceBEq, Int.reduceToNat, Int.reduceEq, Int.reduceLT, Int.reduceLE, Int.reduceAdd, Int.reduceSub, Int.reduceMul, ↓reduceIte, reduceCtorEq, rS, rN, pz, oC, hk]
       (repeat (refine aI ?_)); intro G hG; refine hG _ _ ?_; clear hG G
       (first | refine ⟨_, _, rrepQ h hk0, ?_⟩)
       simp (dsimp := false) (disch := first | exact vD | fail) only [push_cast, List.reduceReplicate, Nat.reduceAdd, Nat.reduceMul, Nat.reduceSub, Nat.reduceEqDiff, Nat.reduceLT, Nat.reduceLeDiff, Nat.reduceBEq, Int.reduceToNat, Int.reduceEq, Int.reduceLT, Int.reduceLE, Int.reduceAdd, Int.reduceSub, Int.reduceMul, ↓reduceIte, reduceCtorEq, rS, rN, pz, oC, hk]
       (repeat (refine aI ?_)); (first | refine hK _ _ _ ?_ | refine hK _ _ ?_); clear hK K)
    | ((first | refine AL_go rfl (fun K hK => ?_) | refine AL_go0 (fun K hK => ?_) | refine DG_run (fun K hK => ?_))
       (first | refine R_move _ ?_ | refine R_assign _ ?_ | refine Q_load _ _ ?_ | refine Q_loadAgg _ _ ?_ | refine Q_fieldAddr _ _ _ ?_ | refine Q_extract _ _ ?_ | refine Q_box _ _ ?_ | refine R_alloc _ ?_ | refine Q_store _ _ _ ?_ | refine Q_build _ _ ?_ | refine Q_buildArr _ _ ?_ | refine Q_convert _ _ _ ?_ | refine Q_eqAgg _ _ _ _ ?_ | refine Q_neqAgg _ _ _ _ ?_ | refine Q_neqSelf _ _ _ _ ?_ | refine Q_bin _ _ _ _ _ ?_)
       simp (dsimp := false) (disch := first | exact vD | fail) only [push_cast, List.reduceReplicate, Nat.reduceAdd, Nat.reduceMul, Nat.reduceSub, Nat.reduceEqDiff, Nat.reduceLT, Nat.reduceLeDiff, Nat.reduceBEq, Int.reduceToNat, Int.reduceEq, Int.reduceLT, Int.reduceLE, Int.reduceAdd, Int.reduceSub, Int.reduceMul, ↓reduceIte, reduceCtorEq, rS, rN, pz, oC, hk]
       (repeat (refine aI ?_)); (first | refine hK _ _ _ ?_ | refine hK _ _ ?_); clear hK K)
    | ((first | refine AL_guard rfl rfl (fun K1 K2 h1 h2 => ?_) rfl | refine AC_cond_k (fun K1 K2 h1 h2 => ?_) | refine DG_guard rfl rfl (fun K1 K2 h1 h2 => ?_))
       simp (dsimp := false) (disch := first | exact vD | fail) only [push_cast, List.reduceReplicate, Nat.reduceAdd, Nat.reduceMul, Nat.reduceSub, Nat.reduceEqDiff, Nat.reduceLT, Nat.reduceLeDiff, Nat.reduceBEq, Int.reduceToNat, Int.reduceEq, Int.reduceLT, Int.reduceLE, Int.reduceAdd, Int.reduceSub, Int.reduceMul, ↓reduceIte, reduceCtorEq, rS, rN, pz, oC, hk]
       first | (refine ⟨fun hc => ?_, fun hc => ?_⟩ <;> first | (exfalso; omega) | (exfalso; contradiction) | refine h1 ?_ | refine h2 ?_) | refine h1 ?_ | refine h2 ?_
       all_goals clear h1 h2 K1 K2)
    | (refine AC_draw (id := 3) (by kernel_rfl) [⟨0, [], [7, 22, 23], [], [], 0⟩, ⟨1, [], [7, 21], [], [], 0⟩, ⟨2, [1], [7, 21], [], [], 0⟩, ⟨3, [0, 1, 2], [7], [], [], 0⟩, ⟨4, [0, 1, 2, 3], [7], [], [], 0⟩, ⟨5, [0, 1, 2, 3, 4], [7, 26], [], [], 0⟩, ⟨6, [0, 1, 2, 3, 4], [7, 25], [2], [], 0⟩, ⟨7, [], [20, 21, 22, 23, 24, 25, 26], [], [], 1⟩, ⟨8, [0, 1, 2, 3, 4, 5, 7], [26], [], [2], 0⟩, ⟨9, [0, 1, 2, 3, 4, 5, 6, 7, 8], [], [], [], 0⟩] (by kernel_rfl) (by kernel_rfl) (by kernel_rfl) ?_)
    | ((first | refine DG_next' (by kernel_rfl) (fun K hK => ?_) | refine DG_nil (by kernel_rfl) (fun K hK => ?_))
       simp only [↓Go.Sy.dsnE_some, ↓Go.Sy.dsnE_none, ↓Go.Sy.dsnE_nil, ↓Go.Sy.dsnO_snoc, ↓Go.Sy.dsnO_nil, ↓Go.Sy.nidAt_snoc, ↓Go.Sy.nidAt_nil, push_cast, Nat.reduceLeDiff, Nat.reduceSub, Nat.reduceBEq, Nat.reduceEqDiff, Nat.reduceAdd, Nat.reduceLT, ↓reduceIte, reduceCtorEq]
       refine hK _ _ _ ?_; clear hK K)
    | (refine DG_go ?_)
    | (refine AL_nil ?_) | (refine Thn_normal ?_) | (refine Thn_ret ?_) | (refine Thn_exit ?_) | (refine Blk_normal ?_) | (refine Blk_ret ?_) | (refine Blk_here ?_) | (refine Blk_other rfl ?_) | (refine AC_block ?_) | (refine AC_exit ?_) | (refine AC_skip ?_) | (refine AC_ret ?_))
  all_goals (refine Ends.mk2 (by first | exact .inr rfl | exact .inl rfl) [] ?_; simp (dsimp := false) (disch := first | exact vD | fail) only [push_cast, List.reduceReplicate, Nat.reduceAdd, Nat.reduceMul, Nat.reduceSub, Nat.reduceEqDiff, Nat.reduceLT, Nat.reduceLeDiff, Nat.reduceBEq, Int.reduceToNat, Int.reduceEq, Int.reduceLT, Int.reduceLE, Int.reduceAdd, Int.reduceSub, Int.reduceMul, ↓reduceIte, reduceCtorEq, Try.f23, rS, rN, pz]; (repeat (refine aI ?_)); try (first | exact vI | fail))
theorem do_block (h : okS n s k) (hk0 : k ≤ 1000000) (ho : okO o) (hk : ¬ o.kind % 7 = 0 ∧ ¬ o.kind % 7 = 1 ∧ ¬ o.kind % 7 = 2 ∧ ¬ o.kind % 7 = 3 ∧ ¬ o.kind % 7 = 4) : ACall Try.prog 23 [rS n s, .agg (oC o)] [] 0 (.tup [rS n (blockS n s o.a o.b (decide (o.kind % 7 = 5))).s, .agg (pC (blockS n s o.a o.b (decide (o.kind % 7 = 5))).p), .val (.int .i64 (blockS n s o.a o.b (decide (o.kind % 7 = 5))).e)]) [] := by
  have ho' := ho
  obtain ⟨o1, o2, o3, o4, o5, o6⟩ := ho'
  obtain ⟨k0, k1, k2, k3, k4⟩ := hk
  have hF : (fB 324).length = 324 := fB_len
  have hB1 : s.B.length = 324 := h.lB
  have hB2 : (blockS n s o.a o.b (decide (o.kind % 7 = 5))).s.B.length = 324 := lB_block h.lB
  rw [blockS_p]
  refine ACall.enter Try.func23 rfl (by simp [Try.ntmps23, rS, rN, oC]) (by simp [rS, rN, oC]) ?_
  simp only [entry, idx, rS, rN, oC, Try.ntmps23, List.length, List.map_cons, List.map_nil, List.append_nil, List.cons_append, List.nil_append, Nat.reduceAdd, Nat.zero_add, List.length_cons, List.length_nil]
  repeat' (first
    | (refine AC_seq ?_)
    | (refine AC_region_lit ?_)
    | ((first | refine AL_go rfl (fun K hK => ?_) | refine AL_go0 (fun K hK => ?_) | refine DG_run (fun K hK => ?_))
       (first | refine R_callG (f := 40) [] 0 false ?_)
       simp (dsimp := false) (disch := first | exact vD | fail) only [push_cast, List.reduceReplicate, Nat.reduceAdd, Nat.reduceMul, Nat.reduceSub, Nat.reduceEqDiff, Nat.reduceLT, Nat.reduceLeDiff, Nat.reduceBEq, Int.reduceToNat, Int.reduceEq, Int.reduceLT, Int.reduceLE, Int.reduceAdd, Int.reduceSub, Int.reduceMul, ↓reduceIte, reduceCtorEq, rS, rN, pz, oC, k0, k1, k2, k3, k4]
       (repeat (refine aI ?_)); intro G hG; refine hG _ _ ?_; clear hG G
       (first | refine ⟨_, _, rblockQ (c := decide (o.kind % 7 = 5)) h o5 o6, ?_⟩)
       simp (dsimp := false) (disch := first | exact vD | fail) only [push_cast, List.reduceReplicate, Nat.reduceAdd, Nat.reduceMul, Nat.reduceSub, Nat.reduceEqDiff, Nat.reduceLT, Nat.reduceLeDiff, Nat.reduceBEq, Int.reduceToNat, Int.reduceEq, Int.reduceLT, Int.reduceLE, Int.reduceAdd, Int.reduceSub, Int.reduceMul, ↓reduceIte, reduceCtorEq, rS, rN, pz, oC, k0, k1, k2, k3, k4]
       (repeat (refine aI ?_)); (first | refine hK _ _ _ ?_ | refine hK _ _ ?_); clear hK K)
    | ((first | refine AL_go rfl (fun K hK => ?_) | refine AL_go0 (fun K hK => ?_) | refine DG_run (fun K hK => ?_))
       (first | refine R_move _ ?_ | refine R_assign _ ?_ | refine Q_load _ _ ?_ | refine Q_loadAgg _ _ ?_ | refine Q_fieldAddr _ _ _ ?_ | refine Q_extract _ _ ?_ | refine Q_box _ _ ?_ | refine R_alloc _ ?_ | refine Q_store _ _ _ ?_ | refine Q_build _ _ ?_ | refine Q_buildArr _ _ ?_ | refine Q_convert _ _ _ ?_ | refine Q_eqAgg _ _ _ _ ?_ | refine Q_neqAgg _ _ _ _ ?_ | refine Q_neqSelf _ _ _ _ ?_ | refine Q_bin _ _ _ _ _ ?_)
       simp (dsimp := false) (disch := first | exact vD | fail) only [push_cast, List.reduceReplicate, Nat.reduceAdd, Nat.reduceMul, Nat.reduceSub, Nat.reduceEqDiff, Nat.reduceLT, Nat.reduceLeDiff, Nat.reduceBEq, Int.reduceToNat, Int.reduceEq, Int.reduceLT, Int.reduceLE, Int.reduceAdd, Int.reduceSub, Int.reduceMul, ↓reduceIte, reduceCtorEq, rS, rN, pz, oC, k0, k1, k2, k3, k4]
       (repeat (refine aI ?_)); (first | refine hK _ _ _ ?_ | refine hK _ _ ?_); clear hK K)
    | ((first | refine AL_guard rfl rfl (fun K1 K2 h1 h2 => ?_) rfl | refine AC_cond_k (fun K1 K2 h1 h2 => ?_) | refine DG_guard rfl rfl (fun K1 K2 h1 h2 => ?_))
       simp (dsimp := false) (disch := first | exact vD | fail) only [push_cast, List.reduceReplicate, Nat.reduceAdd, Nat.reduceMul, Nat.reduceSub, Nat.reduceEqDiff, Nat.reduceLT, Nat.reduceLeDiff, Nat.reduceBEq, Int.reduceToNat, Int.reduceEq, Int.reduceLT, Int.reduceLE, Int.reduceAdd, Int.reduceSub, Int.reduceMul, ↓reduceIte, reduceCtorEq, rS, rN, pz, oC, k0, k1, k2, k3, k4]
       first | (refine ⟨fun hc => ?_, fun hc => ?_⟩ <;> first | (exfalso; omega) | (exfalso; contradiction) | refine h1 ?_ | refine h2 ?_) | refine h1 ?_ | refine h2 ?_
       all_goals clear h1 h2 K1 K2)
    | (refine AC_draw (id := 3) (by kernel_rfl) [⟨0, [], [7, 22, 23], [], [], 0⟩, ⟨1, [], [7, 21], [], [], 0⟩, ⟨2, [1], [7, 21], [], [], 0⟩, ⟨3, [0, 1, 2], [7], [], [], 0⟩, ⟨4, [0, 1, 2, 3], [7], [], [], 0⟩, ⟨5, [0, 1, 2, 3, 4], [7, 26], [], [], 0⟩, ⟨6, [0, 1, 2, 3, 4], [7, 25], [2], [], 0⟩, ⟨7, [], [20, 21, 22, 23, 24, 25, 26], [], [], 1⟩, ⟨8, [0, 1, 2, 3, 4, 5, 7], [26], [], [2], 0⟩, ⟨9, [0, 1, 2, 3, 4, 5, 6, 7, 8], [], [], [], 0⟩] (by kernel_rfl) (by kernel_rfl) (by kernel_rfl) ?_)
    | ((first | refine DG_next' (by kernel_rfl) (fun K hK => ?_) | refine DG_nil (by kernel_rfl) (fun K hK => ?_))
       simp only [↓Go.Sy.dsnE_some, ↓Go.Sy.dsnE_none, ↓Go.Sy.dsnE_nil, ↓Go.Sy.dsnO_snoc, ↓Go.Sy.dsnO_nil, ↓Go.Sy.nidAt_snoc, ↓Go.Sy.nidAt_nil, push_cast, Nat.reduceLeDiff, Nat.reduceSub, Nat.reduceBEq, Nat.reduceEqDiff, Nat.reduceAdd, Nat.reduceLT, ↓reduceIte, reduceCtorEq]
       refine hK _ _ _ ?_; clear hK K)
    | (refine DG_go ?_)
    | (refine AL_nil ?_) | (refine Thn_normal ?_) | (refine Thn_ret ?_) | (refine Thn_exit ?_) | (refine Blk_normal ?_) | (refine Blk_ret ?_) | (refine Blk_here ?_) | (refine Blk_other rfl ?_) | (refine AC_block ?_) | (refine AC_exit ?_) | (refine AC_skip ?_) | (refine AC_ret ?_))
  all_goals (refine Ends.mk2 (by first | exact .inr rfl | exact .inl rfl) [] ?_; simp (dsimp := false) (disch := first | exact vD | fail) only [push_cast, List.reduceReplicate, Nat.reduceAdd, Nat.reduceMul, Nat.reduceSub, Nat.reduceEqDiff, Nat.reduceLT, Nat.reduceLeDiff, Nat.reduceBEq, Int.reduceToNat, Int.reduceEq, Int.reduceLT, Int.reduceLE, Int.reduceAdd, Int.reduceSub, Int.reduceMul, ↓reduceIte, reduceCtorEq, Try.f23, rS, rN, pz]; (repeat (refine aI ?_)); try (first | exact vI | fail))
theorem doQ (h : okS n s k) (hk0 : k ≤ 1000000) (ho : okO o) : ACall Try.prog 23 [rS n s, .agg (oC o)] [] 0 (.tup [rS n (stepN n s o).s, .agg (pC (stepN n s o).p), .val (.int .i64 (stepN n s o).e)]) [] := by
  unfold stepN
  split
  · exact do_send h hk0 ho (by assumption)
  split
  · exact do_take h hk0 ho (by assumption)
  split
  · exact do_next h hk0 ho (by assumption)
  split
  · exact do_drop h hk0 ho (by assumption)
  split
  · exact do_rep h hk0 ho (by assumption)
  · exact do_block h hk0 ho ⟨by assumption, by assumption, by assumption, by assumption, by assumption⟩
theorem pfQ (h : okS n s k) (hk0 : k ≤ 1000000) (ho : okO o) : ACall Try.prog 22 [.pt 0 0, .agg (oC o)] (nS n s) 2 (.tup [.agg (pC (stepN n s o).p), .val (.int .i64 (stepN n s o).e)]) (nS n (stepN n s o).s) := by
  have hn : s.l.length ≤ 1000 := by have := h.len; omega
  have h1 : s.next ≤ 1000000 := by have := h.nx1; omega
  unfold stepN
  split
  · exact pf_send hn h.nx0 h1 ho (by assumption)
  split
  · exact pf_take hn h.nx0 h1 ho (by assumption)
  split
  · exact pf_next hn h.nx0 h1 ho (by assumption)
  split
  · exact pf_drop hn h.nx0 h1 ho (by assumption)
  split
  · exact pf_rep hn h.nx0 h1 ho (by assumption)
  · exact pf_block hn h.nx0 h1 ho ⟨by assumption, by assumption, by assumption, by assumption, by assumption⟩
/-- Where nothing was ever sent, and nothing is. -/
theorem peQ (h : okS n s k) (hk0 : k ≤ 1000000) (ho : okO o) (hz : s.zp = true) (hz2 : (stepN n s o).s.zp = true) : ACall Try.prog 22 [.pt 0 0, .agg (oC o)] (n0 n s.next s.f) 2 (.tup [.agg (pC (stepN n s o).p), .val (.int .i64 (stepN n s o).e)]) (n0 n (stepN n s o).s.next (stepN n s o).s.f) := by
  have hl : s.l = [] := h.zp hz
  have ha : ∀ x, at' s.l x = -1 := fun x => by rw [hl]; rfl
  have hx : ∀ p : Pk → Bool, ix p s.l = -1 := fun p => by rw [hl]; rfl
  unfold stepN at hz2 ⊢
  split
  · rename_i h0
    rw [if_pos h0] at hz2
    unfold sendS at hz2 ⊢
    split
    · exact pe_send ho h0 (by assumption)
    · rename_i h2
      rw [if_neg h2, if_neg (by rw [hl]; simp)] at hz2
      cases hz2
  split
  · unfold takeS; rw [if_pos (ha _)]; exact pe_take ho (by assumption)
  split
  · unfold nextS
    split
    · exact pe_nextr ho (by assumption) (by assumption)
    · rw [if_pos (hx _)]; exact pe_next ho (by assumption) (by simp_all)
  split
  · unfold dropS; rw [if_pos (ha _)]; exact pe_drop ho (by assumption)
  split
  · unfold repS; rw [if_pos (ha _)]; exact pe_rep ho (by assumption)
  · unfold blockS
    split
    · exact pe_block ho ⟨by assumption, by assumption, by assumption, by assumption, by assumption⟩ (by assumption)
    · exact pe_blockr ho ⟨by assumption, by assumption, by assumption, by assumption, by assumption⟩ (by assumption)
theorem pe1Q (h : okS n s k) (hk0 : k ≤ 1000000) (ho : okO o) (hz : s.zp = true) (hz2 : (stepN n s o).s.zp = false) : ACall Try.prog 22 [.pt 0 0, .agg (oC o)] (n0 n s.next s.f) 2 (.tup [.agg (pC (stepN n s o).p), .val (.int .i64 (stepN n s o).e)]) (nS n (stepN n s o).s) := by
  have hl : s.l = [] := h.zp hz
  have ha : ∀ x, at' s.l x = -1 := fun x => by rw [hl]; rfl
  have hx : ∀ p : Pk → Bool, ix p s.l = -1 := fun p => by rw [hl]; rfl
  have h1 : s.next ≤ 1000000 := by have := h.nx1; omega
  have no : ∀ {P : Prop}, s.zp = false → P := fun hzf => by rw [hz] at hzf; cases hzf
  unfold stepN at hz2 ⊢
  split
  · rename_i h0
    rw [if_pos h0] at hz2
    unfold sendS at hz2 ⊢
    split
    · rename_i h2; rw [if_pos h2] at hz2; exact no hz2
    · rename_i h2
      rw [if_neg (by rw [hl]; simp), hl]
      rw [Bool.not_eq_false, Bool.and_eq_true] at h2
      have := pe_sent (s := s) ho h0 h2.1 h2.2 h.nx0 h1
      show ACall _ _ _ _ _ _ [.cells [.val (.int .i64 n), .val (.int .i64 (s.next + 1)), .sl 2 0 ([] ++ [(⟨s.next, (msgO o).fr, (msgO o).to, msgO o⟩ : Pk)]).length 24, .mp 1] 80, .map true 2 (bV s.f), .cells (cR ([] ++ [(⟨s.next, (msgO o).fr, (msgO o).to, msgO o⟩ : Pk)])) 41]
      rw [List.nil_append]; exact this
  · rename_i h0
    rw [if_neg h0] at hz2
    exfalso
    split at hz2
    · unfold takeS at hz2; rw [if_pos (ha _)] at hz2; exact no hz2
    split at hz2
    · unfold nextS at hz2; rw [if_pos (hx _)] at hz2; split at hz2 <;> exact no hz2
    split at hz2
    · unfold dropS at hz2; rw [if_pos (ha _)] at hz2; exact no hz2
    split at hz2
    · unfold repS at hz2; rw [if_pos (ha _)] at hz2; exact no hz2
    · unfold blockS at hz2
      split at hz2 <;> exact no hz2
end Go.Proofs.Ytphpjgfhdoobjaa
