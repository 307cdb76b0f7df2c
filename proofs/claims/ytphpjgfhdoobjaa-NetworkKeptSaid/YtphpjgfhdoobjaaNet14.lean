/- The network: perform, the operations of the program's side. No condition. -/
import Derived.Test.YtphpjgfhdoobjaaNet13
set_option linter.unusedVariables false
set_option linter.unusedSectionVars false
set_option linter.unusedSimpArgs false
set_option maxHeartbeats 1000000
set_option maxRecDepth 20000
namespace Go.Proofs.Ytphpjgfhdoobjaa
open Go Go.Sy
attribute [local irreducible] AO AL AC OpT ACall Ends DGo DRun Thn Blk Nxt
variable {n a b : Int} {i j k len : Nat} {z z2 : Bool} {m : Msg} {c : Bool} {s : NS} {o : OpN} {l : List Pk} {f : List (List Int × Bool)} {next : Int}

/-- The network where nothing was ever sent. -/
def nE (n : Int) (s : NS) : List AObj := [.cells [.val (.int .i64 n), .val (.int .i64 s.next), .isl true [] 0, .mp 1] 80, .map true 2 (bV s.f)]
theorem pf_send (hn : s.l.length ≤ 1000) (h0 : 0 ≤ s.next) (h1 : s.next ≤ 1000000) (ho : okO o) (hk : o.kind % 7 = 0) : ACall Try.prog 22 [.pt 0 0, .agg (oC o)] (nS n s) 2 (.tup [.agg (pC (sendS n s (msgO o)).p), .val (.int .i64 (sendS n s (msgO o)).e)]) (nS n (sendS n s (msgO o)).s) := by
  have ho' := ho
  obtain ⟨o1, o2, o3, o4, o5, o6⟩ := ho'
  skip
  rw [sendS_p]
  refine ACall.enter Try.func22 rfl (by simp [Try.ntmps22, nS, oC]) (by simp [nS, oC]) ?_
  simp only [entry, idx, nS, oC, Try.ntmps22, List.length, List.map_cons, List.map_nil, List.append_nil, List.cons_append, List.nil_append, Nat.reduceAdd, Nat.zero_add, List.length_cons, List.length_nil]
  repeat' (first
    | (refine AC_seq ?_)
    | (refine AC_region_lit ?_)
    | ((first | refine AL_go rfl (fun K hK => ?_) | refine AL_go0 (fun K hK => ?_))
       (first | refine R_callG (f := 34) [] 0 false ?_ | refine R_callG (f := 12) [0,1,2] 2 false ?_)
       simp (dsimp := false) (disch := first | exact vD | fail) only [push_cast, List.reduceReplicate, Nat.reduceAdd, Nat.reduceMul, Nat.reduceSub, Nat.reduceEqDiff, Nat.reduceLT, Nat.reduceLeDiff, Nat.reduceBEq, Int.reduceToNat, Int.reduceEq, Int.reduceLT, Int.reduceLE, Int.reduceAdd, Int.reduceSub, Int.reduceMul, ↓reduceIte, reduceCtorEq, nS, oC, hk]
       (repeat (refine aI ?_)); intro G hG; refine hG _ _ ?_; clear hG G
       (first | refine ⟨_, _, message_ok ho, ?_⟩ | refine ⟨_, _, sendQ (s := s) (m := msgO o) hn h0 h1, ?_⟩)
       simp (dsimp := false) (disch := first | exact vD | fail) only [push_cast, List.reduceReplicate, Nat.reduceAdd, Nat.reduceMul, Nat.reduceSub, Nat.reduceEqDiff, Nat.reduceLT, Nat.reduceLeDiff, Nat.reduceBEq, Int.reduceToNat, Int.reduceEq, Int.reduceLT, Int.reduceLE, Int.reduceAdd, Int.reduceSub, Int.reduceMul, ↓reduceIte, reduceCtorEq, nS, oC, hk]
       (repeat (refine aI ?_)); (first | refine hK _ _ _ ?_ | refine hK _ _ ?_); clear hK K)
    | ((first | refine AL_go rfl (fun K hK => ?_) | refine AL_go0 (fun K hK => ?_))
       (first | refine R_move _ ?_ | refine R_assign _ ?_ | refine Q_load _ _ ?_ | refine Q_loadAgg _ _ ?_ | refine Q_fieldAddr _ _ _ ?_ | refine Q_extract _ _ ?_ | refine Q_box _ _ ?_ | refine R_alloc _ ?_ | refine Q_store _ _ _ ?_ | refine Q_build _ _ ?_ | refine Q_buildArr _ _ ?_ | refine Q_convert _ _ _ ?_ | refine Q_eqAgg _ _ _ _ ?_ | refine Q_neqAgg _ _ _ _ ?_ | refine Q_neqSelf _ _ _ _ ?_ | refine Q_bin _ _ _ _ _ ?_)
       simp (dsimp := false) (disch := first | exact vD | fail) only [push_cast, List.reduceReplicate, Nat.reduceAdd, Nat.reduceMul, Nat.reduceSub, Nat.reduceEqDiff, Nat.reduceLT, Nat.reduceLeDiff, Nat.reduceBEq, Int.reduceToNat, Int.reduceEq, Int.reduceLT, Int.reduceLE, Int.reduceAdd, Int.reduceSub, Int.reduceMul, ↓reduceIte, reduceCtorEq, nS, oC, hk]
       (repeat (refine aI ?_)); (first | refine hK _ _ _ ?_ | refine hK _ _ ?_); clear hK K)
    | ((first | refine AL_guard rfl rfl (fun K1 K2 h1 h2 => ?_) rfl | refine AC_cond_k (fun K1 K2 h1 h2 => ?_))
       simp (dsimp := false) (disch := first | exact vD | fail) only [push_cast, List.reduceReplicate, Nat.reduceAdd, Nat.reduceMul, Nat.reduceSub, Nat.reduceEqDiff, Nat.reduceLT, Nat.reduceLeDiff, Nat.reduceBEq, Int.reduceToNat, Int.reduceEq, Int.reduceLT, Int.reduceLE, Int.reduceAdd, Int.reduceSub, Int.reduceMul, ↓reduceIte, reduceCtorEq, nS, oC, hk]
       first | (refine ⟨fun hc => ?_, fun hc => ?_⟩ <;> first | (exfalso; omega) | (exfalso; contradiction) | refine h1 ?_ | refine h2 ?_) | refine h1 ?_ | refine h2 ?_
       all_goals clear h1 h2 K1 K2)
    | (refine AL_nil ?_) | (refine Thn_normal ?_) | (refine Thn_ret ?_) | (refine Thn_exit ?_) | (refine Blk_normal ?_) | (refine Blk_ret ?_) | (refine Blk_here ?_) | (refine Blk_other rfl ?_) | (refine AC_block ?_) | (refine AC_exit ?_) | (refine AC_skip ?_) | (refine AC_ret ?_))
  all_goals (refine Ends.mk2 (by first | exact .inr rfl | exact .inl rfl) [0,1,5] ?_; simp (dsimp := false) (disch := first | exact vD | fail) only [push_cast, List.reduceReplicate, Nat.reduceAdd, Nat.reduceMul, Nat.reduceSub, Nat.reduceEqDiff, Nat.reduceLT, Nat.reduceLeDiff, Nat.reduceBEq, Int.reduceToNat, Int.reduceEq, Int.reduceLT, Int.reduceLE, Int.reduceAdd, Int.reduceSub, Int.reduceMul, ↓reduceIte, reduceCtorEq, Try.f22, nS, pz]; (repeat (refine aI ?_)); try (first | exact vI | fail))
theorem pf_take (hn : s.l.length ≤ 1000) (h0 : 0 ≤ s.next) (h1 : s.next ≤ 1000000) (ho : okO o) (hk : o.kind % 7 = 1) : ACall Try.prog 22 [.pt 0 0, .agg (oC o)] (nS n s) 2 (.tup [.agg (pC (takeS s o.id).p), .val (.int .i64 (takeS s o.id).e)]) (nS n (takeS s o.id).s) := by
  have ho' := ho
  obtain ⟨o1, o2, o3, o4, o5, o6⟩ := ho'
  skip
  refine ACall.enter Try.func22 rfl (by simp [Try.ntmps22, nS, oC]) (by simp [nS, oC]) ?_
  simp only [entry, idx, nS, oC, Try.ntmps22, List.length, List.map_cons, List.map_nil, List.append_nil, List.cons_append, List.nil_append, Nat.reduceAdd, Nat.zero_add, List.length_cons, List.length_nil]
  repeat' (first
    | (refine AC_seq ?_)
    | (refine AC_region_lit ?_)
    | ((first | refine AL_go rfl (fun K hK => ?_) | refine AL_go0 (fun K hK => ?_))
       (first | refine R_callG (f := 18) [0,1,2] 2 false ?_)
       simp (dsimp := false) (disch := first | exact vD | fail) only [push_cast, List.reduceReplicate, Nat.reduceAdd, Nat.reduceMul, Nat.reduceSub, Nat.reduceEqDiff, Nat.reduceLT, Nat.reduceLeDiff, Nat.reduceBEq, Int.reduceToNat, Int.reduceEq, Int.reduceLT, Int.reduceLE, Int.reduceAdd, Int.reduceSub, Int.reduceMul, ↓reduceIte, reduceCtorEq, nS, oC, hk]
       (repeat (refine aI ?_)); intro G hG; refine hG _ _ ?_; clear hG G
       (first | refine ⟨_, _, takeQ (s := s) hn, ?_⟩)
       simp (dsimp := false) (disch := first | exact vD | fail) only [push_cast, List.reduceReplicate, Nat.reduceAdd, Nat.reduceMul, Nat.reduceSub, Nat.reduceEqDiff, Nat.reduceLT, Nat.reduceLeDiff, Nat.reduceBEq, Int.reduceToNat, Int.reduceEq, Int.reduceLT, Int.reduceLE, Int.reduceAdd, Int.reduceSub, Int.reduceMul, ↓reduceIte, reduceCtorEq, nS, oC, hk]
       (repeat (refine aI ?_)); (first | refine hK _ _ _ ?_ | refine hK _ _ ?_); clear hK K)
    | ((first | refine AL_go rfl (fun K hK => ?_) | refine AL_go0 (fun K hK => ?_))
       (first | refine R_move _ ?_ | refine R_assign _ ?_ | refine Q_load _ _ ?_ | refine Q_loadAgg _ _ ?_ | refine Q_fieldAddr _ _ _ ?_ | refine Q_extract _ _ ?_ | refine Q_box _ _ ?_ | refine R_alloc _ ?_ | refine Q_store _ _ _ ?_ | refine Q_build _ _ ?_ | refine Q_buildArr _ _ ?_ | refine Q_convert _ _ _ ?_ | refine Q_eqAgg _ _ _ _ ?_ | refine Q_neqAgg _ _ _ _ ?_ | refine Q_neqSelf _ _ _ _ ?_ | refine Q_bin _ _ _ _ _ ?_)
       simp (dsimp := false) (disch := first | exact vD | fail) only [push_cast, List.reduceReplicate, Nat.reduceAdd, Nat.reduceMul, Nat.reduceSub, Nat.reduceEqDiff, Nat.reduceLT, Nat.reduceLeDiff, Nat.reduceBEq, Int.reduceToNat, Int.reduceEq, Int.reduceLT, Int.reduceLE, Int.reduceAdd, Int.reduceSub, Int.reduceMul, ↓reduceIte, reduceCtorEq, nS, oC, hk]
       (repeat (refine aI ?_)); (first | refine hK _ _ _ ?_ | refine hK _ _ ?_); clear hK K)
    | ((first | refine AL_guard rfl rfl (fun K1 K2 h1 h2 => ?_) rfl | refine AC_cond_k (fun K1 K2 h1 h2 => ?_))
       simp (dsimp := false) (disch := first | exact vD | fail) only [push_cast, List.reduceReplicate, Nat.reduceAdd, Nat.reduceMul, Nat.reduceSub, Nat.reduceEqDiff, Nat.reduceLT, Nat.reduceLeDiff, Nat.reduceBEq, Int.reduceToNat, Int.reduceEq, Int.reduceLT, Int.reduceLE, Int.reduceAdd, Int.reduceSub, Int.reduceMul, ↓reduceIte, reduceCtorEq, nS, oC, hk]
       first | (refine ⟨fun hc => ?_, fun hc => ?_⟩ <;> first | (exfalso; omega) | (exfalso; contradiction) | refine h1 ?_ | refine h2 ?_) | refine h1 ?_ | refine h2 ?_
       all_goals clear h1 h2 K1 K2)
    | (refine AL_nil ?_) | (refine Thn_normal ?_) | (refine Thn_ret ?_) | (refine Thn_exit ?_) | (refine Blk_normal ?_) | (refine Blk_ret ?_) | (refine Blk_here ?_) | (refine Blk_other rfl ?_) | (refine AC_block ?_) | (refine AC_exit ?_) | (refine AC_skip ?_) | (refine AC_ret ?_))
  all_goals (refine Ends.mk2 (by first | exact .inr rfl | exact .inl rfl) [0,1,5] ?_; simp (dsimp := false) (disch := first | exact vD | fail) only [push_cast, List.reduceReplicate, Nat.reduceAdd, Nat.reduceMul, Nat.reduceSub, Nat.reduceEqDiff, Nat.reduceLT, Nat.reduceLeDiff, Nat.reduceBEq, Int.reduceToNat, Int.reduceEq, Int.reduceLT, Int.reduceLE, Int.reduceAdd, Int.reduceSub, Int.reduceMul, ↓reduceIte, reduceCtorEq, Try.f22, nS, pz]; (repeat (refine aI ?_)); try (first | exact vI | fail))
theorem pf_next (hn : s.l.length ≤ 1000) (h0 : 0 ≤ s.next) (h1 : s.next ≤ 1000000) (ho : okO o) (hk : o.kind % 7 = 2) : ACall Try.prog 22 [.pt 0 0, .agg (oC o)] (nS n s) 2 (.tup [.agg (pC (nextS n s o.to).p), .val (.int .i64 (nextS n s o.to).e)]) (nS n (nextS n s o.to).s) := by
  have ho' := ho
  obtain ⟨o1, o2, o3, o4, o5, o6⟩ := ho'
  skip
  refine ACall.enter Try.func22 rfl (by simp [Try.ntmps22, nS, oC]) (by simp [nS, oC]) ?_
  simp only [entry, idx, nS, oC, Try.ntmps22, List.length, List.map_cons, List.map_nil, List.append_nil, List.cons_append, List.nil_append, Nat.reduceAdd, Nat.zero_add, List.length_cons, List.length_nil]
  repeat' (first
    | (refine AC_seq ?_)
    | (refine AC_region_lit ?_)
    | ((first | refine AL_go rfl (fun K hK => ?_) | refine AL_go0 (fun K hK => ?_))
       (first | refine R_callG (f := 13) [0,1,2] 2 false ?_)
       simp (dsimp := false) (disch := first | exact vD | fail) only [push_cast, List.reduceReplicate, Nat.reduceAdd, Nat.reduceMul, Nat.reduceSub, Nat.reduceEqDiff, Nat.reduceLT, Nat.reduceLeDiff, Nat.reduceBEq, Int.reduceToNat, Int.reduceEq, Int.reduceLT, Int.reduceLE, Int.reduceAdd, Int.reduceSub, Int.reduceMul, ↓reduceIte, reduceCtorEq, nS, oC, hk]
       (repeat (refine aI ?_)); intro G hG; refine hG _ _ ?_; clear hG G
       (first | refine ⟨_, _, nextQ (s := s) hn, ?_⟩)
       simp (dsimp := false) (disch := first | exact vD | fail) only [push_cast, List.reduceReplicate, Nat.reduceAdd, Nat.reduceMul, Nat.reduceSub, Nat.reduceEqDiff, Nat.reduceLT, Nat.reduceLeDiff, Nat.reduceBEq, Int.reduceToNat, Int.reduceEq, Int.reduceLT, Int.reduceLE, Int.reduceAdd, Int.reduceSub, Int.reduceMul, ↓reduceIte, reduceCtorEq, nS, oC, hk]
       (repeat (refine aI ?_)); (first | refine hK _ _ _ ?_ | refine hK _ _ ?_); clear hK K)
    | ((first | refine AL_go rfl (fun K hK => ?_) | refine AL_go0 (fun K hK => ?_))
       (first | refine R_move _ ?_ | refine R_assign _ ?_ | refine Q_load _ _ ?_ | refine Q_loadAgg _ _ ?_ | refine Q_fieldAddr _ _ _ ?_ | refine Q_extract _ _ ?_ | refine Q_box _ _ ?_ | refine R_alloc _ ?_ | refine Q_store _ _ _ ?_ | refine Q_build _ _ ?_ | refine Q_buildArr _ _ ?_ | refine Q_convert _ _ _ ?_ | refine Q_eqAgg _ _ _ _ ?_ | refine Q_neqAgg _ _ _ _ ?_ | refine Q_neqSelf _ _ _ _ ?_ | refine Q_bin _ _ _ _ _ ?_)
       simp (dsimp := false) (disch := first | exact vD | fail) only [push_cast, List.reduceReplicate, Nat.reduceAdd, Nat.reduceMul, Nat.reduceSub, Nat.reduceEqDiff, Nat.reduceLT, Nat.reduceLeDiff, Nat.reduceBEq, Int.reduceToNat, Int.reduceEq, Int.reduceLT, Int.reduceLE, Int.reduceAdd, Int.reduceSub, Int.reduceMul, ↓reduceIte, reduceCtorEq, nS, oC, hk]
       (repeat (refine aI ?_)); (first | refine hK _ _ _ ?_ | refine hK _ _ ?_); clear hK K)
    | ((first | refine AL_guard rfl rfl (fun K1 K2 h1 h2 => ?_) rfl | refine AC_cond_k (fun K1 K2 h1 h2 => ?_))
       simp (dsimp := false) (disch := first | exact vD | fail) only [push_cast, List.reduceReplicate, Nat.reduceAdd, Nat.reduceMul, Nat.reduceSub, Nat.reduceEqDiff, Nat.reduceLT, Nat.reduceLeDiff, Nat.reduceBEq, Int.reduceToNat, Int.reduceEq, Int.reduceLT, Int.reduceLE, Int.reduceAdd, Int.reduceSub, Int.reduceMul, ↓reduceIte, reduceCtorEq, nS, oC, hk]
       first | (refine ⟨fun hc => ?_, fun hc => ?_⟩ <;> first | (exfalso; omega) | (exfalso; contradiction) | refine h1 ?_ | refine h2 ?_) | refine h1 ?_ | refine h2 ?_
       all_goals clear h1 h2 K1 K2)
    | (refine AL_nil ?_) | (refine Thn_normal ?_) | (refine Thn_ret ?_) | (refine Thn_exit ?_) | (refine Blk_normal ?_) | (refine Blk_ret ?_) | (refine Blk_here ?_) | (refine Blk_other rfl ?_) | (refine AC_block ?_) | (refine AC_exit ?_) | (refine AC_skip ?_) | (refine AC_ret ?_))
  all_goals (refine Ends.mk2 (by first | exact .inr rfl | exact .inl rfl) [0,1,5] ?_; simp (dsimp := false) (disch := first | exact vD | fail) only [push_cast, List.reduceReplicate, Nat.reduceAdd, Nat.reduceMul, Nat.reduceSub, Nat.reduceEqDiff, Nat.reduceLT, Nat.reduceLeDiff, Nat.reduceBEq, Int.reduceToNat, Int.reduceEq, Int.reduceLT, Int.reduceLE, Int.reduceAdd, Int.reduceSub, Int.reduceMul, ↓reduceIte, reduceCtorEq, Try.f22, nS, pz]; (repeat (refine aI ?_)); try (first | exact vI | fail))
theorem pf_drop (hn : s.l.length ≤ 1000) (h0 : 0 ≤ s.next) (h1 : s.next ≤ 1000000) (ho : okO o) (hk : o.kind % 7 = 3) : ACall Try.prog 22 [.pt 0 0, .agg (oC o)] (nS n s) 2 (.tup [.agg (pC (dropS s o.id).p), .val (.int .i64 (dropS s o.id).e)]) (nS n (dropS s o.id).s) := by
  have ho' := ho
  obtain ⟨o1, o2, o3, o4, o5, o6⟩ := ho'
  skip
  rw [dropS_p]
  refine ACall.enter Try.func22 rfl (by simp [Try.ntmps22, nS, oC]) (by simp [nS, oC]) ?_
  simp only [entry, idx, nS, oC, Try.ntmps22, List.length, List.map_cons, List.map_nil, List.append_nil, List.cons_append, List.nil_append, Nat.reduceAdd, Nat.zero_add, List.length_cons, List.length_nil]
  repeat' (first
    | (refine AC_seq ?_)
    | (refine AC_region_lit ?_)
    | ((first | refine AL_go rfl (fun K hK => ?_) | refine AL_go0 (fun K hK => ?_))
       (first | refine R_callG (f := 35) [0,1,2] 2 false ?_)
       simp (dsimp := false) (disch := first | exact vD | fail) only [push_cast, List.reduceReplicate, Nat.reduceAdd, Nat.reduceMul, Nat.reduceSub, Nat.reduceEqDiff, Nat.reduceLT, Nat.reduceLeDiff, Nat.reduceBEq, Int.reduceToNat, Int.reduceEq, Int.reduceLT, Int.reduceLE, Int.reduceAdd, Int.reduceSub, Int.reduceMul, ↓reduceIte, reduceCtorEq, nS, oC, hk]
       (repeat (refine aI ?_)); intro G hG; refine hG _ _ ?_; clear hG G
       (first | refine ⟨_, _, dropQ (s := s) hn, ?_⟩)
       simp (dsimp := false) (disch := first | exact vD | fail) only [push_cast, List.reduceReplicate, Nat.reduceAdd, Nat.reduceMul, Nat.reduceSub, Nat.reduceEqDiff, Nat.reduceLT, Nat.reduceLeDiff, Nat.reduceBEq, Int.reduceToNat, Int.reduceEq, Int.reduceLT, Int.reduceLE, Int.reduceAdd, Int.reduceSub, Int.reduceMul, ↓reduceIte, reduceCtorEq, nS, oC, hk]
       (repeat (refine aI ?_)); (first | refine hK _ _ _ ?_ | refine hK _ _ ?_); clear hK K)
    | ((first | refine AL_go rfl (fun K hK => ?_) | refine AL_go0 (fun K hK => ?_))
       (first | refine R_move _ ?_ | refine R_assign _ ?_ | refine Q_load _ _ ?_ | refine Q_loadAgg _ _ ?_ | refine Q_fieldAddr _ _ _ ?_ | refine Q_extract _ _ ?_ | refine Q_box _ _ ?_ | refine R_alloc _ ?_ | refine Q_store _ _ _ ?_ | refine Q_build _ _ ?_ | refine Q_buildArr _ _ ?_ | refine Q_convert _ _ _ ?_ | refine Q_eqAgg _ _ _ _ ?_ | refine Q_neqAgg _ _ _ _ ?_ | refine Q_neqSelf _ _ _ _ ?_ | refine Q_bin _ _ _ _ _ ?_)
       simp (dsimp := false) (disch := first | exact vD | fail) only [push_cast, List.reduceReplicate, Nat.reduceAdd, Nat.reduceMul, Nat.reduceSub, Nat.reduceEqDiff, Nat.reduceLT, Nat.reduceLeDiff, Nat.reduceBEq, Int.reduceToNat, Int.reduceEq, Int.reduceLT, Int.reduceLE, Int.reduceAdd, Int.reduceSub, Int.reduceMul, ↓reduceIte, reduceCtorEq, nS, oC, hk]
       (repeat (refine aI ?_)); (first | refine hK _ _ _ ?_ | refine hK _ _ ?_); clear hK K)
    | ((first | refine AL_guard rfl rfl (fun K1 K2 h1 h2 => ?_) rfl | refine AC_cond_k (fun K1 K2 h1 h2 => ?_))
       simp (dsimp := false) (disch := first | exact vD | fail) only [push_cast, List.reduceReplicate, Nat.reduceAdd, Nat.reduceMul, Nat.reduceSub, Nat.reduceEqDiff, Nat.reduceLT, Nat.reduceLeDiff, Nat.reduceBEq, Int.reduceToNat, Int.reduceEq, Int.reduceLT, Int.reduceLE, Int.reduceAdd, Int.reduceSub, Int.reduceMul, ↓reduceIte, reduceCtorEq, nS, oC, hk]
       first | (refine ⟨fun hc => ?_, fun hc => ?_⟩ <;> first | (exfalso; omega) | (exfalso; contradiction) | refine h1 ?_ | refine h2 ?_) | refine h1 ?_ | refine h2 ?_
       all_goals clear h1 h2 K1 K2)
    | (refine AL_nil ?_) | (refine Thn_normal ?_) | (refine Thn_ret ?_) | (refine Thn_exit ?_) | (refine Blk_normal ?_) | (refine Blk_ret ?_) | (refine Blk_here ?_) | (refine Blk_other rfl ?_) | (refine AC_block ?_) | (refine AC_exit ?_) | (refine AC_skip ?_) | (refine AC_ret ?_))
  all_goals (refine Ends.mk2 (by first | exact .inr rfl | exact .inl rfl) [0,1,5] ?_; simp (dsimp := false) (disch := first | exact vD | fail) only [push_cast, List.reduceReplicate, Nat.reduceAdd, Nat.reduceMul, Nat.reduceSub, Nat.reduceEqDiff, Nat.reduceLT, Nat.reduceLeDiff, Nat.reduceBEq, Int.reduceToNat, Int.reduceEq, Int.reduceLT, Int.reduceLE, Int.reduceAdd, Int.reduceSub, Int.reduceMul, ↓reduceIte, reduceCtorEq, Try.f22, nS, pz]; (repeat (refine aI ?_)); try (first | exact vI | fail))
theorem pf_rep (hn : s.l.length ≤ 1000) (h0 : 0 ≤ s.next) (h1 : s.next ≤ 1000000) (ho : okO o) (hk : o.kind % 7 = 4) : ACall Try.prog 22 [.pt 0 0, .agg (oC o)] (nS n s) 2 (.tup [.agg (pC (repS n s o.id).p), .val (.int .i64 (repS n s o.id).e)]) (nS n (repS n s o.id).s) := by
  have ho' := ho
  obtain ⟨o1, o2, o3, o4, o5, o6⟩ := ho'
  skip
  rw [repS_p]
  refine ACall.enter Try.func22 rfl (by simp [Try.ntmps22, nS, oC]) (by simp [nS, oC]) ?_
  simp only [entry, idx, nS, oC, Try.ntmps22, List.length, List.map_cons, List.map_nil, List.append_nil, List.cons_append, List.nil_append, Nat.reduceAdd, Nat.zero_add, List.length_cons, List.length_nil]
  repeat' (first
    | (refine AC_seq ?_)
    | (refine AC_region_lit ?_)
    | ((first | refine AL_go rfl (fun K hK => ?_) | refine AL_go0 (fun K hK => ?_))
       (first | refine R_callG (f := 19) [0,1,2] 2 false ?_)
       simp (dsimp := false) (disch := first | exact vD | fail) only [push_cast, List.reduceReplicate, Nat.reduceAdd, Nat.reduceMul, Nat.reduceSub, Nat.reduceEqDiff, Nat.reduceLT, Nat.reduceLeDiff, Nat.reduceBEq, Int.reduceToNat, Int.reduceEq, Int.reduceLT, Int.reduceLE, Int.reduceAdd, Int.reduceSub, Int.reduceMul, ↓reduceIte, reduceCtorEq, nS, oC, hk]
       (repeat (refine aI ?_)); intro G hG; refine hG _ _ ?_; clear hG G
       (first | refine ⟨_, _, repQ (s := s) hn h0 h1, ?_⟩)
       simp (dsimp := false) (disch := first | exact vD | fail) only [push_cast, List.reduceReplicate, Nat.reduceAdd, Nat.reduceMul, Nat.reduceSub, Nat.reduceEqDiff, Nat.reduceLT, Nat.reduceLeDiff, Nat.reduceBEq, Int.reduceToNat, Int.reduceEq, Int.reduceLT, Int.reduceLE, Int.reduceAdd, Int.reduceSub, Int.reduceMul, ↓reduceIte, reduceCtorEq, nS, oC, hk]
       (repeat (refine aI ?_)); (first | refine hK _ _ _ ?_ | refine hK _ _ ?_); clear hK K)
    | ((first | refine AL_go rfl (fun K hK => ?_) | refine AL_go0 (fun K hK => ?_))
       (first | refine R_move _ ?_ | refine R_assign _ ?_ | refine Q_load _ _ ?_ | refine Q_loadAgg _ _ ?_ | refine Q_fieldAddr _ _ _ ?_ | refine Q_extract _ _ ?_ | refine Q_box _ _ ?_ | refine R_alloc _ ?_ | refine Q_store _ _ _ ?_ | refine Q_build _ _ ?_ | refine Q_buildArr _ _ ?_ | refine Q_convert _ _ _ ?_ | refine Q_eqAgg _ _ _ _ ?_ | refine Q_neqAgg _ _ _ _ ?_ | refine Q_neqSelf _ _ _ _ ?_ | refine Q_bin _ _ _ _ _ ?_)
       simp (dsimp := false) (disch := first | exact vD | fail) only [push_cast, List.reduceReplicate, Nat.reduceAdd, Nat.reduceMul, Nat.reduceSub, Nat.reduceEqDiff, Nat.reduceLT, Nat.reduceLeDiff, Nat.reduceBEq, Int.reduceToNat, Int.reduceEq, Int.reduceLT, Int.reduceLE, Int.reduceAdd, Int.reduceSub, Int.reduceMul, ↓reduceIte, reduceCtorEq, nS, oC, hk]
       (repeat (refine aI ?_)); (first | refine hK _ _ _ ?_ | refine hK _ _ ?_); clear hK K)
    | ((first | refine AL_guard rfl rfl (fun K1 K2 h1 h2 => ?_) rfl | refine AC_cond_k (fun K1 K2 h1 h2 => ?_))
       simp (dsimp := false) (disch := first | exact vD | fail) only [push_cast, List.reduceReplicate, Nat.reduceAdd, Nat.reduceMul, Nat.reduceSub, Nat.reduceEqDiff, Nat.reduceLT, Nat.reduceLeDiff, Nat.reduceBEq, Int.reduceToNat, Int.reduceEq, Int.reduceLT, Int.reduceLE, Int.reduceAdd, Int.reduceSub, Int.reduceMul, ↓reduceIte, reduceCtorEq, nS, oC, hk]
       first | (refine ⟨fun hc => ?_, fun hc => ?_⟩ <;> first | (exfalso; omega) | (exfalso; contradiction) | refine h1 ?_ | refine h2 ?_) | refine h1 ?_ | refine h2 ?_
       all_goals clear h1 h2 K1 K2)
    | (refine AL_nil ?_) | (refine Thn_normal ?_) | (refine Thn_ret ?_) | (refine Thn_exit ?_) | (refine Blk_normal ?_) | (refine Blk_ret ?_) | (refine Blk_here ?_) | (refine Blk_other rfl ?_) | (refine AC_block ?_) | (refine AC_exit ?_) | (refine AC_skip ?_) | (refine AC_ret ?_))
  all_goals (refine Ends.mk2 (by first | exact .inr rfl | exact .inl rfl) [0,1,5] ?_; simp (dsimp := false) (disch := first | exact vD | fail) only [push_cast, List.reduceReplicate, Nat.reduceAdd, Nat.reduceMul, Nat.reduceSub, Nat.reduceEqDiff, Nat.reduceLT, Nat.reduceLeDiff, Nat.reduceBEq, Int.reduceToNat, Int.reduceEq, Int.reduceLT, Int.reduceLE, Int.reduceAdd, Int.reduceSub, Int.reduceMul, ↓reduceIte, reduceCtorEq, Try.f22, nS, pz]; (repeat (refine aI ?_)); try (first | exact vI | fail))
theorem pf_block (hn : s.l.length ≤ 1000) (h0 : 0 ≤ s.next) (h1 : s.next ≤ 1000000) (ho : okO o) (hk : ¬ o.kind % 7 = 0 ∧ ¬ o.kind % 7 = 1 ∧ ¬ o.kind % 7 = 2 ∧ ¬ o.kind % 7 = 3 ∧ ¬ o.kind % 7 = 4) : ACall Try.prog 22 [.pt 0 0, .agg (oC o)] (nS n s) 2 (.tup [.agg (pC (blockS n s o.a o.b (decide (o.kind % 7 = 5))).p), .val (.int .i64 (blockS n s o.a o.b (decide (o.kind % 7 = 5))).e)]) (nS n (blockS n s o.a o.b (decide (o.kind % 7 = 5))).s) := by
  have ho' := ho
  obtain ⟨o1, o2, o3, o4, o5, o6⟩ := ho'
  obtain ⟨k0, k1, k2, k3, k4⟩ := hk
  rw [blockS_p]
  refine ACall.enter Try.func22 rfl (by simp [Try.ntmps22, nS, oC]) (by simp [nS, oC]) ?_
  simp only [entry, idx, nS, oC, Try.ntmps22, List.length, List.map_cons, List.map_nil, List.append_nil, List.cons_append, List.nil_append, Nat.reduceAdd, Nat.zero_add, List.length_cons, List.length_nil]
  repeat' (first
    | (refine AC_seq ?_)
    | (refine AC_region_lit ?_)
    | ((first | refine AL_go rfl (fun K hK => ?_) | refine AL_go0 (fun K hK => ?_))
       (first | refine R_callG (f := 17) [0,1,2] 2 false ?_)
       simp (dsimp := false) (disch := first | exact vD | fail) only [push_cast, List.reduceReplicate, Nat.reduceAdd, Nat.reduceMul, Nat.reduceSub, Nat.reduceEqDiff, Nat.reduceLT, Nat.reduceLeDiff, Nat.reduceBEq, Int.reduceToNat, Int.reduceEq, Int.reduceLT, Int.reduceLE, Int.reduceAdd, Int.reduceSub, Int.reduceMul, ↓reduceIte, reduceCtorEq, nS, oC, k0, k1, k2, k3, k4]
       (repeat (refine aI ?_)); intro G hG; refine hG _ _ ?_; clear hG G
       (first | refine ⟨_, _, blockQ (s := s), ?_⟩)
       simp (dsimp := false) (disch := first | exact vD | fail) only [push_cast, List.reduceReplicate, Nat.reduceAdd, Nat.reduceMul, Nat.reduceSub, Nat.reduceEqDiff, Nat.reduceLT, Nat.reduceLeDiff, Nat.reduceBEq, Int.reduceToNat, Int.reduceEq, Int.reduceLT, Int.reduceLE, Int.reduceAdd, Int.reduceSub, Int.reduceMul, ↓reduceIte, reduceCtorEq, nS, oC, k0, k1, k2, k3, k4]
       (repeat (refine aI ?_)); (first | refine hK _ _ _ ?_ | refine hK _ _ ?_); clear hK K)
    | ((first | refine AL_go rfl (fun K hK => ?_) | refine AL_go0 (fun K hK => ?_))
       (first | refine R_move _ ?_ | refine R_assign _ ?_ | refine Q_load _ _ ?_ | refine Q_loadAgg _ _ ?_ | refine Q_fieldAddr _ _ _ ?_ | refine Q_extract _ _ ?_ | refine Q_box _ _ ?_ | refine R_alloc _ ?_ | refine Q_store _ _ _ ?_ | refine Q_build _ _ ?_ | refine Q_buildArr _ _ ?_ | refine Q_convert _ _ _ ?_ | refine Q_eqAgg _ _ _ _ ?_ | refine Q_neqAgg _ _ _ _ ?_ | refine Q_neqSelf _ _ _ _ ?_ | refine Q_bin _ _ _ _ _ ?_)
       simp (dsimp := false) (disch := first | exact vD | fail) only [push_cast, List.reduceReplicate, Nat.reduceAdd, Nat.reduceMul, Nat.reduceSub, Nat.reduceEqDiff, Nat.reduceLT, Nat.reduceLeDiff, Nat.reduceBEq, Int.reduceToNat, Int.reduceEq, Int.reduceLT, Int.reduceLE, Int.reduceAdd, Int.reduceSub, Int.reduceMul, ↓reduceIte, reduceCtorEq, nS, oC, k0, k1, k2, k3, k4]
       (repeat (refine aI ?_)); (first | refine hK _ _ _ ?_ | refine hK _ _ ?_); clear hK K)
    | ((first | refine AL_guard rfl rfl (fun K1 K2 h1 h2 => ?_) rfl | refine AC_cond_k (fun K1 K2 h1 h2 => ?_))
       simp (dsimp := false) (disch := first | exact vD | fail) only [push_cast, List.reduceReplicate, Nat.reduceAdd, Nat.reduceMul, Nat.reduceSub, Nat.reduceEqDiff, Nat.reduceLT, Nat.reduceLeDiff, Nat.reduceBEq, Int.reduceToNat, Int.reduceEq, Int.reduceLT, Int.reduceLE, Int.reduceAdd, Int.reduceSub, Int.reduceMul, ↓reduceIte, reduceCtorEq, nS, oC, k0, k1, k2, k3, k4]
       first | (refine ⟨fun hc => ?_, fun hc => ?_⟩ <;> first | (exfalso; omega) | (exfalso; contradiction) | refine h1 ?_ | refine h2 ?_) | refine h1 ?_ | refine h2 ?_
       all_goals clear h1 h2 K1 K2)
    | (refine AL_nil ?_) | (refine Thn_normal ?_) | (refine Thn_ret ?_) | (refine Thn_exit ?_) | (refine Blk_normal ?_) | (refine Blk_ret ?_) | (refine Blk_here ?_) | (refine Blk_other rfl ?_) | (refine AC_block ?_) | (refine AC_exit ?_) | (refine AC_skip ?_) | (refine AC_ret ?_))
  all_goals (refine Ends.mk2 (by first | exact .inr rfl | exact .inl rfl) [0,1,5] ?_; simp (dsimp := false) (disch := first | exact vD | fail) only [push_cast, List.reduceReplicate, Nat.reduceAdd, Nat.reduceMul, Nat.reduceSub, Nat.reduceEqDiff, Nat.reduceLT, Nat.reduceLeDiff, Nat.reduceBEq, Int.reduceToNat, Int.reduceEq, Int.reduceLT, Int.reduceLE, Int.reduceAdd, Int.reduceSub, Int.reduceMul, ↓reduceIte, reduceCtorEq, Try.f22, nS, pz]; (repeat (refine aI ?_)); try (first | exact vI | fail))
theorem pe_send (ho : okO o) (hk : o.kind % 7 = 0) (hx : (pty n (msgO o).fr && pty n (msgO o).to) = false) : ACall Try.prog 22 [.pt 0 0, .agg (oC o)] (n0 n s.next s.f) 2 (.tup [.agg (pC zPk), .val (.int .i64 7)]) (n0 n s.next s.f) := by
  have ho' := ho
  obtain ⟨o1, o2, o3, o4, o5, o6⟩ := ho'
  skip
  refine ACall.enter Try.func22 rfl (by simp [Try.ntmps22, n0, oC]) (by simp [n0, oC]) ?_
  simp only [entry, idx, n0, oC, Try.ntmps22, List.length, List.map_cons, List.map_nil, List.append_nil, List.cons_append, List.nil_append, Nat.reduceAdd, Nat.zero_add, List.length_cons, List.length_nil]
  repeat' (first
    | (refine AC_seq ?_)
    | (refine AC_region_lit ?_)
    | ((first | refine AL_go rfl (fun K hK => ?_) | refine AL_go0 (fun K hK => ?_))
       (first | refine R_callG (f := 34) [] 0 false ?_ | refine R_callG (f := 12) [0,1] 2 false ?_)
       simp (dsimp := false) (disch := first | exact vD | fail) only [push_cast, List.reduceReplicate, Nat.reduceAdd, Nat.reduceMul, Nat.reduceSub, Nat.reduceEqDiff, Nat.reduceLT, Nat.reduceLeDiff, Nat.reduceBEq, Int.reduceToNat, Int.reduceEq, Int.reduceLT, Int.reduceLE, Int.reduceAdd, Int.reduceSub, Int.reduceMul, ↓reduceIte, reduceCtorEq, n0, oC, hk]
       (repeat (refine aI ?_)); intro G hG; refine hG _ _ ?_; clear hG G
       (first | refine ⟨_, _, message_ok ho, ?_⟩ | refine ⟨_, _, send_range0 (m := msgO o) hx, ?_⟩)
       simp (dsimp := false) (disch := first | exact vD | fail) only [push_cast, List.reduceReplicate, Nat.reduceAdd, Nat.reduceMul, Nat.reduceSub, Nat.reduceEqDiff, Nat.reduceLT, Nat.reduceLeDiff, Nat.reduceBEq, Int.reduceToNat, Int.reduceEq, Int.reduceLT, Int.reduceLE, Int.reduceAdd, Int.reduceSub, Int.reduceMul, ↓reduceIte, reduceCtorEq, n0, oC, hk]
       (repeat (refine aI ?_)); (first | refine hK _ _ _ ?_ | refine hK _ _ ?_); clear hK K)
    | ((first | refine AL_go rfl (fun K hK => ?_) | refine AL_go0 (fun K hK => ?_))
       (first | refine R_move _ ?_ | refine R_assign _ ?_ | refine Q_load _ _ ?_ | refine Q_loadAgg _ _ ?_ | refine Q_fieldAddr _ _ _ ?_ | refine Q_extract _ _ ?_ | refine Q_box _ _ ?_ | refine R_alloc _ ?_ | refine Q_store _ _ _ ?_ | refine Q_build _ _ ?_ | refine Q_buildArr _ _ ?_ | refine Q_convert _ _ _ ?_ | refine Q_eqAgg _ _ _ _ ?_ | refine Q_neqAgg _ _ _ _ ?_ | refine Q_neqSelf _ _ _ _ ?_ | refine Q_bin _ _ _ _ _ ?_)
       simp (dsimp := false) (disch := first | exact vD | fail) only [push_cast, List.reduceReplicate, Nat.reduceAdd, Nat.reduceMul, Nat.reduceSub, Nat.reduceEqDiff, Nat.reduceLT, Nat.reduceLeDiff, Nat.reduceBEq, Int.reduceToNat, Int.reduceEq, Int.reduceLT, Int.reduceLE, Int.reduceAdd, Int.reduceSub, Int.reduceMul, ↓reduceIte, reduceCtorEq, n0, oC, hk]
       (repeat (refine aI ?_)); (first | refine hK _ _ _ ?_ | refine hK _ _ ?_); clear hK K)
    | ((first | refine AL_guard rfl rfl (fun K1 K2 h1 h2 => ?_) rfl | refine AC_cond_k (fun K1 K2 h1 h2 => ?_))
       simp (dsimp := false) (disch := first | exact vD | fail) only [push_cast, List.reduceReplicate, Nat.reduceAdd, Nat.reduceMul, Nat.reduceSub, Nat.reduceEqDiff, Nat.reduceLT, Nat.reduceLeDiff, Nat.reduceBEq, Int.reduceToNat, Int.reduceEq, Int.reduceLT, Int.reduceLE, Int.reduceAdd, Int.reduceSub, Int.reduceMul, ↓reduceIte, reduceCtorEq, n0, oC, hk]
       first | (refine ⟨fun hc => ?_, fun hc => ?_⟩ <;> first | (exfalso; omega) | (exfalso; contradiction) | refine h1 ?_ | refine h2 ?_) | refine h1 ?_ | refine h2 ?_
       all_goals clear h1 h2 K1 K2)
    | (refine AL_nil ?_) | (refine Thn_normal ?_) | (refine Thn_ret ?_) | (refine Thn_exit ?_) | (refine Blk_normal ?_) | (refine Blk_ret ?_) | (refine Blk_here ?_) | (refine Blk_other rfl ?_) | (refine AC_block ?_) | (refine AC_exit ?_) | (refine AC_skip ?_) | (refine AC_ret ?_))
  all_goals (refine Ends.mk2 (by first | exact .inr rfl | exact .inl rfl) [0,1] ?_; simp (dsimp := false) (disch := first | exact vD | fail) only [push_cast, List.reduceReplicate, Nat.reduceAdd, Nat.reduceMul, Nat.reduceSub, Nat.reduceEqDiff, Nat.reduceLT, Nat.reduceLeDiff, Nat.reduceBEq, Int.reduceToNat, Int.reduceEq, Int.reduceLT, Int.reduceLE, Int.reduceAdd, Int.reduceSub, Int.reduceMul, ↓reduceIte, reduceCtorEq, Try.f22, n0, pz]; (repeat (refine aI ?_)); try (first | exact vI | fail))
theorem pe_take (ho : okO o) (hk : o.kind % 7 = 1)  : ACall Try.prog 22 [.pt 0 0, .agg (oC o)] (n0 n s.next s.f) 2 (.tup [.agg (pC zPk), .val (.int .i64 4)]) (n0 n s.next s.f) := by
  have ho' := ho
  obtain ⟨o1, o2, o3, o4, o5, o6⟩ := ho'
  skip
  refine ACall.enter Try.func22 rfl (by simp [Try.ntmps22, n0, oC]) (by simp [n0, oC]) ?_
  simp only [entry, idx, n0, oC, Try.ntmps22, List.length, List.map_cons, List.map_nil, List.append_nil, List.cons_append, List.nil_append, Nat.reduceAdd, Nat.zero_add, List.length_cons, List.length_nil]
  repeat' (first
    | (refine AC_seq ?_)
    | (refine AC_region_lit ?_)
    | ((first | refine AL_go rfl (fun K hK => ?_) | refine AL_go0 (fun K hK => ?_))
       (first | refine R_callG (f := 18) [0,1] 2 false ?_)
       simp (dsimp := false) (disch := first | exact vD | fail) only [push_cast, List.reduceReplicate, Nat.reduceAdd, Nat.reduceMul, Nat.reduceSub, Nat.reduceEqDiff, Nat.reduceLT, Nat.reduceLeDiff, Nat.reduceBEq, Int.reduceToNat, Int.reduceEq, Int.reduceLT, Int.reduceLE, Int.reduceAdd, Int.reduceSub, Int.reduceMul, ↓reduceIte, reduceCtorEq, n0, oC, hk]
       (repeat (refine aI ?_)); intro G hG; refine hG _ _ ?_; clear hG G
       (first | refine ⟨_, _, take_none0, ?_⟩)
       simp (dsimp := false) (disch := first | exact vD | fail) only [push_cast, List.reduceReplicate, Nat.reduceAdd, Nat.reduceMul, Nat.reduceSub, Nat.reduceEqDiff, Nat.reduceLT, Nat.reduceLeDiff, Nat.reduceBEq, Int.reduceToNat, Int.reduceEq, Int.reduceLT, Int.reduceLE, Int.reduceAdd, Int.reduceSub, Int.reduceMul, ↓reduceIte, reduceCtorEq, n0, oC, hk]
       (repeat (refine aI ?_)); (first | refine hK _ _ _ ?_ | refine hK _ _ ?_); clear hK K)
    | ((first | refine AL_go rfl (fun K hK => ?_) | refine AL_go0 (fun K hK => ?_))
       (first | refine R_move _ ?_ | refine R_assign _ ?_ | refine Q_load _ _ ?_ | refine Q_loadAgg _ _ ?_ | refine Q_fieldAddr _ _ _ ?_ | refine Q_extract _ _ ?_ | refine Q_box _ _ ?_ | refine R_alloc _ ?_ | refine Q_store _ _ _ ?_ | refine Q_build _ _ ?_ | refine Q_buildArr _ _ ?_ | refine Q_convert _ _ _ ?_ | refine Q_eqAgg _ _ _ _ ?_ | refine Q_neqAgg _ _ _ _ ?_ | refine Q_neqSelf _ _ _ _ ?_ | refine Q_bin _ _ _ _ _ ?_)
       simp (dsimp := false) (disch := first | exact vD | fail) only [push_cast, List.reduceReplicate, Nat.reduceAdd, Nat.reduceMul, Nat.reduceSub, Nat.reduceEqDiff, Nat.reduceLT, Nat.reduceLeDiff, Nat.reduceBEq, Int.reduceToNat, Int.reduceEq, Int.reduceLT, Int.reduceLE, Int.reduceAdd, Int.reduceSub, Int.reduceMul, ↓reduceIte, reduceCtorEq, n0, oC, hk]
       (repeat (refine aI ?_)); (first | refine hK _ _ _ ?_ | refine hK _ _ ?_); clear hK K)
    | ((first | refine AL_guard rfl rfl (fun K1 K2 h1 h2 => ?_) rfl | refine AC_cond_k (fun K1 K2 h1 h2 => ?_))
       simp (dsimp := false) (disch := first | exact vD | fail) only [push_cast, List.reduceReplicate, Nat.reduceAdd, Nat.reduceMul, Nat.reduceSub, Nat.reduceEqDiff, Nat.reduceLT, Nat.reduceLeDiff, Nat.reduceBEq, Int.reduceToNat, Int.reduceEq, Int.reduceLT, Int.reduceLE, Int.reduceAdd, Int.reduceSub, Int.reduceMul, ↓reduceIte, reduceCtorEq, n0, oC, hk]
       first | (refine ⟨fun hc => ?_, fun hc => ?_⟩ <;> first | (exfalso; omega) | (exfalso; contradiction) | refine h1 ?_ | refine h2 ?_) | refine h1 ?_ | refine h2 ?_
       all_goals clear h1 h2 K1 K2)
    | (refine AL_nil ?_) | (refine Thn_normal ?_) | (refine Thn_ret ?_) | (refine Thn_exit ?_) | (refine Blk_normal ?_) | (refine Blk_ret ?_) | (refine Blk_here ?_) | (refine Blk_other rfl ?_) | (refine AC_block ?_) | (refine AC_exit ?_) | (refine AC_skip ?_) | (refine AC_ret ?_))
  all_goals (refine Ends.mk2 (by first | exact .inr rfl | exact .inl rfl) [0,1] ?_; simp (dsimp := false) (disch := first | exact vD | fail) only [push_cast, List.reduceReplicate, Nat.reduceAdd, Nat.reduceMul, Nat.reduceSub, Nat.reduceEqDiff, Nat.reduceLT, Nat.reduceLeDiff, Nat.reduceBEq, Int.reduceToNat, Int.reduceEq, Int.reduceLT, Int.reduceLE, Int.reduceAdd, Int.reduceSub, Int.reduceMul, ↓reduceIte, reduceCtorEq, Try.f22, n0, pz]; (repeat (refine aI ?_)); try (first | exact vI | fail))
theorem pe_nextr (ho : okO o) (hk : o.kind % 7 = 2) (hx : pty n o.to = false) : ACall Try.prog 22 [.pt 0 0, .agg (oC o)] (n0 n s.next s.f) 2 (.tup [.agg (pC zPk), .val (.int .i64 7)]) (n0 n s.next s.f) := by
  have ho' := ho
  obtain ⟨o1, o2, o3, o4, o5, o6⟩ := ho'
  skip
  refine ACall.enter Try.func22 rfl (by simp [Try.ntmps22, n0, oC]) (by simp [n0, oC]) ?_
  simp only [entry, idx, n0, oC, Try.ntmps22, List.length, List.map_cons, List.map_nil, List.append_nil, List.cons_append, List.nil_append, Nat.reduceAdd, Nat.zero_add, List.length_cons, List.length_nil]
  repeat' (first
    | (refine AC_seq ?_)
    | (refine AC_region_lit ?_)
    | ((first | refine AL_go rfl (fun K hK => ?_) | refine AL_go0 (fun K hK => ?_))
       (first | refine R_callG (f := 13) [0,1] 2 false ?_)
       simp (dsimp := false) (disch := first | exact vD | fail) only [push_cast, List.reduceReplicate, Nat.reduceAdd, Nat.reduceMul, Nat.reduceSub, Nat.reduceEqDiff, Nat.reduceLT, Nat.reduceLeDiff, Nat.reduceBEq, Int.reduceToNat, Int.reduceEq, Int.reduceLT, Int.reduceLE, Int.reduceAdd, Int.reduceSub, Int.reduceMul, ↓reduceIte, reduceCtorEq, n0, oC, hk]
       (repeat (refine aI ?_)); intro G hG; refine hG _ _ ?_; clear hG G
       (first | refine ⟨_, _, next_range0 hx, ?_⟩)
       simp (dsimp := false) (disch := first | exact vD | fail) only [push_cast, List.reduceReplicate, Nat.reduceAdd, Nat.reduceMul, Nat.reduceSub, Nat.reduceEqDiff, Nat.reduceLT, Nat.reduceLeDiff, Nat.reduceBEq, Int.reduceToNat, Int.reduceEq, Int.reduceLT, Int.reduceLE, Int.reduceAdd, Int.reduceSub, Int.reduceMul, ↓reduceIte, reduceCtorEq, n0, oC, hk]
       (repeat (refine aI ?_)); (first | refine hK _ _ _ ?_ | refine hK _ _ ?_); clear hK K)
    | ((first | refine AL_go rfl (fun K hK => ?_) | refine AL_go0 (fun K hK => ?_))
       (first | refine R_move _ ?_ | refine R_assign _ ?_ | refine Q_load _ _ ?_ | refine Q_loadAgg _ _ ?_ | refine Q_fieldAddr _ _ _ ?_ | refine Q_extract _ _ ?_ | refine Q_box _ _ ?_ | refine R_alloc _ ?_ | refine Q_store _ _ _ ?_ | refine Q_build _ _ ?_ | refine Q_buildArr _ _ ?_ | refine Q_convert _ _ _ ?_ | refine Q_eqAgg _ _ _ _ ?_ | refine Q_neqAgg _ _ _ _ ?_ | refine Q_neqSelf _ _ _ _ ?_ | refine Q_bin _ _ _ _ _ ?_)
       simp (dsimp := false) (disch := first | exact vD | fail) only [push_cast, List.reduceReplicate, Nat.reduceAdd, Nat.reduceMul, Nat.reduceSub, Nat.reduceEqDiff, Nat.reduceLT, Nat.reduceLeDiff, Nat.reduceBEq, Int.reduceToNat, Int.reduceEq, Int.reduceLT, Int.reduceLE, Int.reduceAdd, Int.reduceSub, Int.reduceMul, ↓reduceIte, reduceCtorEq, n0, oC, hk]
       (repeat (refine aI ?_)); (first | refine hK _ _ _ ?_ | refine hK _ _ ?_); clear hK K)
    | ((first | refine AL_guard rfl rfl (fun K1 K2 h1 h2 => ?_) rfl | refine AC_cond_k (fun K1 K2 h1 h2 => ?_))
       simp (dsimp := false) (disch := first | exact vD | fail) only [push_cast, List.reduceReplicate, Nat.reduceAdd, Nat.reduceMul, Nat.reduceSub, Nat.reduceEqDiff, Nat.reduceLT, Nat.reduceLeDiff, Nat.reduceBEq, Int.reduceToNat, Int.reduceEq, Int.reduceLT, Int.reduceLE, Int.reduceAdd, Int.reduceSub, Int.reduceMul, ↓reduceIte, reduceCtorEq, n0, oC, hk]
       first | (refine ⟨fun hc => ?_, fun hc => ?_⟩ <;> first | (exfalso; omega) | (exfalso; contradiction) | refine h1 ?_ | refine h2 ?_) | refine h1 ?_ | refine h2 ?_
       all_goals clear h1 h2 K1 K2)
    | (refine AL_nil ?_) | (refine Thn_normal ?_) | (refine Thn_ret ?_) | (refine Thn_exit ?_) | (refine Blk_normal ?_) | (refine Blk_ret ?_) | (refine Blk_here ?_) | (refine Blk_other rfl ?_) | (refine AC_block ?_) | (refine AC_exit ?_) | (refine AC_skip ?_) | (refine AC_ret ?_))
  all_goals (refine Ends.mk2 (by first | exact .inr rfl | exact .inl rfl) [0,1] ?_; simp (dsimp := false) (disch := first | exact vD | fail) only [push_cast, List.reduceReplicate, Nat.reduceAdd, Nat.reduceMul, Nat.reduceSub, Nat.reduceEqDiff, Nat.reduceLT, Nat.reduceLeDiff, Nat.reduceBEq, Int.reduceToNat, Int.reduceEq, Int.reduceLT, Int.reduceLE, Int.reduceAdd, Int.reduceSub, Int.reduceMul, ↓reduceIte, reduceCtorEq, Try.f22, n0, pz]; (repeat (refine aI ?_)); try (first | exact vI | fail))
theorem pe_next (ho : okO o) (hk : o.kind % 7 = 2) (hx : pty n o.to = true) : ACall Try.prog 22 [.pt 0 0, .agg (oC o)] (n0 n s.next s.f) 2 (.tup [.agg (pC zPk), .val (.int .i64 9)]) (n0 n s.next s.f) := by
  have ho' := ho
  obtain ⟨o1, o2, o3, o4, o5, o6⟩ := ho'
  skip
  refine ACall.enter Try.func22 rfl (by simp [Try.ntmps22, n0, oC]) (by simp [n0, oC]) ?_
  simp only [entry, idx, n0, oC, Try.ntmps22, List.length, List.map_cons, List.map_nil, List.append_nil, List.cons_append, List.nil_append, Nat.reduceAdd, Nat.zero_add, List.length_cons, List.length_nil]
  repeat' (first
    | (refine AC_seq ?_)
    | (refine AC_region_lit ?_)
    | ((first | refine AL_go rfl (fun K hK => ?_) | refine AL_go0 (fun K hK => ?_))
       (first | refine R_callG (f := 13) [0,1] 2 false ?_)
       simp (dsimp := false) (disch := first | exact vD | fail) only [push_cast, List.reduceReplicate, Nat.reduceAdd, Nat.reduceMul, Nat.reduceSub, Nat.reduceEqDiff, Nat.reduceLT, Nat.reduceLeDiff, Nat.reduceBEq, Int.reduceToNat, Int.reduceEq, Int.reduceLT, Int.reduceLE, Int.reduceAdd, Int.reduceSub, Int.reduceMul, ↓reduceIte, reduceCtorEq, n0, oC, hk]
       (repeat (refine aI ?_)); intro G hG; refine hG _ _ ?_; clear hG G
       (first | refine ⟨_, _, next_none0 hx, ?_⟩)
       simp (dsimp := false) (disch := first | exact vD | fail) only [push_cast, List.reduceReplicate, Nat.reduceAdd, Nat.reduceMul, Nat.reduceSub, Nat.reduceEqDiff, Nat.reduceLT, Nat.reduceLeDiff, Nat.reduceBEq, Int.reduceToNat, Int.reduceEq, Int.reduceLT, Int.reduceLE, Int.reduceAdd, Int.reduceSub, Int.reduceMul, ↓reduceIte, reduceCtorEq, n0, oC, hk]
       (repeat (refine aI ?_)); (first | refine hK _ _ _ ?_ | refine hK _ _ ?_); clear hK K)
    | ((first | refine AL_go rfl (fun K hK => ?_) | refine AL_go0 (fun K hK => ?_))
       (first | refine R_move _ ?_ | refine R_assign _ ?_ | refine Q_load _ _ ?_ | refine Q_loadAgg _ _ ?_ | refine Q_fieldAddr _ _ _ ?_ | refine Q_extract _ _ ?_ | refine Q_box _ _ ?_ | refine R_alloc _ ?_ | refine Q_store _ _ _ ?_ | refine Q_build _ _ ?_ | refine Q_buildArr _ _ ?_ | refine Q_convert _ _ _ ?_ | refine Q_eqAgg _ _ _ _ ?_ | refine Q_neqAgg _ _ _ _ ?_ | refine Q_neqSelf _ _ _ _ ?_ | refine Q_bin _ _ _ _ _ ?_)
       simp (dsimp := false) (disch := first | exact vD | fail) only [push_cast, List.reduceReplicate, Nat.reduceAdd, Nat.reduceMul, Nat.reduceSub, Nat.reduceEqDiff, Nat.reduceLT, Nat.reduceLeDiff, Nat.reduceBEq, Int.reduceToNat, Int.reduceEq, Int.reduceLT, Int.reduceLE, Int.reduceAdd, Int.reduceSub, Int.reduceMul, ↓reduceIte, reduceCtorEq, n0, oC, hk]
       (repeat (refine aI ?_)); (first | refine hK _ _ _ ?_ | refine hK _ _ ?_); clear hK K)
    | ((first | refine AL_guard rfl rfl (fun K1 K2 h1 h2 => ?_) rfl | refine AC_cond_k (fun K1 K2 h1 h2 => ?_))
       simp (dsimp := false) (disch := first | exact vD | fail) only [push_cast, List.reduceReplicate, Nat.reduceAdd, Nat.reduceMul, Nat.reduceSub, Nat.reduceEqDiff, Nat.reduceLT, Nat.reduceLeDiff, Nat.reduceBEq, Int.reduceToNat, Int.reduceEq, Int.reduceLT, Int.reduceLE, Int.reduceAdd, Int.reduceSub, Int.reduceMul, ↓reduceIte, reduceCtorEq, n0, oC, hk]
       first | (refine ⟨fun hc => ?_, fun hc => ?_⟩ <;> first | (exfalso; omega) | (exfalso; contradiction) | refine h1 ?_ | refine h2 ?_) | refine h1 ?_ | refine h2 ?_
       all_goals clear h1 h2 K1 K2)
    | (refine AL_nil ?_) | (refine Thn_normal ?_) | (refine Thn_ret ?_) | (refine Thn_exit ?_) | (refine Blk_normal ?_) | (refine Blk_ret ?_) | (refine Blk_here ?_) | (refine Blk_other rfl ?_) | (refine AC_block ?_) | (refine AC_exit ?_) | (refine AC_skip ?_) | (refine AC_ret ?_))
  all_goals (refine Ends.mk2 (by first | exact .inr rfl | exact .inl rfl) [0,1] ?_; simp (dsimp := false) (disch := first | exact vD | fail) only [push_cast, List.reduceReplicate, Nat.reduceAdd, Nat.reduceMul, Nat.reduceSub, Nat.reduceEqDiff, Nat.reduceLT, Nat.reduceLeDiff, Nat.reduceBEq, Int.reduceToNat, Int.reduceEq, Int.reduceLT, Int.reduceLE, Int.reduceAdd, Int.reduceSub, Int.reduceMul, ↓reduceIte, reduceCtorEq, Try.f22, n0, pz]; (repeat (refine aI ?_)); try (first | exact vI | fail))
theorem pe_drop (ho : okO o) (hk : o.kind % 7 = 3)  : ACall Try.prog 22 [.pt 0 0, .agg (oC o)] (n0 n s.next s.f) 2 (.tup [.agg (pC zPk), .val (.int .i64 4)]) (n0 n s.next s.f) := by
  have ho' := ho
  obtain ⟨o1, o2, o3, o4, o5, o6⟩ := ho'
  skip
  refine ACall.enter Try.func22 rfl (by simp [Try.ntmps22, n0, oC]) (by simp [n0, oC]) ?_
  simp only [entry, idx, n0, oC, Try.ntmps22, List.length, List.map_cons, List.map_nil, List.append_nil, List.cons_append, List.nil_append, Nat.reduceAdd, Nat.zero_add, List.length_cons, List.length_nil]
  repeat' (first
    | (refine AC_seq ?_)
    | (refine AC_region_lit ?_)
    | ((first | refine AL_go rfl (fun K hK => ?_) | refine AL_go0 (fun K hK => ?_))
       (first | refine R_callG (f := 35) [0,1] 2 false ?_)
       simp (dsimp := false) (disch := first | exact vD | fail) only [push_cast, List.reduceReplicate, Nat.reduceAdd, Nat.reduceMul, Nat.reduceSub, Nat.reduceEqDiff, Nat.reduceLT, Nat.reduceLeDiff, Nat.reduceBEq, Int.reduceToNat, Int.reduceEq, Int.reduceLT, Int.reduceLE, Int.reduceAdd, Int.reduceSub, Int.reduceMul, ↓reduceIte, reduceCtorEq, n0, oC, hk]
       (repeat (refine aI ?_)); intro G hG; refine hG _ _ ?_; clear hG G
       (first | refine ⟨_, _, drop_none0, ?_⟩)
       simp (dsimp := false) (disch := first | exact vD | fail) only [push_cast, List.reduceReplicate, Nat.reduceAdd, Nat.reduceMul, Nat.reduceSub, Nat.reduceEqDiff, Nat.reduceLT, Nat.reduceLeDiff, Nat.reduceBEq, Int.reduceToNat, Int.reduceEq, Int.reduceLT, Int.reduceLE, Int.reduceAdd, Int.reduceSub, Int.reduceMul, ↓reduceIte, reduceCtorEq, n0, oC, hk]
       (repeat (refine aI ?_)); (first | refine hK _ _ _ ?_ | refine hK _ _ ?_); clear hK K)
    | ((first | refine AL_go rfl (fun K hK => ?_) | refine AL_go0 (fun K hK => ?_))
       (first | refine R_move _ ?_ | refine R_assign _ ?_ | refine Q_load _ _ ?_ | refine Q_loadAgg _ _ ?_ | refine Q_fieldAddr _ _ _ ?_ | refine Q_extract _ _ ?_ | refine Q_box _ _ ?_ | refine R_alloc _ ?_ | refine Q_store _ _ _ ?_ | refine Q_build _ _ ?_ | refine Q_buildArr _ _ ?_ | refine Q_convert _ _ _ ?_ | refine Q_eqAgg _ _ _ _ ?_ | refine Q_neqAgg _ _ _ _ ?_ | refine Q_neqSelf _ _ _ _ ?_ | refine Q_bin _ _ _ _ _ ?_)
       simp (dsimp := false) (disch := first | exact vD | fail) only [push_cast, List.reduceReplicate, Nat.reduceAdd, Nat.reduceMul, Nat.reduceSub, Nat.reduceEqDiff, Nat.reduceLT, Nat.reduceLeDiff, Nat.reduceBEq, Int.reduceToNat, Int.reduceEq, Int.reduceLT, Int.reduceLE, Int.reduceAdd, Int.reduceSub, Int.reduceMul, ↓reduceIte, reduceCtorEq, n0, oC, hk]
       (repeat (refine aI ?_)); (first | refine hK _ _ _ ?_ | refine hK _ _ ?_); clear hK K)
    | ((first | refine AL_guard rfl rfl (fun K1 K2 h1 h2 => ?_) rfl | refine AC_cond_k (fun K1 K2 h1 h2 => ?_))
       simp (dsimp := false) (disch := first | exact vD | fail) only [push_cast, List.reduceReplicate, Nat.reduceAdd, Nat.reduceMul, Nat.reduceSub, Nat.reduceEqDiff, Nat.reduceLT, Nat.reduceLeDiff, Nat.reduceBEq, Int.reduceToNat, Int.reduceEq, Int.reduceLT, Int.reduceLE, Int.reduceAdd, Int.reduceSub, Int.reduceMul, ↓reduceIte, reduceCtorEq, n0, oC, hk]
       first | (refine ⟨fun hc => ?_, fun hc => ?_⟩ <;> first | (exfalso; omega) | (exfalso; contradiction) | refine h1 ?_ | refine h2 ?_) | refine h1 ?_ | refine h2 ?_
       all_goals clear h1 h2 K1 K2)
    | (refine AL_nil ?_) | (refine Thn_normal ?_) | (refine Thn_ret ?_) | (refine Thn_exit ?_) | (refine Blk_normal ?_) | (refine Blk_ret ?_) | (refine Blk_here ?_) | (refine Blk_other rfl ?_) | (refine AC_block ?_) | (refine AC_exit ?_) | (refine AC_skip ?_) | (refine AC_ret ?_))
  all_goals (refine Ends.mk2 (by first | exact .inr rfl | exact .inl rfl) [0,1] ?_; simp (dsimp := false) (disch := first | exact vD | fail) only [push_cast, List.reduceReplicate, Nat.reduceAdd, Nat.reduceMul, Nat.reduceSub, Nat.reduceEqDiff, Nat.reduceLT, Nat.reduceLeDiff, Nat.reduceBEq, Int.reduceToNat, Int.reduceEq, Int.reduceLT, Int.reduceLE, Int.reduceAdd, Int.reduceSub, Int.reduceMul, ↓reduceIte, reduceCtorEq, Try.f22, n0, pz]; (repeat (refine aI ?_)); try (first | exact vI | fail))
theorem pe_rep (ho : okO o) (hk : o.kind % 7 = 4)  : ACall Try.prog 22 [.pt 0 0, .agg (oC o)] (n0 n s.next s.f) 2 (.tup [.agg (pC zPk), .val (.int .i64 4)]) (n0 n s.next s.f) := by
  have ho' := ho
  obtain ⟨o1, o2, o3, o4, o5, o6⟩ := ho'
  skip
  refine ACall.enter Try.func22 rfl (by simp [Try.ntmps22, n0, oC]) (by simp [n0, oC]) ?_
  simp only [entry, idx, n0, oC, Try.ntmps22, List.length, List.map_cons, List.map_nil, List.append_nil, List.cons_append, List.nil_append, Nat.reduceAdd, Nat.zero_add, List.length_cons, List.length_nil]
  repeat' (first
    | (refine AC_seq ?_)
    | (refine AC_region_lit ?_)
    | ((first | refine AL_go rfl (fun K hK => ?_) | refine AL_go0 (fun K hK => ?_))
       (first | refine R_callG (f := 19) [0,1] 2 false ?_)
       simp (dsimp := false) (disch := first | exact vD | fail) only [push_cast, List.reduceReplicate, Nat.reduceAdd, Nat.reduceMul, Nat.reduceSub, Nat.reduceEqDiff, Nat.reduceLT, Nat.reduceLeDiff, Nat.reduceBEq, Int.reduceToNat, Int.reduceEq, Int.reduceLT, Int.reduceLE, Int.reduceAdd, Int.reduceSub, Int.reduceMul, ↓reduceIte, reduceCtorEq, n0, oC, hk]
       (repeat (refine aI ?_)); intro G hG; refine hG _ _ ?_; clear hG G
       (first | refine ⟨_, _, rep_none0, ?_⟩)
       simp (dsimp := false) (disch := first | exact vD | fail) only [push_cast, List.reduceReplicate, Nat.reduceAdd, Nat.reduceMul, Nat.reduceSub, Nat.reduceEqDiff, Nat.reduceLT, Nat.reduceLeDiff, Nat.reduceBEq, Int.reduceToNat, Int.reduceEq, Int.reduceLT, Int.reduceLE, Int.reduceAdd, Int.reduceSub, Int.reduceMul, ↓reduceIte, reduceCtorEq, n0, oC, hk]
       (repeat (refine aI ?_)); (first | refine hK _ _ _ ?_ | refine hK _ _ ?_); clear hK K)
    | ((first | refine AL_go rfl (fun K hK => ?_) | refine AL_go0 (fun K hK => ?_))
       (first | refine R_move _ ?_ | refine R_assign _ ?_ | refine Q_load _ _ ?_ | refine Q_loadAgg _ _ ?_ | refine Q_fieldAddr _ _ _ ?_ | refine Q_extract _ _ ?_ | refine Q_box _ _ ?_ | refine R_alloc _ ?_ | refine Q_store _ _ _ ?_ | refine Q_build _ _ ?_ | refine Q_buildArr _ _ ?_ | refine Q_convert _ _ _ ?_ | refine Q_eqAgg _ _ _ _ ?_ | refine Q_neqAgg _ _ _ _ ?_ | refine Q_neqSelf _ _ _ _ ?_ | refine Q_bin _ _ _ _ _ ?_)
       simp (dsimp := false) (disch := first | exact vD | fail) only [push_cast, List.reduceReplicate, Nat.reduceAdd, Nat.reduceMul, Nat.reduceSub, Nat.reduceEqDiff, Nat.reduceLT, Nat.reduceLeDiff, Nat.reduceBEq, Int.reduceToNat, Int.reduceEq, Int.reduceLT, Int.reduceLE, Int.reduceAdd, Int.reduceSub, Int.reduceMul, ↓reduceIte, reduceCtorEq, n0, oC, hk]
       (repeat (refine aI ?_)); (first | refine hK _ _ _ ?_ | refine hK _ _ ?_); clear hK K)
    | ((first | refine AL_guard rfl rfl (fun K1 K2 h1 h2 => ?_) rfl | refine AC_cond_k (fun K1 K2 h1 h2 => ?_))
       simp (dsimp := false) (disch := first | exact vD | fail) only [push_cast, List.reduceReplicate, Nat.reduceAdd, Nat.reduceMul, Nat.reduceSub, Nat.reduceEqDiff, Nat.reduceLT, Nat.reduceLeDiff, Nat.reduceBEq, Int.reduceToNat, Int.reduceEq, Int.reduceLT, Int.reduceLE, Int.reduceAdd, Int.reduceSub, Int.reduceMul, ↓reduceIte, reduceCtorEq, n0, oC, hk]
       first | (refine ⟨fun hc => ?_, fun hc => ?_⟩ <;> first | (exfalso; omega) | (exfalso; contradiction) | refine h1 ?_ | refine h2 ?_) | refine h1 ?_ | refine h2 ?_
       all_goals clear h1 h2 K1 K2)
    | (refine AL_nil ?_) | (refine Thn_normal ?_) | (refine Thn_ret ?_) | (refine Thn_exit ?_) | (refine Blk_normal ?_) | (refine Blk_ret ?_) | (refine Blk_here ?_) | (refine Blk_other rfl ?_) | (refine AC_block ?_) | (refine AC_exit ?_) | (refine AC_skip ?_) | (refine AC_ret ?_))
  all_goals (refine Ends.mk2 (by first | exact .inr rfl | exact .inl rfl) [0,1] ?_; simp (dsimp := false) (disch := first | exact vD | fail) only [push_cast, List.reduceReplicate, Nat.reduceAdd, Nat.reduceMul, Nat.reduceSub, Nat.reduceEqDiff, Nat.reduceLT, Nat.reduceLeDiff, Nat.reduceBEq, Int.reduceToNat, Int.reduceEq, Int.reduceLT, Int.reduceLE, Int.reduceAdd, Int.reduceSub, Int.reduceMul, ↓reduceIte, reduceCtorEq, Try.f22, n0, pz]; (repeat (refine aI ?_)); try (first | exact vI | fail))
theorem pe_blockr (ho : okO o) (hk : ¬ o.kind % 7 = 0 ∧ ¬ o.kind % 7 = 1 ∧ ¬ o.kind % 7 = 2 ∧ ¬ o.kind % 7 = 3 ∧ ¬ o.kind % 7 = 4) (hx : ¬ fitB n o.a o.b 16) : ACall Try.prog 22 [.pt 0 0, .agg (oC o)] (n0 n s.next s.f) 2 (.tup [.agg (pC zPk), .val (.int .i64 7)]) (n0 n s.next s.f) := by
  have ho' := ho
  obtain ⟨o1, o2, o3, o4, o5, o6⟩ := ho'
  obtain ⟨k0, k1, k2, k3, k4⟩ := hk
  refine ACall.enter Try.func22 rfl (by simp [Try.ntmps22, n0, oC]) (by simp [n0, oC]) ?_
  simp only [entry, idx, n0, oC, Try.ntmps22, List.length, List.map_cons, List.map_nil, List.append_nil, List.cons_append, List.nil_append, Nat.reduceAdd, Nat.zero_add, List.length_cons, List.length_nil]
  repeat' (first
    | (refine AC_seq ?_)
    | (refine AC_region_lit ?_)
    | ((first | refine AL_go rfl (fun K hK => ?_) | refine AL_go0 (fun K hK => ?_))
       (first | refine R_callG (f := 17) [0,1] 2 false ?_)
       simp (dsimp := false) (disch := first | exact vD | fail) only [push_cast, List.reduceReplicate, Nat.reduceAdd, Nat.reduceMul, Nat.reduceSub, Nat.reduceEqDiff, Nat.reduceLT, Nat.reduceLeDiff, Nat.reduceBEq, Int.reduceToNat, Int.reduceEq, Int.reduceLT, Int.reduceLE, Int.reduceAdd, Int.reduceSub, Int.reduceMul, ↓reduceIte, reduceCtorEq, n0, oC, k0, k1, k2, k3, k4]
       (repeat (refine aI ?_)); intro G hG; refine hG _ _ ?_; clear hG G
       (first | refine ⟨_, _, block_range0 (c := decide (o.kind % 7 = 5)) hx, ?_⟩)
       simp (dsimp := false) (disch := first | exact vD | fail) only [push_cast, List.reduceReplicate, Nat.reduceAdd, Nat.reduceMul, Nat.reduceSub, Nat.reduceEqDiff, Nat.reduceLT, Nat.reduceLeDiff, Nat.reduceBEq, Int.reduceToNat, Int.reduceEq, Int.reduceLT, Int.reduceLE, Int.reduceAdd, Int.reduceSub, Int.reduceMul, ↓reduceIte, reduceCtorEq, n0, oC, k0, k1, k2, k3, k4]
       (repeat (refine aI ?_)); (first | refine hK _ _ _ ?_ | refine hK _ _ ?_); clear hK K)
    | ((first | refine AL_go rfl (fun K hK => ?_) | refine AL_go0 (fun K hK => ?_))
       (first | refine R_move _ ?_ | refine R_assign _ ?_ | refine Q_load _ _ ?_ | refine Q_loadAgg _ _ ?_ | refine Q_fieldAddr _ _ _ ?_ | refine Q_extract _ _ ?_ | refine Q_box _ _ ?_ | refine R_alloc _ ?_ | refine Q_store _ _ _ ?_ | refine Q_build _ _ ?_ | refine Q_buildArr _ _ ?_ | refine Q_convert _ _ _ ?_ | refine Q_eqAgg _ _ _ _ ?_ | refine Q_neqAgg _ _ _ _ ?_ | refine Q_neqSelf _ _ _ _ ?_ | refine Q_bin _ _ _ _ _ ?_)
       simp (dsimp := false) (disch := first | exact vD | fail) only [push_cast, List.reduceReplicate, Nat.reduceAdd, Nat.reduceMul, Nat.reduceSub, Nat.reduceEqDiff, Nat.reduceLT, Nat.reduceLeDiff, Nat.reduceBEq, Int.reduceToNat, Int.reduceEq, Int.reduceLT, Int.reduceLE, Int.reduceAdd, Int.reduceSub, Int.reduceMul, ↓reduceIte, reduceCtorEq, n0, oC, k0, k1, k2, k3, k4]
       (repeat (refine aI ?_)); (first | refine hK _ _ _ ?_ | refine hK _ _ ?_); clear hK K)
    | ((first | refine AL_guard rfl rfl (fun K1 K2 h1 h2 => ?_) rfl | refine AC_cond_k (fun K1 K2 h1 h2 => ?_))
       simp (dsimp := false) (disch := first | exact vD | fail) only [push_cast, List.reduceReplicate, Nat.reduceAdd, Nat.reduceMul, Nat.reduceSub, Nat.reduceEqDiff, Nat.reduceLT, Nat.reduceLeDiff, Nat.reduceBEq, Int.reduceToNat, Int.reduceEq, Int.reduceLT, Int.reduceLE, Int.reduceAdd, Int.reduceSub, Int.reduceMul, ↓reduceIte, reduceCtorEq, n0, oC, k0, k1, k2, k3, k4]
       first | (refine ⟨fun hc => ?_, fun hc => ?_⟩ <;> first | (exfalso; omega) | (exfalso; contradiction) | refine h1 ?_ | refine h2 ?_) | refine h1 ?_ | refine h2 ?_
       all_goals clear h1 h2 K1 K2)
    | (refine AL_nil ?_) | (refine Thn_normal ?_) | (refine Thn_ret ?_) | (refine Thn_exit ?_) | (refine Blk_normal ?_) | (refine Blk_ret ?_) | (refine Blk_here ?_) | (refine Blk_other rfl ?_) | (refine AC_block ?_) | (refine AC_exit ?_) | (refine AC_skip ?_) | (refine AC_ret ?_))
  all_goals (refine Ends.mk2 (by first | exact .inr rfl | exact .inl rfl) [0,1] ?_; simp (dsimp := false) (disch := first | exact vD | fail) only [push_cast, List.reduceReplicate, Nat.reduceAdd, Nat.reduceMul, Nat.reduceSub, Nat.reduceEqDiff, Nat.reduceLT, Nat.reduceLeDiff, Nat.reduceBEq, Int.reduceToNat, Int.reduceEq, Int.reduceLT, Int.reduceLE, Int.reduceAdd, Int.reduceSub, Int.reduceMul, ↓reduceIte, reduceCtorEq, Try.f22, n0, pz]; (repeat (refine aI ?_)); try (first | exact vI | fail))
theorem pe_block (ho : okO o) (hk : ¬ o.kind % 7 = 0 ∧ ¬ o.kind % 7 = 1 ∧ ¬ o.kind % 7 = 2 ∧ ¬ o.kind % 7 = 3 ∧ ¬ o.kind % 7 = 4) (hx : fitB n o.a o.b 16) : ACall Try.prog 22 [.pt 0 0, .agg (oC o)] (n0 n s.next s.f) 2 (.tup [.agg (pC zPk), .val (.int .i64 0)]) (n0 n s.next (gridF o.a o.b (decide (o.kind % 7 = 5)) s.f 16)) := by
  have ho' := ho
  obtain ⟨o1, o2, o3, o4, o5, o6⟩ := ho'
  obtain ⟨k0, k1, k2, k3, k4⟩ := hk
  refine ACall.enter Try.func22 rfl (by simp [Try.ntmps22, n0, oC]) (by simp [n0, oC]) ?_
  simp only [entry, idx, n0, oC, Try.ntmps22, List.length, List.map_cons, List.map_nil, List.append_nil, List.cons_append, List.nil_append, Nat.reduceAdd, Nat.zero_add, List.length_cons, List.length_nil]
  repeat' (first
    | (refine AC_seq ?_)
    | (refine AC_region_lit ?_)
    | ((first | refine AL_go rfl (fun K hK => ?_) | refine AL_go0 (fun K hK => ?_))
       (first | refine R_callG (f := 17) [0,1] 2 false ?_)
       simp (dsimp := false) (disch := first | exact vD | fail) only [push_cast, List.reduceReplicate, Nat.reduceAdd, Nat.reduceMul, Nat.reduceSub, Nat.reduceEqDiff, Nat.reduceLT, Nat.reduceLeDiff, Nat.reduceBEq, Int.reduceToNat, Int.reduceEq, Int.reduceLT, Int.reduceLE, Int.reduceAdd, Int.reduceSub, Int.reduceMul, ↓reduceIte, reduceCtorEq, n0, oC, k0, k1, k2, k3, k4]
       (repeat (refine aI ?_)); intro G hG; refine hG _ _ ?_; clear hG G
       (first | refine ⟨_, _, block_ok0 (c := decide (o.kind % 7 = 5)) hx, ?_⟩)
       simp (dsimp := false) (disch := first | exact vD | fail) only [push_cast, List.reduceReplicate, Nat.reduceAdd, Nat.reduceMul, Nat.reduceSub, Nat.reduceEqDiff, Nat.reduceLT, Nat.reduceLeDiff, Nat.reduceBEq, Int.reduceToNat, Int.reduceEq, Int.reduceLT, Int.reduceLE, Int.reduceAdd, Int.reduceSub, Int.reduceMul, ↓reduceIte, reduceCtorEq, n0, oC, k0, k1, k2, k3, k4]
       (repeat (refine aI ?_)); (first | refine hK _ _ _ ?_ | refine hK _ _ ?_); clear hK K)
    | ((first | refine AL_go rfl (fun K hK => ?_) | refine AL_go0 (fun K hK => ?_))
       (first | refine R_move _ ?_ | refine R_assign _ ?_ | refine Q_load _ _ ?_ | refine Q_loadAgg _ _ ?_ | refine Q_fieldAddr _ _ _ ?_ | refine Q_extract _ _ ?_ | refine Q_box _ _ ?_ | refine R_alloc _ ?_ | refine Q_store _ _ _ ?_ | refine Q_build _ _ ?_ | refine Q_buildArr _ _ ?_ | refine Q_convert _ _ _ ?_ | refine Q_eqAgg _ _ _ _ ?_ | refine Q_neqAgg _ _ _ _ ?_ | refine Q_neqSelf _ _ _ _ ?_ | refine Q_bin _ _ _ _ _ ?_)
       simp (dsimp := false) (disch := first | exact vD | fail) only [push_cast, List.reduceReplicate, Nat.reduceAdd, Nat.reduceMul, Nat.reduceSub, Nat.reduceEqDiff, Nat.reduceLT, Nat.reduceLeDiff, Nat.reduceBEq, Int.reduceToNat, Int.reduceEq, Int.reduceLT, Int.reduceLE, Int.reduceAdd, Int.reduceSub, Int.reduceMul, ↓reduceIte, reduceCtorEq, n0, oC, k0, k1, k2, k3, k4]
       (repeat (refine aI ?_)); (first | refine hK _ _ _ ?_ | refine hK _ _ ?_); clear hK K)
    | ((first | refine AL_guard rfl rfl (fun K1 K2 h1 h2 => ?_) rfl | refine AC_cond_k (fun K1 K2 h1 h2 => ?_))
       simp (dsimp := false) (disch := first | exact vD | fail) only [push_cast, List.reduceReplicate, Nat.reduceAdd, Nat.reduceMul, Nat.reduceSub, Nat.reduceEqDiff, Nat.reduceLT, Nat.reduceLeDiff, Nat.reduceBEq, Int.reduceToNat, Int.reduceEq, Int.reduceLT, Int.reduceLE, Int.reduceAdd, Int.reduceSub, Int.reduceMul, ↓reduceIte, reduceCtorEq, n0, oC, k0, k1, k2, k3, k4]
       first | (refine ⟨fun hc => ?_, fun hc => ?_⟩ <;> first | (exfalso; omega) | (exfalso; contradiction) | refine h1 ?_ | refine h2 ?_) | refine h1 ?_ | refine h2 ?_
       all_goals clear h1 h2 K1 K2)
    | (refine AL_nil ?_) | (refine Thn_normal ?_) | (refine Thn_ret ?_) | (refine Thn_exit ?_) | (refine Blk_normal ?_) | (refine Blk_ret ?_) | (refine Blk_here ?_) | (refine Blk_other rfl ?_) | (refine AC_block ?_) | (refine AC_exit ?_) | (refine AC_skip ?_) | (refine AC_ret ?_))
  all_goals (refine Ends.mk2 (by first | exact .inr rfl | exact .inl rfl) [0,1] ?_; simp (dsimp := false) (disch := first | exact vD | fail) only [push_cast, List.reduceReplicate, Nat.reduceAdd, Nat.reduceMul, Nat.reduceSub, Nat.reduceEqDiff, Nat.reduceLT, Nat.reduceLeDiff, Nat.reduceBEq, Int.reduceToNat, Int.reduceEq, Int.reduceLT, Int.reduceLE, Int.reduceAdd, Int.reduceSub, Int.reduceMul, ↓reduceIte, reduceCtorEq, Try.f22, n0, pz]; (repeat (refine aI ?_)); try (first | exact vI | fail))
theorem pe_sent (ho : okO o) (hk : o.kind % 7 = 0) (hf : pty n (msgO o).fr = true) (ht : pty n (msgO o).to = true) (h0 : 0 ≤ s.next) (h1 : s.next ≤ 1000000) : ACall Try.prog 22 [.pt 0 0, .agg (oC o)] (n0 n s.next s.f) 2 (.tup [.agg (pC zPk), .val (.int .i64 0)]) (n1x n (s.next + 1) [⟨s.next, (msgO o).fr, (msgO o).to, msgO o⟩] 1 s.f) := by
  have ho' := ho
  obtain ⟨o1, o2, o3, o4, o5, o6⟩ := ho'
  refine ACall.enter Try.func22 rfl (by simp [Try.ntmps22, n0, oC]) (by simp [n0, oC]) ?_
  simp only [entry, idx, n0, oC, Try.ntmps22, List.length, List.map_cons, List.map_nil, List.append_nil, List.cons_append, List.nil_append, Nat.reduceAdd, Nat.zero_add, List.length_cons, List.length_nil]
  repeat' (first
    | (refine AC_seq ?_)
    | (refine AC_region_lit ?_)
    | ((first | refine AL_go rfl (fun K hK => ?_) | refine AL_go0 (fun K hK => ?_))
       (first | refine R_callG (f := 34) [] 0 false ?_ | refine R_callG (f := 12) [0,1] 2 false ?_)
       simp (dsimp := false) (disch := first | exact vD | fail) only [push_cast, List.reduceReplicate, Nat.reduceAdd, Nat.reduceMul, Nat.reduceSub, Nat.reduceEqDiff, Nat.reduceLT, Nat.reduceLeDiff, Nat.reduceBEq, Int.reduceToNat, Int.reduceEq, Int.reduceLT, Int.reduceLE, Int.reduceAdd, Int.reduceSub, Int.reduceMul, ↓reduceIte, reduceCtorEq, n0, n1x, oC, hk]
       (repeat (refine aI ?_)); intro G hG; refine hG _ _ ?_; clear hG G
       (first | refine ⟨_, _, message_ok ho, ?_⟩ | refine ⟨_, _, send_ok0 (m := msgO o) hf ht h0 h1, ?_⟩)
       simp (dsimp := false) (disch := first | exact vD | fail) only [push_cast, List.reduceReplicate, Nat.reduceAdd, Nat.reduceMul, Nat.reduceSub, Nat.reduceEqDiff, Nat.reduceLT, Nat.reduceLeDiff, Nat.reduceBEq, Int.reduceToNat, Int.reduceEq, Int.reduceLT, Int.reduceLE, Int.reduceAdd, Int.reduceSub, Int.reduceMul, ↓reduceIte, reduceCtorEq, n0, n1x, oC, hk]
       (repeat (refine aI ?_)); (first | refine hK _ _ _ ?_ | refine hK _ _ ?_); clear hK K)
    | ((first | refine AL_go rfl (fun K hK => ?_) | refine AL_go0 (fun K hK => ?_))
       (first | refine R_move _ ?_ | refine R_assign _ ?_ | refine Q_load _ _ ?_ | refine Q_loadAgg _ _ ?_ | refine Q_fieldAddr _ _ _ ?_ | refine Q_extract _ _ ?_ | refine Q_box _ _ ?_ | refine R_alloc _ ?_ | refine Q_store _ _ _ ?_ | refine Q_build _ _ ?_ | refine Q_buildArr _ _ ?_ | refine Q_convert _ _ _ ?_ | refine Q_eqAgg _ _ _ _ ?_ | refine Q_neqAgg _ _ _ _ ?_ | refine Q_neqSelf _ _ _ _ ?_ | refine Q_bin _ _ _ _ _ ?_)
       simp (dsimp := false) (disch := first | exact vD | fail) only [push_cast, List.reduceReplicate, Nat.reduceAdd, Nat.reduceMul, Nat.reduceSub, Nat.reduceEqDiff, Nat.reduceLT, Nat.reduceLeDiff, Nat.reduceBEq, Int.reduceToNat, Int.reduceEq, Int.reduceLT, Int.reduceLE, Int.reduceAdd, Int.reduceSub, Int.reduceMul, ↓reduceIte, reduceCtorEq, n0, n1x, oC, hk]
       (repeat (refine aI ?_)); (first | refine hK _ _ _ ?_ | refine hK _ _ ?_); clear hK K)
    | ((first | refine AL_guard rfl rfl (fun K1 K2 h1 h2 => ?_) rfl | refine AC_cond_k (fun K1 K2 h1 h2 => ?_))
       simp (dsimp := false) (disch := first | exact vD | fail) only [push_cast, List.reduceReplicate, Nat.reduceAdd, Nat.reduceMul, Nat.reduceSub, Nat.reduceEqDiff, Nat.reduceLT, Nat.reduceLeDiff, Nat.reduceBEq, Int.reduceToNat, Int.reduceEq, Int.reduceLT, Int.reduceLE, Int.reduceAdd, Int.reduceSub, Int.reduceMul, ↓reduceIte, reduceCtorEq, n0, n1x, oC, hk]
       first | (refine ⟨fun hc => ?_, fun hc => ?_⟩ <;> first | (exfalso; omega) | (exfalso; contradiction) | refine h1 ?_ | refine h2 ?_) | refine h1 ?_ | refine h2 ?_
       all_goals clear h1 h2 K1 K2)
    | (refine AL_nil ?_) | (refine Thn_normal ?_) | (refine Thn_ret ?_) | (refine Thn_exit ?_) | (refine Blk_normal ?_) | (refine Blk_ret ?_) | (refine Blk_here ?_) | (refine Blk_other rfl ?_) | (refine AC_block ?_) | (refine AC_exit ?_) | (refine AC_skip ?_) | (refine AC_ret ?_))
  all_goals (refine Ends.mk2 (by first | exact .inr rfl | exact .inl rfl) [0,1,4] ?_; simp (dsimp := false) (disch := first | exact vD | fail) only [push_cast, List.reduceReplicate, Nat.reduceAdd, Nat.reduceMul, Nat.reduceSub, Nat.reduceEqDiff, Nat.reduceLT, Nat.reduceLeDiff, Nat.reduceBEq, Int.reduceToNat, Int.reduceEq, Int.reduceLT, Int.reduceLE, Int.reduceAdd, Int.reduceSub, Int.reduceMul, ↓reduceIte, reduceCtorEq, Try.f22, n1x, pz]; (repeat (refine aI ?_)); try (first | exact vI | fail))
end Go.Proofs.Ytphpjgfhdoobjaa
