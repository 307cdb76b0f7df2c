/- The network: the law NetworkMessages as a call. No condition. -/
import Derived.Test.YtphpjgfhdoobjaaNet20
set_option linter.unusedVariables false
set_option linter.unusedSectionVars false
set_option linter.unusedSimpArgs false
set_option maxHeartbeats 8000000
set_option maxRecDepth 20000
namespace Go.Proofs.Ytphpjgfhdoobjaa
open Go Go.Sy
attribute [local irreducible] AO AL AC OpT ACall Ends DGo DRun Thn Blk Nxt
variable {n a b v : Int} {i j k len : Nat} {z z2 : Bool} {m : Msg} {c : Bool} {s : NS} {l : List Pk} {f : List (List Int × Bool)} {next : Int} {B : List Bool} {L : List Msg}

instance : Cells Msg 21 := ⟨mC, fun _ => rfl, fun _ => rfl, fun _ => rfl⟩
theorem msg_cells (m : Msg) : Cells.cells m = mC m := rfl
theorem ms_load {l : List Msg} {j : Nat} (h : j < l.length) : ((cR l).drop (j * 21)).take 21 = mC (l.getD j default) := by rw [cR_load h]; rfl
theorem mcc_fill {m : Msg} {cs : List AV} (h : cs.length = 21) : fillOne cs 0 (mC m) = mC m := by rw [fill_spl (by simp [mc_len, h]), mc_spl m h]
def sm (L : List Msg) : Nat → NS
  | 0 => ⟨0, [], [], fB 324, true, true⟩
  | k + 1 => (sendS 18 (sm L k) (L.getD k default)).s
theorem sm_0 : sm L 0 = ⟨0, [], [], fB 324, true, true⟩ := rfl
theorem sm_s : sm L (k + 1) = (sendS 18 (sm L k) (L.getD k default)).s := rfl
theorem sm_ok (k : Nat) : okS 18 (sm L k) k := by
  induction k with
  | zero => exact ok_0 (by decide)
  | succ k ih => exact ok_send ih
theorem zp_send (h : s.zp = false) : (sendS n s m).s.zp = false := by unfold sendS; split <;> (first | exact h | (split <;> first | exact h | rfl))
theorem seE (h : okS n s k) (hz : s.zp = true) (hz2 : (sendS n s m).s.zp = true) : ACall Try.prog 12 [.pt 0 0, .agg (mC m)] (n0 n s.next s.f) 2 (.val (.int .i64 (sendS n s m).e)) (n0 n (sendS n s m).s.next (sendS n s m).s.f) := by
  have hl : s.l = [] := h.zp hz
  unfold sendS at hz2 ⊢
  split
  · exact send_range0 (by assumption)
  · rename_i h2
    rw [if_neg h2, if_neg (by rw [hl]; simp)] at hz2
    cases hz2
theorem seN (h : okS n s k) (hk : k ≤ 1000000) (hz : s.zp = true) (hz2 : (sendS n s m).s.zp = false) : ACall Try.prog 12 [.pt 0 0, .agg (mC m)] (n0 n s.next s.f) 2 (.val (.int .i64 (sendS n s m).e)) (nS n (sendS n s m).s) := by
  have hl : s.l = [] := h.zp hz
  have h1 : s.next ≤ 1000000 := by have := h.nx1; omega
  unfold sendS at hz2 ⊢
  split
  · rename_i h2; rw [if_pos h2, show (erS s 7).s.zp = s.zp from rfl, hz] at hz2; cases hz2
  · rename_i h2
    rw [if_neg (by rw [hl]; simp), hl]
    rw [Bool.not_eq_false, Bool.and_eq_true] at h2
    have := send_ok0 (f := s.f) h2.1 h2.2 h.nx0 h1
    show ACall _ _ _ _ _ _ [.cells [.val (.int .i64 n), .val (.int .i64 (s.next + 1)), .sl 2 0 ([] ++ [(⟨s.next, m.fr, m.to, m⟩ : Pk)]).length 24, .mp 1] 80, .map true 2 (bV s.f), .cells (cR ([] ++ [(⟨s.next, m.fr, m.to, m⟩ : Pk)])) 41]
    rw [List.nil_append]; exact this
theorem seF (h : okS n s k) (hk : k ≤ 1000000) : ACall Try.prog 12 [.pt 0 0, .agg (mC m)] (nS n s) 2 (.val (.int .i64 (sendS n s m).e)) (nS n (sendS n s m).s) := sendQ (by have := h.len; omega) h.nx0 (by have := h.nx1; omega)
def meI (z : Bool) (L : List Msg) (j : {j : Nat // j ≤ L.length}) : St :=
  ⟨57, 0, [(3,.pt 0 0), (5,.pt 2 0), (33,.isl z (cR L) L.length), (34,.val (.int .i64 L.length)), (35,.val (.int .i64 j.val))],
   [(0, some (.cells [.val (.int .i64 18), .val (.int .i64 (sm L j.val).next), tsl (sm L j.val).zp 3 (sm L j.val).l.length, .mp 1] 80)), (1, some (.map true 2 (bV (sm L j.val).f))),
    (2, some (.cells (rC 18 (sm L j.val).next (.isl (sm L j.val).zr (cR (sm L j.val).l) (sm L j.val).l.length) (sm L j.val).B) 49))] ++ tob (sm L j.val).zp 3 (sm L j.val).l⟩
theorem messages_big (hl2 : L.length < 2^45) (hl : 5 < L.length) : ACall Try.prog 7 [.isl z (cR L) L.length] [] 0 (.val (.bool true)) [] := by
  refine ACall.enter Try.func7 rfl (by simp [Try.ntmps7]) (by simp) ?_
  simp only [entry, idx, Try.ntmps7, List.length, List.map_cons, List.map_nil, List.append_nil, List.cons_append, List.nil_append, Nat.reduceAdd, Nat.zero_add, List.length_cons, List.length_nil]
  repeat' (first
    | (refine AC_seq ?_)
    | (refine AC_region_lit ?_)
    | ((first | refine AL_go rfl (fun K hK => ?_) | refine AL_go0 (fun K hK => ?_) | refine DG_run (fun K hK => ?_))
       (first | refine R_callG (f := 10) [] 0 false ?_)
       simp (dsimp := false) (disch := first | exact vD | fail) only [push_cast, List.reduceReplicate, Nat.reduceAdd, Nat.reduceMul, Nat.reduceSub, Nat.reduceEqDiff, Nat.reduceLT, Nat.reduceLeDiff, Nat.reduceBEq, Int.reduceToNat, Int.reduceEq, Int.reduceLT, Int.reduceLE, Int.reduceAdd, Int.reduceSub, Int.reduceMul, ↓reduceIte, reduceCtorEq]
       (repeat (refine aI ?_)); intro G hG; refine hG _ _ ?_; clear hG G
       (first | refine ⟨_, _, awake_ok, ?_⟩)
       simp (dsimp := false) (disch := first | exact vD | fail) only [push_cast, List.reduceReplicate, Nat.reduceAdd, Nat.reduceMul, Nat.reduceSub, Nat.reduceEqDiff, Nat.reduceLT, Nat.reduceLeDiff, Nat.reduceBEq, Int.reduceToNat, Int.reduceEq, Int.reduceLT, Int.reduceLE, Int.reduceAdd, Int.reduceSub, Int.reduceMul, ↓reduceIte, reduceCtorEq]
       (repeat (refine aI ?_)); (first | refine hK _ _ _ ?_ | refine hK _ _ ?_); clear hK K)
    | ((first | refine AL_go rfl (fun K hK => ?_) | refine AL_go0 (fun K hK => ?_) | refine DG_run (fun K hK => ?_))
       (first | refine R_move _ ?_ | refine R_assign _ ?_ | refine Q_load _ _ ?_ | refine Q_loadAgg _ _ ?_ | refine Q_fieldAddr _ _ _ ?_ | refine Q_indexAddr _ _ _ ?_ | refine Q_indexArr _ _ _ ?_ | refine Q_len _ _ ?_ | refine Q_lenStr _ _ ?_ | refine Q_pick _ _ _ ?_ | refine Q_not _ _ ?_ | refine Q_neg _ _ ?_ | refine Q_extract _ _ ?_ | refine R_alloc _ ?_ | refine Q_store _ _ _ ?_ | refine Q_eqAgg _ _ _ _ ?_ | refine Q_neqAgg _ _ _ _ ?_ | refine Q_neqSelf _ _ _ _ ?_ | refine Q_bin _ _ _ _ _ ?_)
       simp (dsimp := false) (disch := first | exact vD | fail) only [push_cast, List.reduceReplicate, Nat.reduceAdd, Nat.reduceMul, Nat.reduceSub, Nat.reduceEqDiff, Nat.reduceLT, Nat.reduceLeDiff, Nat.reduceBEq, Int.reduceToNat, Int.reduceEq, Int.reduceLT, Int.reduceLE, Int.reduceAdd, Int.reduceSub, Int.reduceMul, ↓reduceIte, reduceCtorEq]
       (repeat (refine aI ?_)); (first | refine hK _ _ _ ?_ | refine hK _ _ ?_); clear hK K)
    | ((first | refine AL_go rfl (fun K hK => ?_) | refine AL_go0 (fun K hK => ?_) | refine DG_run (fun K hK => ?_))
       (first | refine Q_eqnil _ _ _ _ ?_ | refine Q_neqnil _ _ _ _ ?_)
       simp (dsimp := false) (disch := first | exact vD | fail) only [push_cast, List.reduceReplicate, Nat.reduceAdd, Nat.reduceMul, Nat.reduceSub, Nat.reduceEqDiff, Nat.reduceLT, Nat.reduceLeDiff, Nat.reduceBEq, Int.reduceToNat, Int.reduceEq, Int.reduceLT, Int.reduceLE, Int.reduceAdd, Int.reduceSub, Int.reduceMul, ↓reduceIte, reduceCtorEq]
       (repeat (refine aI ?_)); (first | refine hK _ _ _ ?_ | refine hK _ _ ?_); clear hK K)
    | ((first | refine AL_guard rfl rfl (fun K1 K2 h1 h2 => ?_) rfl | refine AC_cond_k (fun K1 K2 h1 h2 => ?_) | refine DG_guard rfl rfl (fun K1 K2 h1 h2 => ?_))
       simp (dsimp := false) (disch := first | exact vD | fail) only [push_cast, List.reduceReplicate, Nat.reduceAdd, Nat.reduceMul, Nat.reduceSub, Nat.reduceEqDiff, Nat.reduceLT, Nat.reduceLeDiff, Nat.reduceBEq, Int.reduceToNat, Int.reduceEq, Int.reduceLT, Int.reduceLE, Int.reduceAdd, Int.reduceSub, Int.reduceMul, ↓reduceIte, reduceCtorEq]
       first | (refine ⟨fun hc => ?_, fun hc => ?_⟩ <;> first | (exfalso; omega) | (exfalso; contradiction) | refine h1 ?_ | refine h2 ?_) | refine h1 ?_ | refine h2 ?_
       all_goals clear h1 h2 K1 K2)
    | (refine AC_draw (id := 15) (by kernel_rfl) [⟨0, [], [54, 55], [], [], 0⟩, ⟨1, [0], [54, 55], [], [], 0⟩, ⟨2, [], [52, 53], [], [], 0⟩, ⟨3, [2], [52, 53], [], [], 0⟩, ⟨4, [0, 1, 2, 3], [], [], [], 0⟩, ⟨5, [0, 1, 2, 3, 4], [], [], [], 0⟩] (by kernel_rfl) (by kernel_rfl) (by kernel_rfl) ?_)
    | ((first | refine DG_next' (by kernel_rfl) (fun K hK => ?_) | refine DG_nil (by kernel_rfl) (fun K hK => ?_))
       simp only [↓Go.Sy.dsnE_some, ↓Go.Sy.dsnE_none, ↓Go.Sy.dsnE_nil, ↓Go.Sy.dsnO_snoc, ↓Go.Sy.dsnO_nil, ↓Go.Sy.nidAt_snoc, ↓Go.Sy.nidAt_nil, push_cast, Nat.reduceLeDiff, Nat.reduceSub, Nat.reduceBEq, Nat.reduceEqDiff, Nat.reduceAdd, Nat.reduceLT, ↓reduceIte, reduceCtorEq]
       refine hK _ _ _ ?_; clear hK K)
    | (refine DG_go ?_)
    | (refine AL_nil ?_) | (refine Thn_normal ?_) | (refine Thn_ret ?_) | (refine Thn_exit ?_) | (refine Blk_normal ?_) | (refine Blk_ret ?_) | (refine Blk_here ?_) | (refine Blk_other rfl ?_) | (refine AC_block ?_) | (refine AC_exit ?_) | (refine AC_skip ?_) | (refine AC_ret ?_))
  all_goals (refine Ends.mk2 (by first | exact .inr rfl | exact .inl rfl) [] ?_; simp (dsimp := false) (disch := first | exact vD | fail) only [push_cast, List.reduceReplicate, Nat.reduceAdd, Nat.reduceMul, Nat.reduceSub, Nat.reduceEqDiff, Nat.reduceLT, Nat.reduceLeDiff, Nat.reduceBEq, Int.reduceToNat, Int.reduceEq, Int.reduceLT, Int.reduceLE, Int.reduceAdd, Int.reduceSub, Int.reduceMul, ↓reduceIte, reduceCtorEq, Try.f7]; (repeat (refine aI ?_)); try (first | exact vI | fail))
theorem messages_ok (hl : L.length ≤ 5) : ACall Try.prog 7 [.isl z (cR L) L.length] [] 0 (.val (.bool true)) [] := by
  have hF : (fB 324).length = 324 := fB_len
  refine ACall.enter Try.func7 rfl (by simp [Try.ntmps7]) (by simp) ?_
  simp only [entry, idx, Try.ntmps7, List.length, List.map_cons, List.map_nil, List.append_nil, List.cons_append, List.nil_append, Nat.reduceAdd, Nat.zero_add, List.length_cons, List.length_nil]
  repeat' (first
    | (refine AC_loop_id ?_; refine AC_loop' [0,1,2,9] ([0,1,2,9].length) (meI z L) (fun j => L.length - j.val) (⟨0, by omega⟩) rfl (by unfold meI; (try simp only [List.cons_append, List.nil_append]); refine Sub.mk2 ?_; (simp (dsimp := false) (disch := first | exact vD | fail) only [push_cast, List.reduceReplicate, Nat.reduceAdd, Nat.reduceMul, Nat.reduceSub, Nat.reduceEqDiff, Nat.reduceLT, Nat.reduceLeDiff, Nat.reduceBEq, Int.reduceToNat, Int.reduceEq, Int.reduceLT, Int.reduceLE, Int.reduceAdd, Int.reduceSub, Int.reduceMul, ↓reduceIte, reduceCtorEq, n0, nS, rS, rN, sm_0, sm_s, tsl_t, tsl_f, tob_t, tob_f, msg_cells, mcc_fill, cR_nil]); (repeat (refine aI ?_)); (first | done | (first | exact vI | fail)); done) ?_; (rintro ⟨j, hj⟩; have hr := sm_ok (L := L) j; have hr2 := sm_ok (L := L) (j + 1); have hk0 : j ≤ 1000000 := (by omega); have hlB := hr.lB; have hlB2 : (sendS 18 (sm L j) (L.getD j default)).s.B.length = 324 := hr2.lB; rw [sm_s] at hr2; dsimp only [meI]; generalize hS : sm L j = S at *; have hpe := fun h1 h2 => seE (m := L.getD j default) hr h1 h2; have hpe1 := fun h1 h2 => seN (m := L.getD j default) hr hk0 h1 h2; have hpf := seF (m := L.getD j default) hr hk0; have hdo := rsendQ (m := L.getD j default) hr hk0; have hzs := fun h => zp_send (n := 18) (m := L.getD j default) (s := S) h; generalize hR : sendS 18 S (L.getD j default) = R at *; rcases Nat.lt_or_eq_of_le hj with hjl | hjl <;> first | (have hje : j = L.length := hjl; cases hz1 : S.zp <;> (simp (dsimp := false) (disch := first | exact vD | fail) only [push_cast, List.reduceReplicate, Nat.reduceAdd, Nat.reduceMul, Nat.reduceSub, Nat.reduceEqDiff, Nat.reduceLT, Nat.reduceLeDiff, Nat.reduceBEq, Int.reduceToNat, Int.reduceEq, Int.reduceLT, Int.reduceLE, Int.reduceAdd, Int.reduceSub, Int.reduceMul, ↓reduceIte, reduceCtorEq, tsl_t, tsl_f, tob_t, tob_f])) | (cases hz1 : S.zp <;> cases hz2 : R.s.zp <;> first | (exact absurd ((hzs hz1).symm.trans hz2) (by decide)) | (simp (dsimp := false) (disch := first | exact vD | fail) only [push_cast, List.reduceReplicate, Nat.reduceAdd, Nat.reduceMul, Nat.reduceSub, Nat.reduceEqDiff, Nat.reduceLT, Nat.reduceLeDiff, Nat.reduceBEq, Int.reduceToNat, Int.reduceEq, Int.reduceLT, Int.reduceLE, Int.reduceAdd, Int.reduceSub, Int.reduceMul, ↓reduceIte, reduceCtorEq, tsl_t, tsl_f, tob_t, tob_f]))))
    | (refine Nxt_id ?_; refine Nxt.mk [0,1,2,9] (⟨j + 1, by omega⟩) rfl (by unfold meI; (try simp only [List.cons_append, List.nil_append]); refine Sub.mk2 ?_; (simp (dsimp := false) (disch := first | exact vD | fail) only [push_cast, List.reduceReplicate, Nat.reduceAdd, Nat.reduceMul, Nat.reduceSub, Nat.reduceEqDiff, Nat.reduceLT, Nat.reduceLeDiff, Nat.reduceBEq, Int.reduceToNat, Int.reduceEq, Int.reduceLT, Int.reduceLE, Int.reduceAdd, Int.reduceSub, Int.reduceMul, ↓reduceIte, reduceCtorEq, n0, nS, rS, rN, sm_0, sm_s, tsl_t, tsl_f, tob_t, tob_f, msg_cells, mcc_fill, cR_nil, hS, hR]); (repeat (refine aI ?_)); (first | done | (first | exact vI | fail)); done) (by first | omega | (simp; done) | (simp; omega)))
    | (refine Nxt_id ?_; refine Nxt.mk [0,1,2,6] (⟨j + 1, by omega⟩) rfl (by unfold meI; (try simp only [List.cons_append, List.nil_append]); refine Sub.mk2 ?_; (simp (dsimp := false) (disch := first | exact vD | fail) only [push_cast, List.reduceReplicate, Nat.reduceAdd, Nat.reduceMul, Nat.reduceSub, Nat.reduceEqDiff, Nat.reduceLT, Nat.reduceLeDiff, Nat.reduceBEq, Int.reduceToNat, Int.reduceEq, Int.reduceLT, Int.reduceLE, Int.reduceAdd, Int.reduceSub, Int.reduceMul, ↓reduceIte, reduceCtorEq, n0, nS, rS, rN, sm_0, sm_s, tsl_t, tsl_f, tob_t, tob_f, msg_cells, mcc_fill, cR_nil, hS, hR]); (repeat (refine aI ?_)); (first | done | (first | exact vI | fail)); done) (by first | omega | (simp; done) | (simp; omega)))
    | (refine AC_seq ?_)
    | (refine AC_region_lit ?_)
    | ((first | refine AL_go rfl (fun K hK => ?_) | refine AL_go0 (fun K hK => ?_) | refine DG_run (fun K hK => ?_))
       (first | refine R_callG (f := 10) [] 0 false ?_ | refine R_callG (f := 11) [] 0 false ?_ | refine R_callG (f := 14) [] 0 false ?_ | refine R_callG (f := 20) [] 0 false ?_ | refine R_callG (f := 21) [] 0 false ?_)
       simp (dsimp := false) (disch := first | exact vD | fail) only [push_cast, List.reduceReplicate, Nat.reduceAdd, Nat.reduceMul, Nat.reduceSub, Nat.reduceEqDiff, Nat.reduceLT, Nat.reduceLeDiff, Nat.reduceBEq, Int.reduceToNat, Int.reduceEq, Int.reduceLT, Int.reduceLE, Int.reduceAdd, Int.reduceSub, Int.reduceMul, ↓reduceIte, reduceCtorEq, n0, nS, rS, rN, sm_0, sm_s, tsl_t, tsl_f, tob_t, tob_f, msg_cells, mcc_fill, cR_nil]
       (repeat (refine aI ?_)); intro G hG; refine hG _ _ ?_; clear hG G
       (first | refine ⟨_, _, awake_ok, ?_⟩ | refine ⟨_, _, new_ok (by decide), ?_⟩ | refine ⟨_, _, rnew_ok (by decide), ?_⟩ | refine ⟨_, _, hdo, ?_⟩ | refine ⟨_, _, sameL (by have := hr.len; omega), ?_⟩)
       simp (dsimp := false) (disch := first | exact vD | fail) only [push_cast, List.reduceReplicate, Nat.reduceAdd, Nat.reduceMul, Nat.reduceSub, Nat.reduceEqDiff, Nat.reduceLT, Nat.reduceLeDiff, Nat.reduceBEq, Int.reduceToNat, Int.reduceEq, Int.reduceLT, Int.reduceLE, Int.reduceAdd, Int.reduceSub, Int.reduceMul, ↓reduceIte, reduceCtorEq, n0, nS, rS, rN, sm_0, sm_s, tsl_t, tsl_f, tob_t, tob_f, msg_cells, mcc_fill, cR_nil]
       (repeat (refine aI ?_)); (first | refine hK _ _ _ ?_ | refine hK _ _ ?_); clear hK K)
    | ((first | refine AL_go rfl (fun K hK => ?_) | refine AL_go0 (fun K hK => ?_) | refine DG_run (fun K hK => ?_))
       (first
        | (refine R_callG (f := 12) [0,1] 2 false ?_
           simp (dsimp := false) (disch := first | exact vD | fail) only [push_cast, List.reduceReplicate, Nat.reduceAdd, Nat.reduceMul, Nat.reduceSub, Nat.reduceEqDiff, Nat.reduceLT, Nat.reduceLeDiff, Nat.reduceBEq, Int.reduceToNat, Int.reduceEq, Int.reduceLT, Int.reduceLE, Int.reduceAdd, Int.reduceSub, Int.reduceMul, ↓reduceIte, reduceCtorEq, n0, nS, rS, rN, sm_0, sm_s, tsl_t, tsl_f, tob_t, tob_f, msg_cells, mcc_fill, cR_nil]
           (repeat (refine aI ?_)); intro G hG; refine hG _ _ ?_; clear hG G
           refine ⟨_, _, hpe hz1 hz2, ?_⟩
           simp (dsimp := false) (disch := first | exact vD | fail) only [push_cast, List.reduceReplicate, Nat.reduceAdd, Nat.reduceMul, Nat.reduceSub, Nat.reduceEqDiff, Nat.reduceLT, Nat.reduceLeDiff, Nat.reduceBEq, Int.reduceToNat, Int.reduceEq, Int.reduceLT, Int.reduceLE, Int.reduceAdd, Int.reduceSub, Int.reduceMul, ↓reduceIte, reduceCtorEq, n0, nS, rS, rN, sm_0, sm_s, tsl_t, tsl_f, tob_t, tob_f, msg_cells, mcc_fill, cR_nil]
           (repeat (refine aI ?_)); (first | refine hK _ _ _ ?_ | refine hK _ _ ?_); clear hK K)
        | (refine R_callG (f := 12) [0,1] 2 false ?_
           simp (dsimp := false) (disch := first | exact vD | fail) only [push_cast, List.reduceReplicate, Nat.reduceAdd, Nat.reduceMul, Nat.reduceSub, Nat.reduceEqDiff, Nat.reduceLT, Nat.reduceLeDiff, Nat.reduceBEq, Int.reduceToNat, Int.reduceEq, Int.reduceLT, Int.reduceLE, Int.reduceAdd, Int.reduceSub, Int.reduceMul, ↓reduceIte, reduceCtorEq, n0, nS, rS, rN, sm_0, sm_s, tsl_t, tsl_f, tob_t, tob_f, msg_cells, mcc_fill, cR_nil]
           (repeat (refine aI ?_)); intro G hG; refine hG _ _ ?_; clear hG G
           refine ⟨_, _, hpe1 hz1 hz2, ?_⟩
           simp (dsimp := false) (disch := first | exact vD | fail) only [push_cast, List.reduceReplicate, Nat.reduceAdd, Nat.reduceMul, Nat.reduceSub, Nat.reduceEqDiff, Nat.reduceLT, Nat.reduceLeDiff, Nat.reduceBEq, Int.reduceToNat, Int.reduceEq, Int.reduceLT, Int.reduceLE, Int.reduceAdd, Int.reduceSub, Int.reduceMul, ↓reduceIte, reduceCtorEq, n0, nS, rS, rN, sm_0, sm_s, tsl_t, tsl_f, tob_t, tob_f, msg_cells, mcc_fill, cR_nil]
           (repeat (refine aI ?_)); (first | refine hK _ _ _ ?_ | refine hK _ _ ?_); clear hK K)
        | (refine R_callG (f := 12) [0,1,3] 2 false ?_
           simp (dsimp := false) (disch := first | exact vD | fail) only [push_cast, List.reduceReplicate, Nat.reduceAdd, Nat.reduceMul, Nat.reduceSub, Nat.reduceEqDiff, Nat.reduceLT, Nat.reduceLeDiff, Nat.reduceBEq, Int.reduceToNat, Int.reduceEq, Int.reduceLT, Int.reduceLE, Int.reduceAdd, Int.reduceSub, Int.reduceMul, ↓reduceIte, reduceCtorEq, n0, nS, rS, rN, sm_0, sm_s, tsl_t, tsl_f, tob_t, tob_f, msg_cells, mcc_fill, cR_nil]
           (repeat (refine aI ?_)); intro G hG; refine hG _ _ ?_; clear hG G
           refine ⟨_, _, hpf, ?_⟩
           simp (dsimp := false) (disch := first | exact vD | fail) only [push_cast, List.reduceReplicate, Nat.reduceAdd, Nat.reduceMul, Nat.reduceSub, Nat.reduceEqDiff, Nat.reduceLT, Nat.reduceLeDiff, Nat.reduceBEq, Int.reduceToNat, Int.reduceEq, Int.reduceLT, Int.reduceLE, Int.reduceAdd, Int.reduceSub, Int.reduceMul, ↓reduceIte, reduceCtorEq, n0, nS, rS, rN, sm_0, sm_s, tsl_t, tsl_f, tob_t, tob_f, msg_cells, mcc_fill, cR_nil]
           (repeat (refine aI ?_)); (first | refine hK _ _ _ ?_ | refine hK _ _ ?_); clear hK K)
        | (refine R_callG (f := 15) [0,1] 2 false ?_
           simp (dsimp := false) (disch := first | exact vD | fail) only [push_cast, List.reduceReplicate, Nat.reduceAdd, Nat.reduceMul, Nat.reduceSub, Nat.reduceEqDiff, Nat.reduceLT, Nat.reduceLeDiff, Nat.reduceBEq, Int.reduceToNat, Int.reduceEq, Int.reduceLT, Int.reduceLE, Int.reduceAdd, Int.reduceSub, Int.reduceMul, ↓reduceIte, reduceCtorEq, n0, nS, rS, rN, sm_0, sm_s, tsl_t, tsl_f, tob_t, tob_f, msg_cells, mcc_fill, cR_nil]
           (repeat (refine aI ?_)); intro G hG; refine hG _ _ ?_; clear hG G
           refine ⟨_, _, allE hr hz1, ?_⟩
           simp (dsimp := false) (disch := first | exact vD | fail) only [push_cast, List.reduceReplicate, Nat.reduceAdd, Nat.reduceMul, Nat.reduceSub, Nat.reduceEqDiff, Nat.reduceLT, Nat.reduceLeDiff, Nat.reduceBEq, Int.reduceToNat, Int.reduceEq, Int.reduceLT, Int.reduceLE, Int.reduceAdd, Int.reduceSub, Int.reduceMul, ↓reduceIte, reduceCtorEq, n0, nS, rS, rN, sm_0, sm_s, tsl_t, tsl_f, tob_t, tob_f, msg_cells, mcc_fill, cR_nil]
           (repeat (refine aI ?_)); (first | refine hK _ _ _ ?_ | refine hK _ _ ?_); clear hK K)
        | (refine R_callG (f := 15) [0,1,3] 3 false ?_
           simp (dsimp := false) (disch := first | exact vD | fail) only [push_cast, List.reduceReplicate, Nat.reduceAdd, Nat.reduceMul, Nat.reduceSub, Nat.reduceEqDiff, Nat.reduceLT, Nat.reduceLeDiff, Nat.reduceBEq, Int.reduceToNat, Int.reduceEq, Int.reduceLT, Int.reduceLE, Int.reduceAdd, Int.reduceSub, Int.reduceMul, ↓reduceIte, reduceCtorEq, n0, nS, rS, rN, sm_0, sm_s, tsl_t, tsl_f, tob_t, tob_f, msg_cells, mcc_fill, cR_nil]
           (repeat (refine aI ?_)); intro G hG; refine hG _ _ ?_; clear hG G
           refine ⟨_, _, allS hr, ?_⟩
           simp (dsimp := false) (disch := first | exact vD | fail) only [push_cast, List.reduceReplicate, Nat.reduceAdd, Nat.reduceMul, Nat.reduceSub, Nat.reduceEqDiff, Nat.reduceLT, Nat.reduceLeDiff, Nat.reduceBEq, Int.reduceToNat, Int.reduceEq, Int.reduceLT, Int.reduceLE, Int.reduceAdd, Int.reduceSub, Int.reduceMul, ↓reduceIte, reduceCtorEq, n0, nS, rS, rN, sm_0, sm_s, tsl_t, tsl_f, tob_t, tob_f, msg_cells, mcc_fill, cR_nil]
           (repeat (refine aI ?_)); (first | refine hK _ _ _ ?_ | refine hK _ _ ?_); clear hK K)))
    | ((first | refine AL_go rfl (fun K hK => ?_) | refine AL_go0 (fun K hK => ?_) | refine DG_run (fun K hK => ?_))
       (first | refine R_move _ ?_ | refine R_assign _ ?_ | refine Q_load _ _ ?_ | refine Q_loadAgg _ _ ?_ | refine Q_fieldAddr _ _ _ ?_ | refine Q_indexAddr _ _ _ ?_ | refine Q_indexArr _ _ _ ?_ | refine Q_len _ _ ?_ | refine Q_lenStr _ _ ?_ | refine Q_pick _ _ _ ?_ | refine Q_not _ _ ?_ | refine Q_neg _ _ ?_ | refine Q_extract _ _ ?_ | refine R_alloc _ ?_ | refine Q_store _ _ _ ?_ | refine Q_eqAgg _ _ _ _ ?_ | refine Q_neqAgg _ _ _ _ ?_ | refine Q_neqSelf _ _ _ _ ?_ | refine Q_bin _ _ _ _ _ ?_)
       simp (dsimp := false) (disch := first | exact vD | fail) only [push_cast, List.reduceReplicate, Nat.reduceAdd, Nat.reduceMul, Nat.reduceSub, Nat.reduceEqDiff, Nat.reduceLT, Nat.reduceLeDiff, Nat.reduceBEq, Int.reduceToNat, Int.reduceEq, Int.reduceLT, Int.reduceLE, Int.reduceAdd, Int.reduceSub, Int.reduceMul, ↓reduceIte, reduceCtorEq, n0, nS, rS, rN, sm_0, sm_s, tsl_t, tsl_f, tob_t, tob_f, msg_cells, mcc_fill, cR_nil]
       (repeat (refine aI ?_)); (first | refine hK _ _ _ ?_ | refine hK _ _ ?_); clear hK K)
    | ((first | refine AL_go rfl (fun K hK => ?_) | refine AL_go0 (fun K hK => ?_) | refine DG_run (fun K hK => ?_))
       (first | refine Q_eqnil _ _ _ _ ?_ | refine Q_neqnil _ _ _ _ ?_)
       simp (dsimp := false) (disch := first | exact vD | fail) only [push_cast, List.reduceReplicate, Nat.reduceAdd, Nat.reduceMul, Nat.reduceSub, Nat.reduceEqDiff, Nat.reduceLT, Nat.reduceLeDiff, Nat.reduceBEq, Int.reduceToNat, Int.reduceEq, Int.reduceLT, Int.reduceLE, Int.reduceAdd, Int.reduceSub, Int.reduceMul, ↓reduceIte, reduceCtorEq, n0, nS, rS, rN, sm_0, sm_s, tsl_t, tsl_f, tob_t, tob_f, msg_cells, mcc_fill, cR_nil]
       (repeat (refine aI ?_)); (first | refine hK _ _ _ ?_ | refine hK _ _ ?_); clear hK K)
    | ((first | refine AL_guard rfl rfl (fun K1 K2 h1 h2 => ?_) rfl | refine AC_cond_k (fun K1 K2 h1 h2 => ?_) | refine DG_guard rfl rfl (fun K1 K2 h1 h2 => ?_))
       simp (dsimp := false) (disch := first | exact vD | fail) only [push_cast, List.reduceReplicate, Nat.reduceAdd, Nat.reduceMul, Nat.reduceSub, Nat.reduceEqDiff, Nat.reduceLT, Nat.reduceLeDiff, Nat.reduceBEq, Int.reduceToNat, Int.reduceEq, Int.reduceLT, Int.reduceLE, Int.reduceAdd, Int.reduceSub, Int.reduceMul, ↓reduceIte, reduceCtorEq, n0, nS, rS, rN, sm_0, sm_s, tsl_t, tsl_f, tob_t, tob_f, msg_cells, mcc_fill, cR_nil]
       first | (refine ⟨fun hc => ?_, fun hc => ?_⟩ <;> first | (exfalso; omega) | (exfalso; contradiction) | (exfalso; (simp_all; done)) | refine h1 ?_ | refine h2 ?_) | refine h1 ?_ | refine h2 ?_
       all_goals clear h1 h2 K1 K2)
    | (refine AC_draw (id := 15) (by kernel_rfl) [⟨0, [], [54, 55], [], [], 0⟩, ⟨1, [0], [54, 55], [], [3, 4, 6], 0⟩, ⟨2, [], [52, 53], [3, 4, 6], [], 0⟩, ⟨3, [2], [52, 53], [3, 4, 6], [], 0⟩, ⟨4, [0, 1, 2, 3], [], [], [], 0⟩, ⟨5, [0, 1, 2, 3, 4], [], [], [], 0⟩] (by kernel_rfl) (by kernel_rfl) (by kernel_rfl) ?_)
    | ((first | refine DG_next' (by kernel_rfl) (fun K hK => ?_) | refine DG_nil (by kernel_rfl) (fun K hK => ?_))
       simp only [↓Go.Sy.dsnE_some, ↓Go.Sy.dsnE_none, ↓Go.Sy.dsnE_nil, ↓Go.Sy.dsnO_snoc, ↓Go.Sy.dsnO_nil, ↓Go.Sy.nidAt_snoc, ↓Go.Sy.nidAt_nil, push_cast, Nat.reduceLeDiff, Nat.reduceSub, Nat.reduceBEq, Nat.reduceEqDiff, Nat.reduceAdd, Nat.reduceLT, ↓reduceIte, reduceCtorEq]
       refine hK _ _ _ ?_; clear hK K)
    | (refine DG_go ?_)
    | (refine AL_nil ?_) | (refine Thn_normal ?_) | (refine Thn_ret ?_) | (refine Thn_exit ?_) | (refine Blk_normal ?_) | (refine Blk_ret ?_) | (refine Blk_here ?_) | (refine Blk_other rfl ?_) | (refine AC_block ?_) | (refine AC_exit ?_) | (refine AC_skip ?_) | (refine AC_ret ?_))
  all_goals (refine Ends.mk2 (by first | exact .inr rfl | exact .inl rfl) [] ?_; simp (dsimp := false) (disch := first | exact vD | fail) only [push_cast, List.reduceReplicate, Nat.reduceAdd, Nat.reduceMul, Nat.reduceSub, Nat.reduceEqDiff, Nat.reduceLT, Nat.reduceLeDiff, Nat.reduceBEq, Int.reduceToNat, Int.reduceEq, Int.reduceLT, Int.reduceLE, Int.reduceAdd, Int.reduceSub, Int.reduceMul, ↓reduceIte, reduceCtorEq, Try.f7]; (repeat (refine aI ?_)); try (first | exact vI | fail))
theorem messages_law (hl2 : L.length < 2^45) : ACall Try.prog 7 [.isl z (cR L) L.length] [] 0 (.val (.bool true)) [] := by
  rcases Nat.lt_or_ge 5 L.length with h | h
  · exact messages_big hl2 h
  · exact messages_ok h
end Go.Proofs.Ytphpjgfhdoobjaa
