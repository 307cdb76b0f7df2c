/- The network: awake. No condition. -/
import Derived.Test.YtphpjgfhdoobjaaNet6
set_option linter.unusedVariables false
set_option linter.unusedSectionVars false
set_option linter.unusedSimpArgs false
set_option maxHeartbeats 1000000
set_option maxRecDepth 20000
namespace Go.Proofs.Ytphpjgfhdoobjaa
open Go Go.Sy
attribute [local irreducible] AO AL AC OpT ACall Ends DGo DRun Thn Blk Nxt

def am (a b : Int) : Msg := { (default : Msg) with kind := 1, fr := a, to := b }
theorem amc {a b : Int} : mC (am a b) = [.val (.int .i64 1), .val (.int .i64 a), .val (.int .i64 b), .val (.int .i64 0), .val (.int .i64 0), .val (.string ⟨#[]⟩), .val (.int .i64 0), .val (.int .i64 0), .val (.int .i64 0), .val (.int .i64 0), .val (.int .i64 0), .val (.string ⟨#[]⟩), .val (.string ⟨#[]⟩), .isl true [] 0, .isl true [] 0, .val (.int .i64 0), .val (.string ⟨#[]⟩), .isl true [] 0, .isl true [] 0, .isl true [] 0, .isl true [] 0] := rfl
def ak (i a b : Int) : Pk := ⟨i, a, b, am a b⟩
def aL0 : List Pk := [ak 0 0 1]
def aL1 : List Pk := [ak 0 0 1, ak 1 2 1]
def aL2 : List Pk := [ak 0 0 1, ak 1 2 1, ak 2 0 2]
def aL3 : List Pk := [ak 0 0 1, ak 2 0 2]
def aL4 : List Pk := [ak 0 0 1, ak 2 0 2, ak 3 0 1]
def aL5 : List Pk := [ak 0 0 1, ak 3 0 1]
def aG : List (List Int × Bool) := gridF 1 6 true [] 16
theorem aw_1 : ACall Try.prog 12 [.pt 0 0, .agg (mC (am 0 1))] (n0 3 0 []) 2 (.val (.int .i64 0)) (n1x 3 1 aL0 1 []) := send_ok0 (by decide) (by decide) (by decide) (by decide)
theorem aw_2 : ACall Try.prog 12 [.pt 0 0, .agg (mC (am 2 1))] (n1x 3 1 aL0 1 []) 2 (.val (.int .i64 0)) (n1x 3 2 aL1 2 []) := send_ok (l := aL0) (by decide) (by decide) (by decide) (by decide) (by decide)
theorem aw_3 : ACall Try.prog 12 [.pt 0 0, .agg (mC (am 0 2))] (n1x 3 2 aL1 2 []) 2 (.val (.int .i64 0)) (n1x 3 3 aL2 3 []) := send_ok (l := aL1) (by decide) (by decide) (by decide) (by decide) (by decide)
theorem aw_fit : fitB 3 1 6 16 := by unfold fitB; decide +kernel
theorem aw_4 : ACall Try.prog 17 [.pt 0 0, .val (.int .u16 1), .val (.int .u16 6), .val (.bool true)] (n1x 3 3 aL2 3 []) 3 (.val (.int .i64 0)) (n1x 3 3 aL2 3 aG) := block_ok (l := aL2) aw_fit
theorem aw_5i : ix (opn aG 1) aL2 = (1 : Nat) := by decide +kernel
theorem aw_5 : ACall Try.prog 13 [.pt 0 0, .val (.int .i64 1)] (n1x 3 3 aL2 3 aG) 3 (.tup [.agg (pC (ak 1 2 1)), .val (.int .i64 0)]) (n1x 3 3 aL3 2 aG) := next_ok (l := aL2) (by decide) (by decide) aw_5i
theorem aw_6i : ix (opn aG 1) aL3 = -1 := by decide +kernel
theorem aw_6 : ACall Try.prog 13 [.pt 0 0, .val (.int .i64 1)] (n1x 3 3 aL3 2 aG) 3 (.tup [.agg (pC zPk), .val (.int .i64 9)]) (n1x 3 3 aL3 2 aG) := next_none (l := aL3) (by decide) (by decide) aw_6i
theorem aw_7i : at' aL3 2 = (1 : Nat) := by decide +kernel
theorem aw_7 : ACall Try.prog 18 [.pt 0 0, .val (.int .i64 2)] (n1x 3 3 aL3 2 aG) 3 (.tup [.agg (pC zPk), .val (.int .i64 10)]) (n1x 3 3 aL3 2 aG) := take_shut (l := aL3) (by decide) aw_7i (by decide +kernel)
theorem aw_8i : at' aL3 0 = (0 : Nat) := by decide +kernel
theorem aw_8 : ACall Try.prog 19 [.pt 0 0, .val (.int .i64 0)] (n1x 3 3 aL3 2 aG) 2 (.val (.int .i64 0)) (n1x 3 4 aL4 3 aG) := rep_ok (l := aL3) (by decide) aw_8i (by decide) (by decide) (by decide) (by decide)
theorem aw_9i : wt aL4 1 aL4.length = aL5 := rfl
theorem aw_9 : ACall Try.prog 16 [.pt 0 0, .val (.int .i64 1)] (n1x 3 4 aL4 3 aG) 3 (.sl 3 0 2 24) (n1x 3 4 aL4 3 aG ++ [.cells (cR aL5) 41]) := wait_some (l := aL4) (a := 1) (by decide) (by rw [aw_9i]; decide)
def awS : Nat → St
  | 0 => ⟨106, 0, [(1,.pt 0 0), (26,.sl 2 0 3 2), (27,.val (.int .i64 3)), (28,.val (.int .i64 0))], [(0, some (.cells [.val (.int .i64 3), .val (.int .i64 0), .isl true [] 0, .mp 1] 80)), (1, some (.map true 2 (bV []))), (2, some (.cells [.val (.int .i64 0), .val (.int .i64 1), .val (.int .i64 2), .val (.int .i64 1), .val (.int .i64 0), .val (.int .i64 2)] 76))]⟩
  | 1 => ⟨106, 0, [(1,.pt 0 0), (26,.sl 2 0 3 2), (27,.val (.int .i64 3)), (28,.val (.int .i64 1))], [(0, some (.cells [.val (.int .i64 3), .val (.int .i64 1), .sl 3 0 1 24, .mp 1] 80)), (1, some (.map true 2 (bV []))), (2, some (.cells [.val (.int .i64 0), .val (.int .i64 1), .val (.int .i64 2), .val (.int .i64 1), .val (.int .i64 0), .val (.int .i64 2)] 76)), (3, some (.cells (cR aL0) 41))]⟩
  | 2 => ⟨106, 0, [(1,.pt 0 0), (26,.sl 2 0 3 2), (27,.val (.int .i64 3)), (28,.val (.int .i64 2))], [(0, some (.cells [.val (.int .i64 3), .val (.int .i64 2), .sl 3 0 2 24, .mp 1] 80)), (1, some (.map true 2 (bV []))), (2, some (.cells [.val (.int .i64 0), .val (.int .i64 1), .val (.int .i64 2), .val (.int .i64 1), .val (.int .i64 0), .val (.int .i64 2)] 76)), (3, some (.cells (cR aL1) 41))]⟩
  | _ => ⟨106, 0, [(1,.pt 0 0), (26,.sl 2 0 3 2), (27,.val (.int .i64 3)), (28,.val (.int .i64 3))], [(0, some (.cells [.val (.int .i64 3), .val (.int .i64 3), .sl 3 0 3 24, .mp 1] 80)), (1, some (.map true 2 (bV []))), (2, some (.cells [.val (.int .i64 0), .val (.int .i64 1), .val (.int .i64 2), .val (.int .i64 1), .val (.int .i64 0), .val (.int .i64 2)] 76)), (3, some (.cells (cR aL2) 41))]⟩
def awI (j : {j : Nat // j ≤ 3}) : St := awS j.val
theorem awS_0 : awS 0 = ⟨106, 0, [(1,.pt 0 0), (26,.sl 2 0 3 2), (27,.val (.int .i64 3)), (28,.val (.int .i64 0))], [(0, some (.cells [.val (.int .i64 3), .val (.int .i64 0), .isl true [] 0, .mp 1] 80)), (1, some (.map true 2 (bV []))), (2, some (.cells [.val (.int .i64 0), .val (.int .i64 1), .val (.int .i64 2), .val (.int .i64 1), .val (.int .i64 0), .val (.int .i64 2)] 76))]⟩ := rfl
theorem awS_1 : awS 1 = ⟨106, 0, [(1,.pt 0 0), (26,.sl 2 0 3 2), (27,.val (.int .i64 3)), (28,.val (.int .i64 1))], [(0, some (.cells [.val (.int .i64 3), .val (.int .i64 1), .sl 3 0 1 24, .mp 1] 80)), (1, some (.map true 2 (bV []))), (2, some (.cells [.val (.int .i64 0), .val (.int .i64 1), .val (.int .i64 2), .val (.int .i64 1), .val (.int .i64 0), .val (.int .i64 2)] 76)), (3, some (.cells (cR aL0) 41))]⟩ := rfl
theorem awS_2 : awS 2 = ⟨106, 0, [(1,.pt 0 0), (26,.sl 2 0 3 2), (27,.val (.int .i64 3)), (28,.val (.int .i64 2))], [(0, some (.cells [.val (.int .i64 3), .val (.int .i64 2), .sl 3 0 2 24, .mp 1] 80)), (1, some (.map true 2 (bV []))), (2, some (.cells [.val (.int .i64 0), .val (.int .i64 1), .val (.int .i64 2), .val (.int .i64 1), .val (.int .i64 0), .val (.int .i64 2)] 76)), (3, some (.cells (cR aL1) 41))]⟩ := rfl
theorem awS_3 : awS 3 = ⟨106, 0, [(1,.pt 0 0), (26,.sl 2 0 3 2), (27,.val (.int .i64 3)), (28,.val (.int .i64 3))], [(0, some (.cells [.val (.int .i64 3), .val (.int .i64 3), .sl 3 0 3 24, .mp 1] 80)), (1, some (.map true 2 (bV []))), (2, some (.cells [.val (.int .i64 0), .val (.int .i64 1), .val (.int .i64 2), .val (.int .i64 1), .val (.int .i64 0), .val (.int .i64 2)] 76)), (3, some (.cells (cR aL2) 41))]⟩ := rfl
theorem a5_0 : (cR aL5)[0]? = some (.val (.int .i64 0)) := rfl
theorem a5_1 : (cR aL5)[24]? = some (.val (.int .i64 3)) := rfl
theorem a5_l : (cR aL5).length = 48 := rfl
theorem new_3 : ACall Try.prog 11 [.val (.int .i64 3)] [] 0 (.tup [.pt 0 0, .val (.int .i64 0)]) (n0 3 0 []) := new_ok (by decide)
theorem awake_ok : ACall Try.prog 10 [] [] 0 (.val (.bool true)) [] := by
  refine ACall.enter Try.func10 rfl (by simp [Try.ntmps10]) (by simp) ?_
  simp only [entry, idx, Try.ntmps10, List.length, List.map_cons, List.map_nil, List.append_nil, List.cons_append, List.nil_append, Nat.reduceAdd, Nat.zero_add, List.length_cons, List.length_nil]
  repeat' (first
    | (refine AC_loop_id ?_; refine AC_loop' [0,1,2,9] ([0,1,2,9].length) (awI) (fun j => 3 - j.val) (⟨0, by omega⟩) rfl (by unfold awI; (try simp only [List.cons_append, List.nil_append]); refine Sub.mk2 ?_; (simp (dsimp := false) (disch := first | exact vD | fail) only [push_cast, List.reduceReplicate, Nat.reduceAdd, Nat.reduceMul, Nat.reduceSub, Nat.reduceEqDiff, Nat.reduceLT, Nat.reduceLeDiff, Nat.reduceBEq, Int.reduceToNat, Int.reduceEq, Int.reduceLT, Int.reduceLE, Int.reduceAdd, Int.reduceSub, Int.reduceMul, ↓reduceIte, reduceCtorEq, n0, n1x, awS_0, awS_1, awS_2, awS_3, amc, pz, ak, pC, mC, am, a5_0, a5_1, a5_l]); (repeat (refine aI ?_)); (first | done | (first | exact vI | fail)); done) ?_; (rintro ⟨j, hj⟩; rcases (show j = 0 ∨ j = 1 ∨ j = 2 ∨ j = 3 by omega) with rfl | rfl | rfl | rfl <;> (simp (dsimp := false) (disch := first | exact vD | fail) only [push_cast, List.reduceReplicate, Nat.reduceAdd, Nat.reduceMul, Nat.reduceSub, Nat.reduceEqDiff, Nat.reduceLT, Nat.reduceLeDiff, Nat.reduceBEq, Int.reduceToNat, Int.reduceEq, Int.reduceLT, Int.reduceLE, Int.reduceAdd, Int.reduceSub, Int.reduceMul, ↓reduceIte, reduceCtorEq, awI, awS_0, awS_1, awS_2, awS_3])))
    | (refine Nxt_id ?_; refine Nxt.mk [0,1,2,5] (⟨1, by omega⟩) rfl (by unfold awI; (try simp only [List.cons_append, List.nil_append]); refine Sub.mk2 ?_; (simp (dsimp := false) (disch := first | exact vD | fail) only [push_cast, List.reduceReplicate, Nat.reduceAdd, Nat.reduceMul, Nat.reduceSub, Nat.reduceEqDiff, Nat.reduceLT, Nat.reduceLeDiff, Nat.reduceBEq, Int.reduceToNat, Int.reduceEq, Int.reduceLT, Int.reduceLE, Int.reduceAdd, Int.reduceSub, Int.reduceMul, ↓reduceIte, reduceCtorEq, n0, n1x, awS_0, awS_1, awS_2, awS_3, amc, pz, ak, pC, mC, am, a5_0, a5_1, a5_l]); (repeat (refine aI ?_)); (first | done | (first | exact vI | fail)); done) (by first | omega | (simp; done) | (simp; omega)))
    | (refine Nxt_id ?_; refine Nxt.mk [0,1,2,5] (⟨2, by omega⟩) rfl (by unfold awI; (try simp only [List.cons_append, List.nil_append]); refine Sub.mk2 ?_; (simp (dsimp := false) (disch := first | exact vD | fail) only [push_cast, List.reduceReplicate, Nat.reduceAdd, Nat.reduceMul, Nat.reduceSub, Nat.reduceEqDiff, Nat.reduceLT, Nat.reduceLeDiff, Nat.reduceBEq, Int.reduceToNat, Int.reduceEq, Int.reduceLT, Int.reduceLE, Int.reduceAdd, Int.reduceSub, Int.reduceMul, ↓reduceIte, reduceCtorEq, n0, n1x, awS_0, awS_1, awS_2, awS_3, amc, pz, ak, pC, mC, am, a5_0, a5_1, a5_l]); (repeat (refine aI ?_)); (first | done | (first | exact vI | fail)); done) (by first | omega | (simp; done) | (simp; omega)))
    | (refine Nxt_id ?_; refine Nxt.mk [0,1,2,5] (⟨3, by omega⟩) rfl (by unfold awI; (try simp only [List.cons_append, List.nil_append]); refine Sub.mk2 ?_; (simp (dsimp := false) (disch := first | exact vD | fail) only [push_cast, List.reduceReplicate, Nat.reduceAdd, Nat.reduceMul, Nat.reduceSub, Nat.reduceEqDiff, Nat.reduceLT, Nat.reduceLeDiff, Nat.reduceBEq, Int.reduceToNat, Int.reduceEq, Int.reduceLT, Int.reduceLE, Int.reduceAdd, Int.reduceSub, Int.reduceMul, ↓reduceIte, reduceCtorEq, n0, n1x, awS_0, awS_1, awS_2, awS_3, amc, pz, ak, pC, mC, am, a5_0, a5_1, a5_l]); (repeat (refine aI ?_)); (first | done | (first | exact vI | fail)); done) (by first | omega | (simp; done) | (simp; omega)))
    | (refine AC_seq ?_)
    | (refine AC_region_lit ?_)
    | ((first | refine AL_go rfl (fun K hK => ?_) | refine AL_go0 (fun K hK => ?_))
       (first | refine R_callG (f := 11) [] 0 false ?_ | refine R_callG (f := 17) [0,1,3] 3 false ?_ | refine R_callG (f := 13) (dst := some 46) [0,1,3] 3 false ?_ | refine R_callG (f := 13) (dst := some 51) [0,1,3] 3 false ?_ | refine R_callG (f := 18) [0,1,3] 3 false ?_ | refine R_callG (f := 19) [0,1,3] 2 false ?_ | refine R_callG (f := 16) [0,1,7] 3 false ?_)
       simp (dsimp := false) (disch := first | exact vD | fail) only [push_cast, List.reduceReplicate, Nat.reduceAdd, Nat.reduceMul, Nat.reduceSub, Nat.reduceEqDiff, Nat.reduceLT, Nat.reduceLeDiff, Nat.reduceBEq, Int.reduceToNat, Int.reduceEq, Int.reduceLT, Int.reduceLE, Int.reduceAdd, Int.reduceSub, Int.reduceMul, ↓reduceIte, reduceCtorEq, n0, n1x, awS_0, awS_1, awS_2, awS_3, amc, pz, ak, pC, mC, am, a5_0, a5_1, a5_l]
       (repeat (refine aI ?_)); intro G hG; refine hG _ _ ?_; clear hG G
       (first | refine ⟨_, _, new_3, ?_⟩ | refine ⟨_, _, aw_4, ?_⟩ | refine ⟨_, _, aw_5, ?_⟩ | refine ⟨_, _, aw_6, ?_⟩ | refine ⟨_, _, aw_7, ?_⟩ | refine ⟨_, _, aw_8, ?_⟩ | refine ⟨_, _, aw_9, ?_⟩)
       simp (dsimp := false) (disch := first | exact vD | fail) only [push_cast, List.reduceReplicate, Nat.reduceAdd, Nat.reduceMul, Nat.reduceSub, Nat.reduceEqDiff, Nat.reduceLT, Nat.reduceLeDiff, Nat.reduceBEq, Int.reduceToNat, Int.reduceEq, Int.reduceLT, Int.reduceLE, Int.reduceAdd, Int.reduceSub, Int.reduceMul, ↓reduceIte, reduceCtorEq, n0, n1x, awS_0, awS_1, awS_2, awS_3, amc, pz, ak, pC, mC, am, a5_0, a5_1, a5_l]
       (repeat (refine aI ?_)); (first | refine hK _ _ _ ?_ | refine hK _ _ ?_); clear hK K)
    | ((first | refine AL_go rfl (fun K hK => ?_) | refine AL_go0 (fun K hK => ?_))
       (first
        | (refine R_callG (f := 12) [0,1] 2 false ?_
           simp (dsimp := false) (disch := first | exact vD | fail) only [push_cast, List.reduceReplicate, Nat.reduceAdd, Nat.reduceMul, Nat.reduceSub, Nat.reduceEqDiff, Nat.reduceLT, Nat.reduceLeDiff, Nat.reduceBEq, Int.reduceToNat, Int.reduceEq, Int.reduceLT, Int.reduceLE, Int.reduceAdd, Int.reduceSub, Int.reduceMul, ↓reduceIte, reduceCtorEq, n0, n1x, awS_0, awS_1, awS_2, awS_3, amc, pz, ak, pC, mC, am, a5_0, a5_1, a5_l]
           (repeat (refine aI ?_)); intro G hG; refine hG _ _ ?_; clear hG G
           refine ⟨_, _, aw_1, ?_⟩
           simp (dsimp := false) (disch := first | exact vD | fail) only [push_cast, List.reduceReplicate, Nat.reduceAdd, Nat.reduceMul, Nat.reduceSub, Nat.reduceEqDiff, Nat.reduceLT, Nat.reduceLeDiff, Nat.reduceBEq, Int.reduceToNat, Int.reduceEq, Int.reduceLT, Int.reduceLE, Int.reduceAdd, Int.reduceSub, Int.reduceMul, ↓reduceIte, reduceCtorEq, n0, n1x, awS_0, awS_1, awS_2, awS_3, amc, pz, ak, pC, mC, am, a5_0, a5_1, a5_l]
           (repeat (refine aI ?_)); (first | refine hK _ _ _ ?_ | refine hK _ _ ?_); clear hK K)
        | (refine R_callG (f := 12) [0,1,3] 2 false ?_
           simp (dsimp := false) (disch := first | exact vD | fail) only [push_cast, List.reduceReplicate, Nat.reduceAdd, Nat.reduceMul, Nat.reduceSub, Nat.reduceEqDiff, Nat.reduceLT, Nat.reduceLeDiff, Nat.reduceBEq, Int.reduceToNat, Int.reduceEq, Int.reduceLT, Int.reduceLE, Int.reduceAdd, Int.reduceSub, Int.reduceMul, ↓reduceIte, reduceCtorEq, n0, n1x, awS_0, awS_1, awS_2, awS_3, amc, pz, ak, pC, mC, am, a5_0, a5_1, a5_l]
           (repeat (refine aI ?_)); intro G hG; refine hG _ _ ?_; clear hG G
           refine ⟨_, _, aw_2, ?_⟩
           simp (dsimp := false) (disch := first | exact vD | fail) only [push_cast, List.reduceReplicate, Nat.reduceAdd, Nat.reduceMul, Nat.reduceSub, Nat.reduceEqDiff, Nat.reduceLT, Nat.reduceLeDiff, Nat.reduceBEq, Int.reduceToNat, Int.reduceEq, Int.reduceLT, Int.reduceLE, Int.reduceAdd, Int.reduceSub, Int.reduceMul, ↓reduceIte, reduceCtorEq, n0, n1x, awS_0, awS_1, awS_2, awS_3, amc, pz, ak, pC, mC, am, a5_0, a5_1, a5_l]
           (repeat (refine aI ?_)); (first | refine hK _ _ _ ?_ | refine hK _ _ ?_); clear hK K)
        | (refine R_callG (f := 12) [0,1,3] 2 false ?_
           simp (dsimp := false) (disch := first | exact vD | fail) only [push_cast, List.reduceReplicate, Nat.reduceAdd, Nat.reduceMul, Nat.reduceSub, Nat.reduceEqDiff, Nat.reduceLT, Nat.reduceLeDiff, Nat.reduceBEq, Int.reduceToNat, Int.reduceEq, Int.reduceLT, Int.reduceLE, Int.reduceAdd, Int.reduceSub, Int.reduceMul, ↓reduceIte, reduceCtorEq, n0, n1x, awS_0, awS_1, awS_2, awS_3, amc, pz, ak, pC, mC, am, a5_0, a5_1, a5_l]
           (repeat (refine aI ?_)); intro G hG; refine hG _ _ ?_; clear hG G
           refine ⟨_, _, aw_3, ?_⟩
           simp (dsimp := false) (disch := first | exact vD | fail) only [push_cast, List.reduceReplicate, Nat.reduceAdd, Nat.reduceMul, Nat.reduceSub, Nat.reduceEqDiff, Nat.reduceLT, Nat.reduceLeDiff, Nat.reduceBEq, Int.reduceToNat, Int.reduceEq, Int.reduceLT, Int.reduceLE, Int.reduceAdd, Int.reduceSub, Int.reduceMul, ↓reduceIte, reduceCtorEq, n0, n1x, awS_0, awS_1, awS_2, awS_3, amc, pz, ak, pC, mC, am, a5_0, a5_1, a5_l]
           (repeat (refine aI ?_)); (first | refine hK _ _ _ ?_ | refine hK _ _ ?_); clear hK K)))
    | ((first | refine AL_go rfl (fun K hK => ?_) | refine AL_go0 (fun K hK => ?_))
       (first | refine R_move _ ?_ | refine R_assign _ ?_ | refine Q_load _ _ ?_ | refine Q_loadAgg _ _ ?_ | refine Q_fieldAddr _ _ _ ?_ | refine Q_indexAddr _ _ _ ?_ | refine Q_indexArr _ _ _ ?_ | refine Q_len _ _ ?_ | refine Q_lenStr _ _ ?_ | refine Q_pick _ _ _ ?_ | refine Q_extract _ _ ?_ | refine R_alloc _ ?_ | refine Q_store _ _ _ ?_ | refine Q_build _ _ ?_ | refine Q_buildArr _ _ ?_ | refine Q_buildSlice _ _ _ ?_ | refine Q_eqAgg _ _ _ _ ?_ | refine Q_neqAgg _ _ _ _ ?_ | refine Q_neqSelf _ _ _ _ ?_ | refine Q_bin _ _ _ _ _ ?_)
       simp (dsimp := false) (disch := first | exact vD | fail) only [push_cast, List.reduceReplicate, Nat.reduceAdd, Nat.reduceMul, Nat.reduceSub, Nat.reduceEqDiff, Nat.reduceLT, Nat.reduceLeDiff, Nat.reduceBEq, Int.reduceToNat, Int.reduceEq, Int.reduceLT, Int.reduceLE, Int.reduceAdd, Int.reduceSub, Int.reduceMul, ↓reduceIte, reduceCtorEq, n0, n1x, awS_0, awS_1, awS_2, awS_3, amc, pz, ak, pC, mC, am, a5_0, a5_1, a5_l]
       (repeat (refine aI ?_)); (first | refine hK _ _ _ ?_ | refine hK _ _ ?_); clear hK K)
    | ((first | refine AL_go rfl (fun K hK => ?_) | refine AL_go0 (fun K hK => ?_))
       (first | refine Q_eqnil _ _ _ _ ?_ | refine Q_neqnil _ _ _ _ ?_)
       simp (dsimp := false) (disch := first | exact vD | fail) only [push_cast, List.reduceReplicate, Nat.reduceAdd, Nat.reduceMul, Nat.reduceSub, Nat.reduceEqDiff, Nat.reduceLT, Nat.reduceLeDiff, Nat.reduceBEq, Int.reduceToNat, Int.reduceEq, Int.reduceLT, Int.reduceLE, Int.reduceAdd, Int.reduceSub, Int.reduceMul, ↓reduceIte, reduceCtorEq, n0, n1x, awS_0, awS_1, awS_2, awS_3, amc, pz, ak, pC, mC, am, a5_0, a5_1, a5_l]
       (repeat (refine aI ?_)); (first | refine hK _ _ _ ?_ | refine hK _ _ ?_); clear hK K)
    | ((first | refine AL_guard rfl rfl (fun K1 K2 h1 h2 => ?_) rfl | refine AC_cond_k (fun K1 K2 h1 h2 => ?_))
       simp (dsimp := false) (disch := first | exact vD | fail) only [push_cast, List.reduceReplicate, Nat.reduceAdd, Nat.reduceMul, Nat.reduceSub, Nat.reduceEqDiff, Nat.reduceLT, Nat.reduceLeDiff, Nat.reduceBEq, Int.reduceToNat, Int.reduceEq, Int.reduceLT, Int.reduceLE, Int.reduceAdd, Int.reduceSub, Int.reduceMul, ↓reduceIte, reduceCtorEq, n0, n1x, awS_0, awS_1, awS_2, awS_3, amc, pz, ak, pC, mC, am, a5_0, a5_1, a5_l]
       first | (refine ⟨fun hc => ?_, fun hc => ?_⟩ <;> first | (exfalso; omega) | (exfalso; contradiction) | refine h1 ?_ | refine h2 ?_) | refine h1 ?_ | refine h2 ?_
       all_goals clear h1 h2 K1 K2)
    | (refine AL_nil ?_) | (refine Thn_normal ?_) | (refine Thn_ret ?_) | (refine Thn_exit ?_) | (refine Blk_normal ?_) | (refine Blk_ret ?_) | (refine Blk_here ?_) | (refine Blk_other rfl ?_) | (refine AC_block ?_) | (refine AC_exit ?_) | (refine AC_skip ?_) | (refine AC_ret ?_))
  all_goals (refine Ends.mk2 (by first | exact .inr rfl | exact .inl rfl) [] ?_; simp (dsimp := false) (disch := first | exact vD | fail) only [push_cast, List.reduceReplicate, Nat.reduceAdd, Nat.reduceMul, Nat.reduceSub, Nat.reduceEqDiff, Nat.reduceLT, Nat.reduceLeDiff, Nat.reduceBEq, Int.reduceToNat, Int.reduceEq, Int.reduceLT, Int.reduceLE, Int.reduceAdd, Int.reduceSub, Int.reduceMul, ↓reduceIte, reduceCtorEq, Try.f10]; (repeat (refine aI ?_)); try (first | exact vI | fail))
end Go.Proofs.Ytphpjgfhdoobjaa
