/- The clock: the law ClockSteps as calls. No condition. -/
import Derived.Test.YtipmfcpmbkopeaaLawClockF
import Derived.Test.YtipmfcpmbkopeaaLawClockG
import Derived.Test.YtipmfcpmbkopeaaLawClockH
import Derived.Test.YtipmfcpmbkopeaaLawClockI
import Derived.Test.YtipmfcpmbkopeaaLawClockJ
import Derived.Test.YtipmfcpmbkopeaaLawClockK
import Derived.Test.YtipmfcpmbkopeaaLawClockL
set_option linter.unusedVariables false
set_option linter.unusedSectionVars false
set_option linter.unusedSimpArgs false
set_option maxHeartbeats 2000000
set_option maxRecDepth 20000
namespace Go.Proofs.Ytipmfcpmbkopeaa
open Go Go.Sy
attribute [local irreducible] AO AL AC OpT ACall Ends DGo DRun Thn Blk Nxt
variable {z : Bool} {l : List OpC} {now a b c : Int} {L : List Tm} {zr : Bool} {i j k n : Nat}

theorem ids_two' (h1 : bh L a = i) (h2 : bh (L.drop i) b = k) (h : a ≤ b) : ids L (i + k) = ids L i ++ ids (L.drop i) k ∧ bh L b = i + k := by
  subst h1; subst h2
  have e := bh_two (l := L) h
  rw [ids_two h, e]; exact ⟨rfl, rfl⟩
theorem steps_big (hl : l.length < 2^45) (h : 60 < l.length) : ACall Try.prog 5 [.isl z (cR l) l.length, .val (.int .u16 a), .val (.int .u16 b)] [] 0 (.val (.bool true)) [] := by
  refine ACall.enter Try.func5 rfl (by simp [Try.ntmps5]) (by simp) ?_
  simp only [entry, idx, Try.ntmps5, List.length, List.map_cons, List.map_nil, List.append_nil, List.cons_append, List.nil_append, Nat.reduceAdd, Nat.zero_add, List.length_cons, List.length_nil]
  repeat' (first
    | (refine AC_seq ?_)
    | (refine AC_region_lit ?_)
    | ((first | refine AL_go rfl (fun K hK => ?_) | refine AL_go0 (fun K hK => ?_) | refine DG_run (fun K hK => ?_))
       (first | refine R_callG (f := 11) [] 0 false ?_)
       simp (dsimp := false) (disch := first | omega | assumption | (simp only [List.length_cons, List.length_nil, Go.Sy.cS_len, Go.Sy.cB_len, Go.Sy.cI_len, List.length_replicate, List.length_map, List.length_append, List.length_set, List.length_take, List.length_drop, Go.Sy.splR_length]; done) | (simp only [List.length_cons, List.length_nil, Go.Sy.cS_len, Go.Sy.cB_len, Go.Sy.cI_len, List.length_replicate, List.length_map, List.length_append, List.length_set, List.length_take, List.length_drop, Go.Sy.splR_length]; omega)) only [push_cast, List.reduceReplicate, Nat.reduceAdd, Nat.reduceMul, Nat.reduceSub, Nat.reduceEqDiff, Nat.reduceLT, Nat.reduceLeDiff, Nat.reduceBEq, Int.reduceToNat, Int.reduceEq, Int.reduceLT, Int.reduceLE, Int.reduceAdd, Int.reduceSub, Int.reduceMul, ↓reduceIte, reduceCtorEq]
       (repeat (refine And.intro (by (first | omega | assumption | ((try clear hK); first | (simp; done) | (simp; omega) | (simp_all; done) | ((try simp); split <;> first | omega | (simp_all; done) | (simp_all; omega))))) ?_)); intro G hG; refine hG _ _ ?_; clear hG G
       (first | refine ⟨_, _, awake_ok, ?_⟩)
       simp (dsimp := false) (disch := first | omega | assumption | (simp only [List.length_cons, List.length_nil, Go.Sy.cS_len, Go.Sy.cB_len, Go.Sy.cI_len, List.length_replicate, List.length_map, List.length_append, List.length_set, List.length_take, List.length_drop, Go.Sy.splR_length]; done) | (simp only [List.length_cons, List.length_nil, Go.Sy.cS_len, Go.Sy.cB_len, Go.Sy.cI_len, List.length_replicate, List.length_map, List.length_append, List.length_set, List.length_take, List.length_drop, Go.Sy.splR_length]; omega)) only [push_cast, List.reduceReplicate, Nat.reduceAdd, Nat.reduceMul, Nat.reduceSub, Nat.reduceEqDiff, Nat.reduceLT, Nat.reduceLeDiff, Nat.reduceBEq, Int.reduceToNat, Int.reduceEq, Int.reduceLT, Int.reduceLE, Int.reduceAdd, Int.reduceSub, Int.reduceMul, ↓reduceIte, reduceCtorEq]
       (repeat (refine And.intro (by (first | omega | assumption | ((try clear hK); first | (simp; done) | (simp; omega) | (simp_all; done) | ((try simp); split <;> first | omega | (simp_all; done) | (simp_all; omega))))) ?_)); (first | refine hK _ _ _ ?_ | refine hK _ _ ?_); clear hK K)
    | ((first | refine AL_go rfl (fun K hK => ?_) | refine AL_go0 (fun K hK => ?_) | refine DG_run (fun K hK => ?_))
       (first | refine R_move _ ?_ | refine R_assign _ ?_ | refine Q_load _ _ ?_ | refine Q_loadAgg _ _ ?_ | refine Q_fieldAddr _ _ _ ?_ | refine Q_len _ _ ?_ | refine Q_lenStr _ _ ?_ | refine Q_pick _ _ _ ?_ | refine Q_not _ _ ?_ | refine Q_neg _ _ ?_ | refine Q_extract _ _ ?_ | refine R_alloc _ ?_ | refine Q_store _ _ _ ?_ | refine Q_convert _ _ _ ?_ | refine Q_eqAgg _ _ _ _ ?_ | refine Q_neqAgg _ _ _ _ ?_ | refine Q_neqSelf _ _ _ _ ?_ | refine Q_bin _ _ _ _ _ ?_ | refine Q_appendNil _ _ _ ?_)
       simp (dsimp := false) (disch := first | omega | assumption | (simp only [List.length_cons, List.length_nil, Go.Sy.cS_len, Go.Sy.cB_len, Go.Sy.cI_len, List.length_replicate, List.length_map, List.length_append, List.length_set, List.length_take, List.length_drop, Go.Sy.splR_length]; done) | (simp only [List.length_cons, List.length_nil, Go.Sy.cS_len, Go.Sy.cB_len, Go.Sy.cI_len, List.length_replicate, List.length_map, List.length_append, List.length_set, List.length_take, List.length_drop, Go.Sy.splR_length]; omega)) only [push_cast, List.reduceReplicate, Nat.reduceAdd, Nat.reduceMul, Nat.reduceSub, Nat.reduceEqDiff, Nat.reduceLT, Nat.reduceLeDiff, Nat.reduceBEq, Int.reduceToNat, Int.reduceEq, Int.reduceLT, Int.reduceLE, Int.reduceAdd, Int.reduceSub, Int.reduceMul, ↓reduceIte, reduceCtorEq]
       (repeat (refine And.intro (by (first | omega | assumption | ((try clear hK); first | (simp; done) | (simp; omega) | (simp_all; done) | ((try simp); split <;> first | omega | (simp_all; done) | (simp_all; omega))))) ?_)); (first | refine hK _ _ _ ?_ | refine hK _ _ ?_); clear hK K)
    | ((first | refine AL_go rfl (fun K hK => ?_) | refine AL_go0 (fun K hK => ?_) | refine DG_run (fun K hK => ?_))
       (first | refine Q_append _ _ _ ?_)
       simp (dsimp := false) (disch := first | omega | assumption | (simp only [List.length_cons, List.length_nil, Go.Sy.cS_len, Go.Sy.cB_len, Go.Sy.cI_len, List.length_replicate, List.length_map, List.length_append, List.length_set, List.length_take, List.length_drop, Go.Sy.splR_length]; done) | (simp only [List.length_cons, List.length_nil, Go.Sy.cS_len, Go.Sy.cB_len, Go.Sy.cI_len, List.length_replicate, List.length_map, List.length_append, List.length_set, List.length_take, List.length_drop, Go.Sy.splR_length]; omega)) only [push_cast, List.reduceReplicate, Nat.reduceAdd, Nat.reduceMul, Nat.reduceSub, Nat.reduceEqDiff, Nat.reduceLT, Nat.reduceLeDiff, Nat.reduceBEq, Int.reduceToNat, Int.reduceEq, Int.reduceLT, Int.reduceLE, Int.reduceAdd, Int.reduceSub, Int.reduceMul, ↓reduceIte, reduceCtorEq]
       (repeat (refine And.intro (by (first | omega | assumption | ((try clear hK); first | (simp; done) | (simp; omega) | (simp_all; done) | ((try simp); split <;> first | omega | (simp_all; done) | (simp_all; omega))))) ?_)); (first | refine hK _ _ _ ?_ | refine hK _ _ ?_); clear hK K)
    | ((first | refine AL_go rfl (fun K hK => ?_) | refine AL_go0 (fun K hK => ?_) | refine DG_run (fun K hK => ?_))
       (first | refine Q_append00 _ _ _ ?_)
       simp (dsimp := false) (disch := first | omega | assumption | (simp only [List.length_cons, List.length_nil, Go.Sy.cS_len, Go.Sy.cB_len, Go.Sy.cI_len, List.length_replicate, List.length_map, List.length_append, List.length_set, List.length_take, List.length_drop, Go.Sy.splR_length]; done) | (simp only [List.length_cons, List.length_nil, Go.Sy.cS_len, Go.Sy.cB_len, Go.Sy.cI_len, List.length_replicate, List.length_map, List.length_append, List.length_set, List.length_take, List.length_drop, Go.Sy.splR_length]; omega)) only [push_cast, List.reduceReplicate, Nat.reduceAdd, Nat.reduceMul, Nat.reduceSub, Nat.reduceEqDiff, Nat.reduceLT, Nat.reduceLeDiff, Nat.reduceBEq, Int.reduceToNat, Int.reduceEq, Int.reduceLT, Int.reduceLE, Int.reduceAdd, Int.reduceSub, Int.reduceMul, ↓reduceIte, reduceCtorEq]
       (repeat (refine And.intro (by (first | omega | assumption | ((try clear hK); first | (simp; done) | (simp; omega) | (simp_all; done) | ((try simp); split <;> first | omega | (simp_all; done) | (simp_all; omega))))) ?_)); (first | refine hK _ _ _ ?_ | refine hK _ _ ?_); clear hK K)
    | ((first | refine AL_go rfl (fun K hK => ?_) | refine AL_go0 (fun K hK => ?_) | refine DG_run (fun K hK => ?_))
       (first | refine Q_appendIn _ _ _ ?_)
       simp (dsimp := false) (disch := first | omega | assumption | (simp only [List.length_cons, List.length_nil, Go.Sy.cS_len, Go.Sy.cB_len, Go.Sy.cI_len, List.length_replicate, List.length_map, List.length_append, List.length_set, List.length_take, List.length_drop, Go.Sy.splR_length]; done) | (simp only [List.length_cons, List.length_nil, Go.Sy.cS_len, Go.Sy.cB_len, Go.Sy.cI_len, List.length_replicate, List.length_map, List.length_append, List.length_set, List.length_take, List.length_drop, Go.Sy.splR_length]; omega)) only [push_cast, List.reduceReplicate, Nat.reduceAdd, Nat.reduceMul, Nat.reduceSub, Nat.reduceEqDiff, Nat.reduceLT, Nat.reduceLeDiff, Nat.reduceBEq, Int.reduceToNat, Int.reduceEq, Int.reduceLT, Int.reduceLE, Int.reduceAdd, Int.reduceSub, Int.reduceMul, ↓reduceIte, reduceCtorEq]
       (repeat (refine And.intro (by (first | omega | assumption | ((try clear hK); first | (simp; done) | (simp; omega) | (simp_all; done) | ((try simp); split <;> first | omega | (simp_all; done) | (simp_all; omega))))) ?_)); (first | refine hK _ _ _ ?_ | refine hK _ _ ?_); clear hK K)
    | ((first | refine AL_guard rfl rfl (fun K1 K2 h1 h2 => ?_) rfl | refine AC_cond_k (fun K1 K2 h1 h2 => ?_) | refine DG_guard rfl rfl (fun K1 K2 h1 h2 => ?_))
       simp (dsimp := false) (disch := first | omega | assumption | (simp only [List.length_cons, List.length_nil, Go.Sy.cS_len, Go.Sy.cB_len, Go.Sy.cI_len, List.length_replicate, List.length_map, List.length_append, List.length_set, List.length_take, List.length_drop, Go.Sy.splR_length]; done) | (simp only [List.length_cons, List.length_nil, Go.Sy.cS_len, Go.Sy.cB_len, Go.Sy.cI_len, List.length_replicate, List.length_map, List.length_append, List.length_set, List.length_take, List.length_drop, Go.Sy.splR_length]; omega)) only [push_cast, List.reduceReplicate, Nat.reduceAdd, Nat.reduceMul, Nat.reduceSub, Nat.reduceEqDiff, Nat.reduceLT, Nat.reduceLeDiff, Nat.reduceBEq, Int.reduceToNat, Int.reduceEq, Int.reduceLT, Int.reduceLE, Int.reduceAdd, Int.reduceSub, Int.reduceMul, ↓reduceIte, reduceCtorEq]
       first | (refine ⟨fun hc => ?_, fun hc => ?_⟩ <;> first | (exfalso; omega) | (exfalso; contradiction) | refine h1 ?_ | refine h2 ?_) | refine h1 ?_ | refine h2 ?_
       all_goals clear h1 h2 K1 K2)
    | (refine AC_draw (id := 7) (by kernel_rfl) [⟨0, [], [52, 53, 54, 56, 57, 58, 59, 60, 61, 62, 63, 64, 65], [], [], 0⟩, ⟨1, [0], [52, 53, 54, 56, 57, 58, 59, 60, 61, 62, 63, 64, 65], [], [], 0⟩, ⟨2, [], [50, 51, 56, 57, 58, 59, 60, 61, 62, 63, 64, 65], [], [], 0⟩, ⟨3, [2], [50, 51, 56, 57, 58, 59, 60, 61, 62, 63, 64, 65], [], [], 0⟩, ⟨4, [2, 3], [50, 51, 56, 57, 58, 59, 60, 61, 62, 63, 64, 65], [], [], 0⟩, ⟨5, [0, 1, 2, 3, 4], [56, 57, 58, 59, 60, 61, 62, 63, 64, 65], [], [], 0⟩, ⟨6, [], [13, 50, 51, 52, 53, 54, 55, 58, 59, 60, 62, 63, 64], [], [], 0⟩, ⟨7, [6], [13, 50, 51, 52, 53, 54, 55, 58, 59, 60, 62, 63, 64], [], [], 0⟩, ⟨8, [], [13, 50, 51, 52, 53, 54, 55, 56, 57, 62, 63, 64], [], [], 0⟩, ⟨9, [8], [13, 50, 51, 52, 53, 54, 55, 56, 57, 62, 63, 64], [], [], 0⟩, ⟨10, [8, 9], [13, 50, 51, 52, 53, 54, 55, 56, 57, 62, 63, 64], [], [], 0⟩, ⟨11, [6, 7, 8, 9, 10], [13, 50, 51, 52, 53, 54, 55, 62, 63, 64], [], [], 0⟩, ⟨12, [], [13, 50, 51, 52, 53, 54, 55, 56, 57, 58, 59, 60, 61], [], [], 0⟩, ⟨13, [12], [13, 50, 51, 52, 53, 54, 55, 56, 57, 58, 59, 60, 61], [], [], 0⟩, ⟨14, [12, 13], [13, 50, 51, 52, 53, 54, 55, 56, 57, 58, 59, 60, 61], [], [], 0⟩, ⟨15, [6, 7, 8, 9, 10, 11, 12, 13, 14], [13, 50, 51, 52, 53, 54, 55], [], [], 0⟩, ⟨16, [0, 1, 2, 3, 4, 5], [56, 57, 58, 59, 60, 61, 62, 63, 64, 65], [], [], 0⟩, ⟨17, [0, 1, 2, 3, 4, 5, 6, 7, 8, 9, 10, 11, 12, 13, 14, 15, 16], [], [], [], 0⟩] (by kernel_rfl) (by kernel_rfl) (by kernel_rfl) ?_)
    | (refine AC_draw (id := 14) (by kernel_rfl) [⟨0, [], [], [], [], 0⟩, ⟨1, [0], [], [], [], 0⟩, ⟨2, [0, 1], [], [], [], 0⟩, ⟨3, [0, 1, 2], [], [], [], 0⟩, ⟨4, [0, 1, 2, 3], [], [], [], 0⟩, ⟨5, [0, 1, 2, 3, 4], [], [], [], 0⟩, ⟨6, [0, 1, 2, 3, 4, 5], [], [], [], 0⟩, ⟨7, [0, 1, 2, 3, 4, 5, 6], [], [], [], 0⟩, ⟨8, [0, 1, 2, 3, 4, 5, 6, 7], [], [], [], 0⟩, ⟨9, [0, 1, 2, 3, 4, 5, 6, 7, 8], [], [], [], 0⟩, ⟨10, [0, 1, 2, 3, 4, 5, 6, 7, 8, 9], [], [], [], 0⟩, ⟨11, [0, 1, 2, 3, 4, 5, 6, 7, 8, 9, 10], [109, 111], [], [], 0⟩, ⟨12, [0, 1, 2, 3, 4, 5, 6, 7, 8, 9, 10, 11], [109, 111], [], [], 0⟩, ⟨13, [0, 1, 2, 3, 4, 5, 6, 7, 8, 9, 10], [107, 108, 111], [], [], 0⟩, ⟨14, [0, 1, 2, 3, 4, 5, 6, 7, 8, 9, 10, 11, 12, 13], [111], [], [2], 1⟩, ⟨15, [0, 1, 2, 3, 4, 5, 6, 7, 8, 9, 10], [107, 108, 109, 110], [2], [], 0⟩, ⟨16, [0, 1, 2, 3, 4, 5, 6, 7, 8, 9, 10, 11, 12, 13, 14, 15], [], [], [], 0⟩, ⟨17, [0, 1, 2, 3, 4, 5, 6, 7, 8, 9, 10, 11, 12, 13, 14, 15, 16], [], [], [], 0⟩, ⟨18, [0, 1, 2, 3, 4, 5, 6, 7, 8, 9, 10, 11, 12, 13, 14, 15, 16, 17], [], [], [], 0⟩, ⟨19, [0, 1, 2, 3, 4, 5, 6, 7, 8, 9, 10, 11, 12, 13, 14, 15, 16, 17, 18], [117], [], [], 0⟩, ⟨20, [0, 1, 2, 3, 4, 5, 6, 7, 8, 9, 10, 11, 12, 13, 14, 15, 16, 17, 18, 19], [117], [], [], 0⟩, ⟨21, [0, 1, 2, 3, 4, 5, 6, 7, 8, 9, 10, 11, 12, 13, 14, 15, 16, 17, 18], [115, 116], [], [], 0⟩, ⟨22, [0, 1, 2, 3, 4, 5, 6, 7, 8, 9, 10, 11, 12, 13, 14, 15, 16, 17, 18, 19, 20, 21], [], [], [], 0⟩, ⟨23, [0, 1, 2, 3, 4, 5, 6, 7, 8, 9, 10, 11, 12, 13, 14, 15, 16, 17, 18, 19, 20, 21, 22], [], [], [], 0⟩, ⟨24, [0, 1, 2, 3, 4, 5, 6, 7, 8, 9, 10, 11, 12, 13, 14, 15, 16, 17, 18, 19, 20, 21, 22, 23], [], [], [], 0⟩, ⟨25, [0, 1, 2, 3, 4, 5, 6, 7, 8, 9, 10, 11, 12, 13, 14, 15, 16, 17, 18, 19, 20, 21, 22, 23, 24], [], [], [], 0⟩, ⟨26, [0, 1, 2, 3, 4, 5, 6, 7, 8, 9, 10, 11, 12, 13, 14, 15, 16, 17, 18, 19, 20, 21, 22, 23, 24, 25], [124, 125], [], [], 0⟩, ⟨27, [0, 1, 2, 3, 4, 5, 6, 7, 8, 9, 10, 11, 12, 13, 14, 15, 16, 17, 18, 19, 20, 21, 22, 23, 24, 25, 26], [124, 125], [], [], 0⟩, ⟨28, [0, 1, 2, 3, 4, 5, 6, 7, 8, 9, 10, 11, 12, 13, 14, 15, 16, 17, 18, 19, 20, 21, 22, 23, 24, 25], [122, 123], [], [], 0⟩, ⟨29, [0, 1, 2, 3, 4, 5, 6, 7, 8, 9, 10, 11, 12, 13, 14, 15, 16, 17, 18, 19, 20, 21, 22, 23, 24, 25, 28], [122, 123], [], [], 0⟩, ⟨30, [0, 1, 2, 3, 4, 5, 6, 7, 8, 9, 10, 11, 12, 13, 14, 15, 16, 17, 18, 19, 20, 21, 22, 23, 24, 25, 26, 27, 28, 29], [], [], [], 0⟩, ⟨31, [0, 1, 2, 3, 4, 5, 6, 7, 8, 9, 10, 11, 12, 13, 14, 15, 16, 17, 18, 19, 20, 21, 22, 23, 24, 25, 26, 27, 28, 29, 30], [], [], [], 0⟩, ⟨32, [0, 1, 2, 3, 4, 5, 6, 7, 8, 9, 10, 11, 12, 13, 14, 15, 16, 17, 18, 19, 20, 21, 22, 23, 24, 25, 26, 27, 28, 29, 30, 31], [], [], [], 0⟩, ⟨33, [0, 1, 2, 3, 4, 5, 6, 7, 8, 9, 10, 11, 12, 13, 14, 15, 16, 17, 18, 19, 20, 21, 22, 23, 24, 25, 26, 27, 28, 29, 30, 31, 32], [131], [], [], 0⟩, ⟨34, [0, 1, 2, 3, 4, 5, 6, 7, 8, 9, 10, 11, 12, 13, 14, 15, 16, 17, 18, 19, 20, 21, 22, 23, 24, 25, 26, 27, 28, 29, 30, 31, 32, 33], [131], [], [], 0⟩, ⟨35, [0, 1, 2, 3, 4, 5, 6, 7, 8, 9, 10, 11, 12, 13, 14, 15, 16, 17, 18, 19, 20, 21, 22, 23, 24, 25, 26, 27, 28, 29, 30, 31, 32], [129, 130], [], [], 0⟩, ⟨36, [0, 1, 2, 3, 4, 5, 6, 7, 8, 9, 10, 11, 12, 13, 14, 15, 16, 17, 18, 19, 20, 21, 22, 23, 24, 25, 26, 27, 28, 29, 30, 31, 32, 33, 34, 35], [], [], [], 0⟩, ⟨37, [0, 1, 2, 3, 4, 5, 6, 7, 8, 9, 10, 11, 12, 13, 14, 15, 16, 17, 18, 19, 20, 21, 22, 23, 24, 25, 26, 27, 28, 29, 30, 31, 32, 33, 34, 35, 36], [], [], [], 0⟩, ⟨38, [0, 1, 2, 3, 4, 5, 6, 7, 8, 9, 10, 11, 12, 13, 14, 15, 16, 17, 18, 19, 20, 21, 22, 23, 24, 25, 26, 27, 28, 29, 30, 31, 32, 33, 34, 35, 36, 37], [], [], [], 0⟩, ⟨39, [0, 1, 2, 3, 4, 5, 6, 7, 8, 9, 10, 11, 12, 13, 14, 15, 16, 17, 18, 19, 20, 21, 22, 23, 24, 25, 26, 27, 28, 29, 30, 31, 32, 33, 34, 35, 36, 37, 38], [], [], [], 0⟩] (by kernel_rfl) (by kernel_rfl) (by kernel_rfl) ?_)
    | ((first | refine DG_next' (by kernel_rfl) (fun K hK => ?_) | refine DG_nil (by kernel_rfl) (fun K hK => ?_))
       simp only [↓Go.Sy.dsnE_some, ↓Go.Sy.dsnE_none, ↓Go.Sy.dsnE_nil, ↓Go.Sy.dsnO_snoc, ↓Go.Sy.dsnO_nil, ↓Go.Sy.nidAt_snoc, ↓Go.Sy.nidAt_nil, push_cast, Nat.reduceLeDiff, Nat.reduceSub, Nat.reduceBEq, Nat.reduceEqDiff, Nat.reduceAdd, Nat.reduceLT, ↓reduceIte, reduceCtorEq]
       refine hK _ _ _ ?_; clear hK K)
    | (refine DG_go ?_)
    | (refine AL_nil ?_) | (refine Thn_normal ?_) | (refine Thn_ret ?_) | (refine Thn_exit ?_) | (refine Blk_normal ?_) | (refine Blk_ret ?_) | (refine Blk_here ?_) | (refine Blk_other rfl ?_) | (refine AC_block ?_) | (refine AC_exit ?_) | (refine AC_skip ?_) | (refine AC_ret ?_))
  all_goals (refine Ends.mk2 (by first | exact .inr rfl | exact .inl rfl) [] ?_; simp (dsimp := false) (disch := first | omega | assumption | (simp only [List.length_cons, List.length_nil, Go.Sy.cS_len, Go.Sy.cB_len, Go.Sy.cI_len, List.length_replicate, List.length_map, List.length_append, List.length_set, List.length_take, List.length_drop, Go.Sy.splR_length]; done) | (simp only [List.length_cons, List.length_nil, Go.Sy.cS_len, Go.Sy.cB_len, Go.Sy.cI_len, List.length_replicate, List.length_map, List.length_append, List.length_set, List.length_take, List.length_drop, Go.Sy.splR_length]; omega)) only [push_cast, List.reduceReplicate, Nat.reduceAdd, Nat.reduceMul, Nat.reduceSub, Nat.reduceEqDiff, Nat.reduceLT, Nat.reduceLeDiff, Nat.reduceBEq, Int.reduceToNat, Int.reduceEq, Int.reduceLT, Int.reduceLE, Int.reduceAdd, Int.reduceSub, Int.reduceMul, ↓reduceIte, reduceCtorEq, Try.f5]; (repeat (refine And.intro (by (first | omega | assumption | ((try clear hK); first | (simp; done) | (simp; omega) | (simp_all; done) | ((try simp); split <;> first | omega | (simp_all; done) | (simp_all; omega))))) ?_)); try (first | omega | assumption | ((try clear hK); first | (simp; done) | (simp; omega) | (simp_all; done) | ((try simp); split <;> first | omega | (simp_all; done) | (simp_all; omega)))))
theorem steps_law (hl : l.length < 2^45) (ho : ∀ o ∈ l, okC o) (ha : 0 ≤ a ∧ a ≤ 65535) (hb : 0 ≤ b ∧ b ≤ 65535) : ACall Try.prog 5 [.isl z (cR l) l.length, .val (.int .u16 a), .val (.int .u16 b)] [] 0 (.val (.bool true)) [] := by
  obtain ⟨now, L, zr, ⟨h0, h1⟩, hT, hS, hN, hk, hL, ⟨rfl, hm⟩ | hm⟩ := made_cases hl ho
  · by_cases hp : perr now (now + a % 1000 + b % 1000) = 0
    · have hr := perr_range hp
      exact step_ok0 hl h0 h1 ha hb hp (perr_0 (by omega) (by omega)) (perr_0 (by omega) (by omega)) hm
    · exact step_bad0 hl h0 h1 ha hb hp hm
  · by_cases hp : perr now (now + a % 1000 + b % 1000) = 0
    · have hr := perr_range hp
      have hp1 : perr now (now + a % 1000) = 0 := perr_0 (by omega) (by omega)
      have hp2 : perr (now + a % 1000) (now + a % 1000 + b % 1000) = 0 := perr_0 (by omega) (by omega)
      obtain ⟨i, hi⟩ : ∃ i, bh L (now + a % 1000) = i := ⟨_, rfl⟩
      obtain ⟨k, hk⟩ : ∃ k, bh (L.drop i) (now + a % 1000 + b % 1000) = k := ⟨_, rfl⟩
      obtain ⟨e1, e2⟩ := ids_two' hi hk (by omega : now + a % 1000 ≤ now + a % 1000 + b % 1000)
      have hi1 : i ≤ L.length := by rw [← hi]; exact bh_le
      have hk1 : k ≤ (L.drop i).length := by rw [← hk]; exact bh_le
      have hk2 : k ≤ L.length := by rw [List.length_drop] at hk1; omega
      have hA := adv_1 (l := L) hp1 hL
      have hB := adv_1 (l := L.drop i) hp2 (by rw [List.length_drop]; omega)
      have hC := adv_1 (l := L) hp hL
      have hD := rAdv_ok (l := L) (z := zr) hp hL
      rw [hi] at hA; rw [hk, List.drop_drop] at hB; rw [e2, e1] at hC hD
      have hX := ids_len hi1
      have hY := ids_len hk1
      have hM : (L.drop (i + k)).length ≤ 1000 := by rw [List.length_drop]; omega
      rcases Nat.eq_zero_or_pos i with hi0 | hi0 <;> rcases Nat.eq_zero_or_pos k with hk0 | hk0
      · subst hi0; subst hk0
        exact step_zz hl h0 h1 ha hb hM hA hB hC hD hm
      · subst hi0
        rw [Nat.zero_add] at hC hD
        rw [islN_s hk0] at hB hC hD
        rw [ids_zero, List.nil_append] at hC hD
        exact step_zs hl h0 h1 ha hb hY (by rw [Nat.zero_add] at hM; exact hM) hk0 (by omega) hA (by rw [Nat.zero_add] at hB; exact hB) hC hD hm
      · subst hk0
        rw [Nat.add_zero] at hB hC hD
        rw [islN_s hi0] at hA hC hD
        rw [ids_zero, List.append_nil] at hC hD
        exact step_sz hl h0 h1 ha hb hX (by rw [Nat.add_zero] at hM; exact hM) hi0 (by omega) hA hB hC hD hm
      · rw [islN_s hi0] at hA; rw [islN_s hk0] at hB; rw [islN_s (by omega)] at hC hD
        exact step_ss hl h0 h1 ha hb hX hY hM hi0 (by omega) hk0 (by omega) hA hB hC hD hm
    · exact step_bad1 hl hL h0 h1 ha hb hp hm
end Go.Proofs.Ytipmfcpmbkopeaa
