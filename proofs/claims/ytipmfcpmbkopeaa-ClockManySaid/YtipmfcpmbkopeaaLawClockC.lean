/- The clock: the laws ClockMany and ClockOrder as calls. No condition. -/
import Derived.Test.YtipmfcpmbkopeaaClock10
set_option linter.unusedVariables false
set_option linter.unusedSectionVars false
set_option linter.unusedSimpArgs false
set_option maxHeartbeats 2000000
set_option maxRecDepth 20000
namespace Go.Proofs.Ytipmfcpmbkopeaa
open Go Go.Sy
attribute [local irreducible] AO AL AC OpT ACall Ends DGo DRun Thn Blk Nxt
variable {z : Bool} {l : List OpC} {now a b : Int} {L : List Tm} {zr : Bool}

/-! ### ClockMany -/
def mny (b : Int) : Nat → List Tm
  | 0 => []
  | j + 1 => ins (mny b j) (Int.tmod (j : Int) 7) b
theorem mny_len (j : Nat) : (mny b j).length = j := by
  induction j with
  | zero => rfl
  | succ j ih => rw [mny, ins_len, ih]
theorem mny_0 {j : Nat} (h : j = 0) : mny b j = [] := by subst h; rfl
theorem mny_id (j : Nat) : ∀ t ∈ mny b j, t.id = b := by
  induction j with
  | zero => intro t ht; cases ht
  | succ j ih =>
    intro t ht
    rw [mny, ins] at ht
    rcases List.mem_append.1 ht with ht | ht
    · exact ih t (List.mem_of_mem_take ht)
    · rcases List.mem_cons.1 ht with rfl | ht
      · rfl
      · exact ih t (List.mem_of_mem_drop ht)
theorem mny_ix {j : Nat} (hj : 0 < j) : ix (fun t : Tm => decide (t.id = b)) (mny b j) = ((0 : Nat) : Int) := by
  have h := mny_id (b := b) j
  have h2 := mny_len (b := b) j
  cases hm : mny b j with
  | nil => rw [hm] at h2; simp at h2; omega
  | cons t m =>
    have := h t (by rw [hm]; exact List.mem_cons_self)
    unfold ix; simp [List.findIdx?_cons, this]
theorem perr_sm (h0 : 0 ≤ a) (h1 : a ≤ 1000000) : perr 0 a = 0 := perr_0 (by omega) (by omega)
theorem ae_zero (hp : perr now a = 0) (h : L.length ≠ 1000) : ae now L a = 0 := by unfold ae; rw [if_pos hp, if_neg h]
theorem an_zero (hp : perr now a = 0) (h : L.length ≠ 1000) : an now L a b = ins L a b := by unfold an; rw [ae_zero hp h, if_pos rfl]
theorem mny_first {j : Nat} (h : j = 0) : ACall Try.prog 25 [.pt 0 0, .val (.int .i64 ((j : Int) % 7)), .val (.int .i64 b)] (q0 0) 1 (.val (.int .i64 0)) (q1n 0 (mny b (j + 1)) (j + 1)) := by subst h; exact add_nil rfl
theorem mny_add {j : Nat} (h : j < 1000) : ACall Try.prog 25 [.pt 0 0, .val (.int .i64 ((j : Int) % 7)), .val (.int .i64 b)] (q1n 0 (mny b j) j) 1 (.val (.int .i64 0)) (q1n 0 (mny b (j + 1)) (j + 1)) := by
  have h7 : Int.tmod (j : Int) 7 = (j : Int) % 7 := Int.tmod_eq_emod_of_nonneg (by omega)
  have hp : perr 0 (Int.tmod (j : Int) 7) = 0 := perr_sm (by omega) (by omega)
  have hl : (mny b j).length ≠ 1000 := by rw [mny_len]; omega
  have := addQ (now := 0) (l := mny b j) (a := Int.tmod (j : Int) 7) (b := b) (by rw [mny_len]; omega)
  rw [ae_zero hp hl, an_zero hp hl] at this
  rw [← h7, ← qn (mny_len j), ← qn (mny_len (j + 1))]
  exact this
theorem mny_full {j : Nat} (h : 1000 ≤ j) (hj : j ≤ 1000) (h0 : 0 ≤ a) (h1 : a ≤ 1000000) : ACall Try.prog 25 [.pt 0 0, .val (.int .i64 a), .val (.int .i64 b)] (q1n 0 (mny b j) j) 2 (.val (.int .i64 3)) (q1n 0 (mny b j) j) := by
  rw [← qn (mny_len j)]
  exact add_full (perr_sm h0 h1) ((mny_len j).trans (by omega))
theorem mny_llen {j : Nat} : ACall Try.prog 14 [qVn false 0 (mny b j) j] [] 0 (.val (.int .i64 j)) [] := by
  rw [← qvn (mny_len j)]
  have := len_ok (z := false) (now := 0) (l := mny b j)
  rwa [mny_len] at this
theorem mny_can {j : Nat} (h : 1000 ≤ j) (hj : j ≤ 1000) : ACall Try.prog 23 [.pt 0 0, .val (.int .i64 b)] (q1n 0 (mny b j) j) 2 (.val (.bool true)) (q1n 0 ((mny b j).drop 1) 999) := by
  rw [← qn (mny_len j)]
  have := cancel_yes (now := 0) (l := mny b j) (i := 0) (mny_ix (by omega)) (by rw [mny_len]; omega)
  rw [List.take_zero, List.nil_append] at this
  rw [← qn (show ((mny b j).drop 1).length = 999 by rw [List.length_drop, mny_len]; omega)]
  exact this
theorem mny_last {j : Nat} (hj : j = 1000) (h0 : 0 ≤ a) (h1 : a ≤ 1000000) : ACall Try.prog 25 [.pt 0 0, .val (.int .i64 a), .val (.int .i64 b)] (q1n 0 ((mny b j).drop 1) 999) 1 (.val (.int .i64 0)) (q1n 0 (ins ((mny b j).drop 1) a b) 1000) := by
  have hp : perr 0 a = 0 := perr_sm h0 h1
  have hlen : ((mny b j).drop 1).length = 999 := by rw [List.length_drop, mny_len]; omega
  have := addQ (now := 0) (l := (mny b j).drop 1) (a := a) (b := b) (by omega)
  rw [ae_zero hp (by omega), an_zero hp (by omega), qn hlen, qn (ins_len.trans (by rw [hlen]))] at this
  exact this
theorem mny_take {j : Nat} : (mny b j).take j = mny b j := List.take_of_length_le (by rw [mny_len]; exact Nat.le_refl _)
attribute [local irreducible] mny
def mnyI (a b : Int) (j : {j : Nat // j ≤ 1000}) : St :=
  ⟨46, 0, [(0, .val (.int .u8 a)), (1, .val (.int .i64 b)), (5,.pt 0 0), (12,.val (.int .i64 j.val))],
   [(0, some (.cells [.val (.int .i64 0), nilOr j.val 1 2] 63))] ++ nilOb j.val 1 (cR (mny b j.val)) 36⟩
theorem many_law (h0 : 0 ≤ a) (h1 : a ≤ 255) : ACall Try.prog 10 [.val (.int .u8 a), .val (.int .i64 b)] [] 0 (.val (.bool true)) [] := by
  refine ACall.enter Try.func10 rfl (by simp [Try.ntmps10]) (by simp) ?_
  simp only [entry, idx, Try.ntmps10, List.length, List.map_cons, List.map_nil, List.append_nil, List.cons_append, List.nil_append, Nat.reduceAdd, Nat.zero_add, List.length_cons, List.length_nil]
  repeat' (first
    | (refine AC_loop_id ?_; refine AC_loop' [0,9] ([0,9].length) (mnyI a b) (fun j => 1000 - j.val) (⟨0, by omega⟩) rfl (by unfold mnyI; (try simp only [List.cons_append, List.nil_append]); refine Sub.mk2 ?_; (simp (dsimp := false) (disch := first | omega | assumption | (simp only [List.length_cons, List.length_nil, Go.Sy.cS_len, Go.Sy.cB_len, Go.Sy.cI_len, List.length_replicate, List.length_map, List.length_append, List.length_set, List.length_take, List.length_drop, Go.Sy.splR_length]; done) | (simp only [List.length_cons, List.length_nil, Go.Sy.cS_len, Go.Sy.cB_len, Go.Sy.cI_len, List.length_replicate, List.length_map, List.length_append, List.length_set, List.length_take, List.length_drop, Go.Sy.splR_length]; omega)) only [push_cast, List.reduceReplicate, Nat.reduceAdd, Nat.reduceMul, Nat.reduceSub, Nat.reduceEqDiff, Nat.reduceLT, Nat.reduceLeDiff, Nat.reduceBEq, Int.reduceToNat, Int.reduceEq, Int.reduceLT, Int.reduceLE, Int.reduceAdd, Int.reduceSub, Int.reduceMul, ↓reduceIte, reduceCtorEq, q0, q1n, qVn, mny_len, mny_take]); (repeat (refine And.intro (by (first | omega | assumption | ((try clear hK); first | (simp; done) | (simp; omega) | (simp_all; done) | ((try simp); split <;> first | omega | (simp_all; done) | (simp_all; omega))))) ?_)); (first | done | (first | omega | assumption | ((try clear hK); first | (simp; done) | (simp; omega) | (simp_all; done) | ((try simp); split <;> first | omega | (simp_all; done) | (simp_all; omega))))); done) ?_; (rintro ⟨j, hj⟩; rcases Nat.eq_zero_or_pos j with hl | hl <;> (simp (dsimp := false) (disch := first | omega | assumption | (simp only [List.length_cons, List.length_nil, Go.Sy.cS_len, Go.Sy.cB_len, Go.Sy.cI_len, List.length_replicate, List.length_map, List.length_append, List.length_set, List.length_take, List.length_drop, Go.Sy.splR_length]; done) | (simp only [List.length_cons, List.length_nil, Go.Sy.cS_len, Go.Sy.cB_len, Go.Sy.cI_len, List.length_replicate, List.length_map, List.length_append, List.length_set, List.length_take, List.length_drop, Go.Sy.splR_length]; omega)) only [push_cast, List.reduceReplicate, Nat.reduceAdd, Nat.reduceMul, Nat.reduceSub, Nat.reduceEqDiff, Nat.reduceLT, Nat.reduceLeDiff, Nat.reduceBEq, Int.reduceToNat, Int.reduceEq, Int.reduceLT, Int.reduceLE, Int.reduceAdd, Int.reduceSub, Int.reduceMul, ↓reduceIte, reduceCtorEq, mnyI])))
    | (refine Nxt_id ?_; refine Nxt.mk [0,2] (⟨j + 1, by omega⟩) rfl (by unfold mnyI; (try simp only [List.cons_append, List.nil_append]); refine Sub.mk2 ?_; (simp (dsimp := false) (disch := first | omega | assumption | (simp only [List.length_cons, List.length_nil, Go.Sy.cS_len, Go.Sy.cB_len, Go.Sy.cI_len, List.length_replicate, List.length_map, List.length_append, List.length_set, List.length_take, List.length_drop, Go.Sy.splR_length]; done) | (simp only [List.length_cons, List.length_nil, Go.Sy.cS_len, Go.Sy.cB_len, Go.Sy.cI_len, List.length_replicate, List.length_map, List.length_append, List.length_set, List.length_take, List.length_drop, Go.Sy.splR_length]; omega)) only [push_cast, List.reduceReplicate, Nat.reduceAdd, Nat.reduceMul, Nat.reduceSub, Nat.reduceEqDiff, Nat.reduceLT, Nat.reduceLeDiff, Nat.reduceBEq, Int.reduceToNat, Int.reduceEq, Int.reduceLT, Int.reduceLE, Int.reduceAdd, Int.reduceSub, Int.reduceMul, ↓reduceIte, reduceCtorEq, q0, q1n, qVn, mny_len, mny_take]); (repeat (refine And.intro (by (first | omega | assumption | ((try clear hK); first | (simp; done) | (simp; omega) | (simp_all; done) | ((try simp); split <;> first | omega | (simp_all; done) | (simp_all; omega))))) ?_)); (first | done | (first | omega | assumption | ((try clear hK); first | (simp; done) | (simp; omega) | (simp_all; done) | ((try simp); split <;> first | omega | (simp_all; done) | (simp_all; omega))))); done) (by first | omega | (simp; omega)))
    | (refine AC_seq ?_)
    | (refine AC_region_lit ?_)
    | ((first | refine AL_go rfl (fun K hK => ?_) | refine AL_go0 (fun K hK => ?_))
       (first | refine R_callG (f := 11) [] 0 false ?_ | refine R_callG (f := 26) [] 0 false ?_ | refine R_callG (f := 25) (dst := some 26) [0,1] 2 false ?_ | refine R_callG (f := 14) [] 0 true ?_ | refine R_callG (f := 23) [0,1] 2 false ?_ | refine R_callG (f := 25) (dst := some 43) [0,1] 1 false ?_)
       simp (dsimp := false) (disch := first | omega | assumption | (simp only [List.length_cons, List.length_nil, Go.Sy.cS_len, Go.Sy.cB_len, Go.Sy.cI_len, List.length_replicate, List.length_map, List.length_append, List.length_set, List.length_take, List.length_drop, Go.Sy.splR_length]; done) | (simp only [List.length_cons, List.length_nil, Go.Sy.cS_len, Go.Sy.cB_len, Go.Sy.cI_len, List.length_replicate, List.length_map, List.length_append, List.length_set, List.length_take, List.length_drop, Go.Sy.splR_length]; omega)) only [push_cast, List.reduceReplicate, Nat.reduceAdd, Nat.reduceMul, Nat.reduceSub, Nat.reduceEqDiff, Nat.reduceLT, Nat.reduceLeDiff, Nat.reduceBEq, Int.reduceToNat, Int.reduceEq, Int.reduceLT, Int.reduceLE, Int.reduceAdd, Int.reduceSub, Int.reduceMul, ↓reduceIte, reduceCtorEq, q0, q1n, qVn, mny_len, mny_take]
       (repeat (refine And.intro (by (first | omega | assumption | ((try clear hK); first | (simp; done) | (simp; omega) | (simp_all; done) | ((try simp); split <;> first | omega | (simp_all; done) | (simp_all; omega))))) ?_)); intro G hG; refine hG _ _ ?_; clear hG G
       (first | refine ⟨_, _, awake_ok, ?_⟩ | refine ⟨_, _, new_ok, ?_⟩ | refine ⟨_, _, mny_full (j := j) (by omega) (by omega) (by omega) (by omega), ?_⟩ | refine ⟨_, _, mny_llen (b := b) (j := j), ?_⟩ | refine ⟨_, _, mny_can (j := j) (by omega) (by omega), ?_⟩ | refine ⟨_, _, mny_last (j := j) (by omega) (by omega) (by omega), ?_⟩)
       simp (dsimp := false) (disch := first | omega | assumption | (simp only [List.length_cons, List.length_nil, Go.Sy.cS_len, Go.Sy.cB_len, Go.Sy.cI_len, List.length_replicate, List.length_map, List.length_append, List.length_set, List.length_take, List.length_drop, Go.Sy.splR_length]; done) | (simp only [List.length_cons, List.length_nil, Go.Sy.cS_len, Go.Sy.cB_len, Go.Sy.cI_len, List.length_replicate, List.length_map, List.length_append, List.length_set, List.length_take, List.length_drop, Go.Sy.splR_length]; omega)) only [push_cast, List.reduceReplicate, Nat.reduceAdd, Nat.reduceMul, Nat.reduceSub, Nat.reduceEqDiff, Nat.reduceLT, Nat.reduceLeDiff, Nat.reduceBEq, Int.reduceToNat, Int.reduceEq, Int.reduceLT, Int.reduceLE, Int.reduceAdd, Int.reduceSub, Int.reduceMul, ↓reduceIte, reduceCtorEq, q0, q1n, qVn, mny_len, mny_take]
       (repeat (refine And.intro (by (first | omega | assumption | ((try clear hK); first | (simp; done) | (simp; omega) | (simp_all; done) | ((try simp); split <;> first | omega | (simp_all; done) | (simp_all; omega))))) ?_)); (first | refine hK _ _ _ ?_ | refine hK _ _ ?_); clear hK K)
    | ((first | refine AL_go rfl (fun K hK => ?_) | refine AL_go0 (fun K hK => ?_))
       (first
        | (refine R_callG (f := 25) (dst := some 19) [0] 1 false ?_
           simp (dsimp := false) (disch := first | omega | assumption | (simp only [List.length_cons, List.length_nil, Go.Sy.cS_len, Go.Sy.cB_len, Go.Sy.cI_len, List.length_replicate, List.length_map, List.length_append, List.length_set, List.length_take, List.length_drop, Go.Sy.splR_length]; done) | (simp only [List.length_cons, List.length_nil, Go.Sy.cS_len, Go.Sy.cB_len, Go.Sy.cI_len, List.length_replicate, List.length_map, List.length_append, List.length_set, List.length_take, List.length_drop, Go.Sy.splR_length]; omega)) only [push_cast, List.reduceReplicate, Nat.reduceAdd, Nat.reduceMul, Nat.reduceSub, Nat.reduceEqDiff, Nat.reduceLT, Nat.reduceLeDiff, Nat.reduceBEq, Int.reduceToNat, Int.reduceEq, Int.reduceLT, Int.reduceLE, Int.reduceAdd, Int.reduceSub, Int.reduceMul, ↓reduceIte, reduceCtorEq, q0, q1n, qVn, mny_len, mny_take]
           (repeat (refine And.intro (by (first | omega | assumption | ((try clear hK); first | (simp; done) | (simp; omega) | (simp_all; done) | ((try simp); split <;> first | omega | (simp_all; done) | (simp_all; omega))))) ?_)); intro G hG; refine hG _ _ ?_; clear hG G
           refine ⟨_, _, mny_first (j := j) (by omega), ?_⟩
           simp (dsimp := false) (disch := first | omega | assumption | (simp only [List.length_cons, List.length_nil, Go.Sy.cS_len, Go.Sy.cB_len, Go.Sy.cI_len, List.length_replicate, List.length_map, List.length_append, List.length_set, List.length_take, List.length_drop, Go.Sy.splR_length]; done) | (simp only [List.length_cons, List.length_nil, Go.Sy.cS_len, Go.Sy.cB_len, Go.Sy.cI_len, List.length_replicate, List.length_map, List.length_append, List.length_set, List.length_take, List.length_drop, Go.Sy.splR_length]; omega)) only [push_cast, List.reduceReplicate, Nat.reduceAdd, Nat.reduceMul, Nat.reduceSub, Nat.reduceEqDiff, Nat.reduceLT, Nat.reduceLeDiff, Nat.reduceBEq, Int.reduceToNat, Int.reduceEq, Int.reduceLT, Int.reduceLE, Int.reduceAdd, Int.reduceSub, Int.reduceMul, ↓reduceIte, reduceCtorEq, q0, q1n, qVn, mny_len, mny_take]
           (repeat (refine And.intro (by (first | omega | assumption | ((try clear hK); first | (simp; done) | (simp; omega) | (simp_all; done) | ((try simp); split <;> first | omega | (simp_all; done) | (simp_all; omega))))) ?_)); (first | refine hK _ _ _ ?_ | refine hK _ _ ?_); clear hK K)
        | (refine R_callG (f := 25) (dst := some 19) [0,1] 1 false ?_
           simp (dsimp := false) (disch := first | omega | assumption | (simp only [List.length_cons, List.length_nil, Go.Sy.cS_len, Go.Sy.cB_len, Go.Sy.cI_len, List.length_replicate, List.length_map, List.length_append, List.length_set, List.length_take, List.length_drop, Go.Sy.splR_length]; done) | (simp only [List.length_cons, List.length_nil, Go.Sy.cS_len, Go.Sy.cB_len, Go.Sy.cI_len, List.length_replicate, List.length_map, List.length_append, List.length_set, List.length_take, List.length_drop, Go.Sy.splR_length]; omega)) only [push_cast, List.reduceReplicate, Nat.reduceAdd, Nat.reduceMul, Nat.reduceSub, Nat.reduceEqDiff, Nat.reduceLT, Nat.reduceLeDiff, Nat.reduceBEq, Int.reduceToNat, Int.reduceEq, Int.reduceLT, Int.reduceLE, Int.reduceAdd, Int.reduceSub, Int.reduceMul, ↓reduceIte, reduceCtorEq, q0, q1n, qVn, mny_len, mny_take]
           (repeat (refine And.intro (by (first | omega | assumption | ((try clear hK); first | (simp; done) | (simp; omega) | (simp_all; done) | ((try simp); split <;> first | omega | (simp_all; done) | (simp_all; omega))))) ?_)); intro G hG; refine hG _ _ ?_; clear hG G
           refine ⟨_, _, mny_add (j := j) (by omega), ?_⟩
           simp (dsimp := false) (disch := first | omega | assumption | (simp only [List.length_cons, List.length_nil, Go.Sy.cS_len, Go.Sy.cB_len, Go.Sy.cI_len, List.length_replicate, List.length_map, List.length_append, List.length_set, List.length_take, List.length_drop, Go.Sy.splR_length]; done) | (simp only [List.length_cons, List.length_nil, Go.Sy.cS_len, Go.Sy.cB_len, Go.Sy.cI_len, List.length_replicate, List.length_map, List.length_append, List.length_set, List.length_take, List.length_drop, Go.Sy.splR_length]; omega)) only [push_cast, List.reduceReplicate, Nat.reduceAdd, Nat.reduceMul, Nat.reduceSub, Nat.reduceEqDiff, Nat.reduceLT, Nat.reduceLeDiff, Nat.reduceBEq, Int.reduceToNat, Int.reduceEq, Int.reduceLT, Int.reduceLE, Int.reduceAdd, Int.reduceSub, Int.reduceMul, ↓reduceIte, reduceCtorEq, q0, q1n, qVn, mny_len, mny_take]
           (repeat (refine And.intro (by (first | omega | assumption | ((try clear hK); first | (simp; done) | (simp; omega) | (simp_all; done) | ((try simp); split <;> first | omega | (simp_all; done) | (simp_all; omega))))) ?_)); (first | refine hK _ _ _ ?_ | refine hK _ _ ?_); clear hK K)))
    | ((first | refine AL_go rfl (fun K hK => ?_) | refine AL_go0 (fun K hK => ?_))
       (first | refine R_move _ ?_ | refine R_assign _ ?_ | refine Q_pick _ _ _ ?_ | refine Q_not _ _ ?_ | refine Q_neg _ _ ?_ | refine Q_convert _ _ _ ?_ | refine Q_eqAgg _ _ _ _ ?_ | refine Q_neqAgg _ _ _ _ ?_ | refine Q_bin _ _ _ _ _ ?_)
       simp (dsimp := false) (disch := first | omega | assumption | (simp only [List.length_cons, List.length_nil, Go.Sy.cS_len, Go.Sy.cB_len, Go.Sy.cI_len, List.length_replicate, List.length_map, List.length_append, List.length_set, List.length_take, List.length_drop, Go.Sy.splR_length]; done) | (simp only [List.length_cons, List.length_nil, Go.Sy.cS_len, Go.Sy.cB_len, Go.Sy.cI_len, List.length_replicate, List.length_map, List.length_append, List.length_set, List.length_take, List.length_drop, Go.Sy.splR_length]; omega)) only [push_cast, List.reduceReplicate, Nat.reduceAdd, Nat.reduceMul, Nat.reduceSub, Nat.reduceEqDiff, Nat.reduceLT, Nat.reduceLeDiff, Nat.reduceBEq, Int.reduceToNat, Int.reduceEq, Int.reduceLT, Int.reduceLE, Int.reduceAdd, Int.reduceSub, Int.reduceMul, ↓reduceIte, reduceCtorEq, q0, q1n, qVn, mny_len, mny_take]
       (repeat (refine And.intro (by (first | omega | assumption | ((try clear hK); first | (simp; done) | (simp; omega) | (simp_all; done) | ((try simp); split <;> first | omega | (simp_all; done) | (simp_all; omega))))) ?_)); (first | refine hK _ _ _ ?_ | refine hK _ _ ?_); clear hK K)
    | ((first | refine AL_go rfl (fun K hK => ?_) | refine AL_go0 (fun K hK => ?_))
       (first | refine Q_eqnil _ _ _ _ ?_ | refine Q_neqnil _ _ _ _ ?_)
       simp (dsimp := false) (disch := first | omega | assumption | (simp only [List.length_cons, List.length_nil, Go.Sy.cS_len, Go.Sy.cB_len, Go.Sy.cI_len, List.length_replicate, List.length_map, List.length_append, List.length_set, List.length_take, List.length_drop, Go.Sy.splR_length]; done) | (simp only [List.length_cons, List.length_nil, Go.Sy.cS_len, Go.Sy.cB_len, Go.Sy.cI_len, List.length_replicate, List.length_map, List.length_append, List.length_set, List.length_take, List.length_drop, Go.Sy.splR_length]; omega)) only [push_cast, List.reduceReplicate, Nat.reduceAdd, Nat.reduceMul, Nat.reduceSub, Nat.reduceEqDiff, Nat.reduceLT, Nat.reduceLeDiff, Nat.reduceBEq, Int.reduceToNat, Int.reduceEq, Int.reduceLT, Int.reduceLE, Int.reduceAdd, Int.reduceSub, Int.reduceMul, ↓reduceIte, reduceCtorEq, q0, q1n, qVn, mny_len, mny_take]
       (repeat (refine And.intro (by (first | omega | assumption | ((try clear hK); first | (simp; done) | (simp; omega) | (simp_all; done) | ((try simp); split <;> first | omega | (simp_all; done) | (simp_all; omega))))) ?_)); (first | refine hK _ _ _ ?_ | refine hK _ _ ?_); clear hK K)
    | ((first | refine AL_guard rfl rfl (fun K1 K2 h1 h2 => ?_) rfl | refine AC_cond_k (fun K1 K2 h1 h2 => ?_))
       simp (dsimp := false) (disch := first | omega | assumption | (simp only [List.length_cons, List.length_nil, Go.Sy.cS_len, Go.Sy.cB_len, Go.Sy.cI_len, List.length_replicate, List.length_map, List.length_append, List.length_set, List.length_take, List.length_drop, Go.Sy.splR_length]; done) | (simp only [List.length_cons, List.length_nil, Go.Sy.cS_len, Go.Sy.cB_len, Go.Sy.cI_len, List.length_replicate, List.length_map, List.length_append, List.length_set, List.length_take, List.length_drop, Go.Sy.splR_length]; omega)) only [push_cast, List.reduceReplicate, Nat.reduceAdd, Nat.reduceMul, Nat.reduceSub, Nat.reduceEqDiff, Nat.reduceLT, Nat.reduceLeDiff, Nat.reduceBEq, Int.reduceToNat, Int.reduceEq, Int.reduceLT, Int.reduceLE, Int.reduceAdd, Int.reduceSub, Int.reduceMul, ↓reduceIte, reduceCtorEq, q0, q1n, qVn, mny_len, mny_take]
       first | (refine ⟨fun hc => ?_, fun hc => ?_⟩ <;> first | (exfalso; omega) | (exfalso; contradiction) | refine h1 ?_ | refine h2 ?_) | refine h1 ?_ | refine h2 ?_
       all_goals clear h1 h2 K1 K2)
    | (refine AL_nil ?_) | (refine Thn_normal ?_) | (refine Thn_ret ?_) | (refine Thn_exit ?_) | (refine Blk_normal ?_) | (refine Blk_ret ?_) | (refine Blk_here ?_) | (refine Blk_other rfl ?_) | (refine AC_block ?_) | (refine AC_exit ?_) | (refine AC_skip ?_) | (refine AC_ret ?_))
  all_goals (refine Ends.mk2 (by first | exact .inr rfl | exact .inl rfl) [] ?_; simp (dsimp := false) (disch := first | omega | assumption | (simp only [List.length_cons, List.length_nil, Go.Sy.cS_len, Go.Sy.cB_len, Go.Sy.cI_len, List.length_replicate, List.length_map, List.length_append, List.length_set, List.length_take, List.length_drop, Go.Sy.splR_length]; done) | (simp only [List.length_cons, List.length_nil, Go.Sy.cS_len, Go.Sy.cB_len, Go.Sy.cI_len, List.length_replicate, List.length_map, List.length_append, List.length_set, List.length_take, List.length_drop, Go.Sy.splR_length]; omega)) only [push_cast, List.reduceReplicate, Nat.reduceAdd, Nat.reduceMul, Nat.reduceSub, Nat.reduceEqDiff, Nat.reduceLT, Nat.reduceLeDiff, Nat.reduceBEq, Int.reduceToNat, Int.reduceEq, Int.reduceLT, Int.reduceLE, Int.reduceAdd, Int.reduceSub, Int.reduceMul, ↓reduceIte, reduceCtorEq, Try.f10]; (repeat (refine And.intro (by (first | omega | assumption | ((try clear hK); first | (simp; done) | (simp; omega) | (simp_all; done) | ((try simp); split <;> first | omega | (simp_all; done) | (simp_all; omega))))) ?_)); try (first | omega | assumption | ((try clear hK); first | (simp; done) | (simp; omega) | (simp_all; done) | ((try simp); split <;> first | omega | (simp_all; done) | (simp_all; omega)))))
end Go.Proofs.Ytipmfcpmbkopeaa
