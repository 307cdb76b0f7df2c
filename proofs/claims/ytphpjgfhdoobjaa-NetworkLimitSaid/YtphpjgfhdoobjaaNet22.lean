/- The network: the law NetworkLimit as a call. No condition. -/
import Derived.Test.YtphpjgfhdoobjaaNet19
set_option linter.unusedVariables false
set_option linter.unusedSectionVars false
set_option linter.unusedSimpArgs false
set_option maxHeartbeats 8000000
set_option maxRecDepth 20000
namespace Go.Proofs.Ytphpjgfhdoobjaa
open Go Go.Sy
attribute [local irreducible] AO AL AC OpT ACall Ends DGo DRun Thn Blk Nxt
variable {n a b v w : Int} {i j k r len : Nat} {z z2 : Bool} {m : Msg} {c : Bool} {l : List Pk} {next : Int}

def lm : Msg := { (default : Msg) with to := 1 }
theorem lmc : mC lm = [.val (.int .i64 0), .val (.int .i64 0), .val (.int .i64 1), .val (.int .i64 0), .val (.int .i64 0), .val (.string ⟨#[]⟩), .val (.int .i64 0), .val (.int .i64 0), .val (.int .i64 0), .val (.int .i64 0), .val (.int .i64 0), .val (.string ⟨#[]⟩), .val (.string ⟨#[]⟩), .isl true [] 0, .isl true [] 0, .val (.int .i64 0), .val (.string ⟨#[]⟩), .isl true [] 0, .isl true [] 0, .isl true [] 0, .isl true [] 0] := rfl
def lp (i : Nat) : Pk := ⟨i, 0, 1, lm⟩
/-- The first c packets. -/
def lq (c : Nat) : List Pk := (List.range c).map lp
theorem lq_len {d : Nat} : (lq d).length = d := by simp [lq]
theorem lq_s : lq (k + 1) = lq k ++ [⟨(k : Int), lm.fr, lm.to, lm⟩] := by unfold lq; rw [List.range_succ, List.map_append]; rfl
theorem lq_at (h : 0 < k) : at' (lq k) 0 = (0 : Nat) := by
  have e : (lq k).getD 0 default = lp 0 := by
    unfold lq; rw [List.getD_eq_getElem?_getD, List.getElem?_map, List.getElem?_range h]; rfl
  unfold at'
  exact ix_hit (by rw [lq_len]; exact h) (fun i hi => by omega) (by rw [e]; rfl)
theorem lq_0 (h : 0 < k) : ((lq k).getD 0 default).m = lm := by
  have e : (lq k).getD 0 default = lp 0 := by
    unfold lq; rw [List.getD_eq_getElem?_getD, List.getElem?_map, List.getElem?_range h]; rfl
  rw [e]; rfl
theorem l_send (h0 : 0 < k) (h : k < 400) : ACall Try.prog 12 [.pt 0 0, .agg (mC lm)] (n1x 2 k (lq k) k []) 2 (.val (.int .i64 0)) (n1x 2 ((k : Int) + 1) (lq (k + 1)) (k + 1) []) := by
  have := send_ok (n := 2) (next := k) (l := lq k) (m := lm) (f := []) (by decide) (by decide) (by rw [lq_len]; exact h) (by omega) (by omega)
  rw [n1_x (lq_len), lq_len, ← lq_s] at this
  exact this
theorem l_send0 : ACall Try.prog 12 [.pt 0 0, .agg (mC lm)] (n0 2 0 []) 2 (.val (.int .i64 0)) (n1x 2 1 (lq 1) 1 []) := send_ok0 (m := lm) (by decide) (by decide) (by decide) (by decide)
theorem l_send0' (h : k = 0) : ACall Try.prog 12 [.pt 0 0, .agg (mC lm)] (n0 2 k []) 2 (.val (.int .i64 0)) (n1x 2 ((k : Int) + 1) (lq (k + 1)) (k + 1) []) := by subst h; exact l_send0
theorem d_lt (h : k < 400) : decide ((k : Int) < 400) = true := decide_eq_true (by omega)
theorem d_ge (h : 400 ≤ k) : decide ((k : Int) < 400) = false := decide_eq_false (by omega)
theorem l_full (h : 400 ≤ k) (h2 : k ≤ 1000) : ACall Try.prog 12 [.pt 0 0, .agg (mC lm)] (n1x 2 k (lq k) k []) 2 (.val (.int .i64 3)) (n1x 2 k (lq k) k []) := by
  have := send_full (n := 2) (next := k) (l := lq k) (m := lm) (f := []) (by decide) (by decide) (by rw [lq_len]; exact h) (by rw [lq_len]; exact h2)
  rw [n1_x (lq_len)] at this
  exact this.le (by decide)
theorem l_rep (h0 : 0 < k) (h : k < 400) : ACall Try.prog 19 [.pt 0 0, .val (.int .i64 0)] (n1x 2 k (lq k) k []) 2 (.val (.int .i64 0)) (n1x 2 ((k : Int) + 1) (lq (k + 1)) (k + 1) []) := by
  have := rep_ok (n := 2) (next := k) (l := lq k) (f := []) (by rw [lq_len]; exact h) (lq_at h0) (by rw [lq_0 h0]; decide) (by rw [lq_0 h0]; decide) (by omega) (by omega)
  rw [lq_0 h0, n1_x (lq_len), lq_len, ← lq_s] at this
  exact this
theorem l_rfull (h : k = 400) : ACall Try.prog 19 [.pt 0 0, .val (.int .i64 0)] (n1x 2 k (lq k) k []) 2 (.val (.int .i64 3)) (n1x 2 k (lq k) k []) := by
  have h0 : 0 < k := by omega
  have := rep_full (n := 2) (next := k) (l := lq k) (f := []) (by rw [lq_len]; omega) (lq_at h0) (by rw [lq_0 h0]; decide) (by rw [lq_0 h0]; decide) (by rw [lq_len]; omega)
  rw [n1_x (lq_len)] at this
  exact this.le (by decide)
theorem l_all (h : k ≤ 1000) : ACall Try.prog 15 [.pt 0 0] (n1x 2 k (lq k) k []) 3 (.isl false (cR (lq k)) k) (n1x 2 k (lq k) k []) := by
  have := all_f (n := 2) (next := k) (l := lq k) (f := []) (by rw [lq_len]; exact h)
  rw [n1_x (lq_len), lq_len] at this
  exact this
def lc (i : Nat) : Nat := min i 400
theorem lc_0 : lc 0 = 0 := rfl
theorem lc_s (h : i < 400) : lc (i + 1) = i + 1 := by unfold lc; omega
theorem lc_e (h : i ≤ 400) : lc i = i := by unfold lc; omega
theorem lc_f (h : 400 ≤ i) : lc i = 400 := by unfold lc; omega
def lsl (id k : Nat) : AV := if k = 0 then .isl true [] 0 else .sl id 0 k 24
def lob (id k : Nat) : List (Nat × Option AObj) := if k = 0 then [] else [(id, some (.cells (cR (lq k)) 41))]
theorem lsl_0 {id : Nat} (h : k = 0) : lsl id k = .isl true [] 0 := if_pos h
theorem lsl_1 {id : Nat} (h : 0 < k) : lsl id k = .sl id 0 k 24 := if_neg (by omega)
theorem lob_0 {id : Nat} (h : k = 0) : lob id k = [] := if_pos h
theorem lob_1 {id : Nat} (h : 0 < k) : lob id k = [(id, some (.cells (cR (lq k)) 41))] := if_neg (by omega)
def liI (w : Int) (k : Nat) (i : {i : Nat // i ≤ k}) : St :=
  ⟨72, 0, [(1,.val (.int .u8 w)), (5,.pt 0 0), (7,.val (.int .i64 k)), (27,.val (.int .i64 k)), (28,.val (.int .i64 i.val))],
   [(0, some (.cells [.val (.int .i64 2), .val (.int .i64 (lc i.val)), lsl 2 (lc i.val), .mp 1] 80)), (1, some (.map true 2 (bV [])))] ++ lob 2 (lc i.val)⟩
def lr (c j : Nat) : Nat := if c = 0 then 0 else min (c + j) 400
theorem lr_0 {d : Nat} (h : d ≤ 400) : lr d 0 = d := by unfold lr; split <;> omega
theorem lr_z {d : Nat} (h : lr d j = 0) : lr d (j + 1) = 0 := by
  rcases Nat.eq_zero_or_pos d with hd | hd
  · subst hd; rfl
  · unfold lr at h; rw [if_neg (by omega)] at h; omega
theorem lr_s {d : Nat} (h0 : 0 < lr d j) (h : lr d j < 400) : lr d (j + 1) = lr d j + 1 := by unfold lr at *; by_cases hd : d = 0 <;> simp only [hd, if_true, if_false] at * <;> omega
theorem lr_f {d : Nat} (h : lr d j = 400) : lr d (j + 1) = 400 := by unfold lr at *; by_cases hd : d = 0 <;> simp only [hd, if_true, if_false] at * <;> omega
theorem lr_le {d : Nat} : lr d j ≤ 400 := by unfold lr; split <;> omega
def ljI (r c : Nat) (j : {j : Nat // j ≤ r}) : St :=
  ⟨72, 0, [(5,.pt 0 0), (10,.val (.int .i64 (lr c j.val))), (51,.val (.int .u8 r)), (52,.val (.int .u8 j.val))],
   [(0, some (.cells [.val (.int .i64 2), .val (.int .i64 (lr c j.val)), lsl 2 (lr c j.val), .mp 1] 80)), (1, some (.map true 2 (bV [])))] ++ lob 2 (lr c j.val)⟩
theorem limit_a (hv : 0 ≤ v ∧ v ≤ 65535) (hw : 0 ≤ w ∧ w ≤ 255) (hk : v % 420 = (k : Nat)) (hr : w % 30 = (r : Nat)) (hk4 : k ≤ 400) : ACall Try.prog 6 [.val (.int .u16 v), .val (.int .u8 w)] [] 0 (.val (.bool true)) [] := by
  have hv2 : v.tmod 420 = v % 420 := Int.tmod_eq_emod_of_nonneg hv.1
  have hw2 : w.tmod 30 = w % 30 := Int.tmod_eq_emod_of_nonneg hw.1
  have hr3 : r < 30 := by omega
  have hk5 : k < 420 := by omega
  have hmin : min (k : Int) 400 = (k : Int) := by omega
  rw [hk] at hv2
  rw [hr] at hw2
  refine ACall.enter Try.func6 rfl (by simp [Try.ntmps6]) (by simp) ?_
  simp only [entry, idx, Try.ntmps6, List.length, List.map_cons, List.map_nil, List.append_nil, List.cons_append, List.nil_append, Nat.reduceAdd, Nat.zero_add, List.length_cons, List.length_nil]
  repeat' (first
    | (refine AC_loop_id ?_; refine AC_loop' [0,1,2] ([0,1,2].length) (ljI r k) (fun j => r - j.val) (⟨0, by omega⟩) rfl (by unfold ljI; (try simp only [List.cons_append, List.nil_append]); refine Sub.mk2 ?_; (simp (dsimp := false) (disch := first | exact vD | fail) only [push_cast, List.reduceReplicate, Nat.reduceAdd, Nat.reduceMul, Nat.reduceSub, Nat.reduceEqDiff, Nat.reduceLT, Nat.reduceLeDiff, Nat.reduceBEq, Int.reduceToNat, Int.reduceEq, Int.reduceLT, Int.reduceLE, Int.reduceAdd, Int.reduceSub, Int.reduceMul, ↓reduceIte, reduceCtorEq, n0, n1x, lmc, hv2, hw2, hmin, lc_0, lsl_0, lsl_1, lob_0, lob_1, lc_e, lc_f, lr_0, lr_z, lr_s, lr_f, bne_self_eq_false, d_lt, d_ge]); (repeat (refine aI ?_)); (first | done | (first | exact vI | fail)); done) ?_; (rintro ⟨j, hj⟩; have hle := lr_le (d := k) (j := j); rcases (show lr k j = 0 ∨ (0 < lr k j ∧ lr k j < 400) ∨ lr k j = 400 by omega) with hq | ⟨hq1, hq2⟩ | hq <;> (simp (dsimp := false) (disch := first | exact vD | fail) only [push_cast, List.reduceReplicate, Nat.reduceAdd, Nat.reduceMul, Nat.reduceSub, Nat.reduceEqDiff, Nat.reduceLT, Nat.reduceLeDiff, Nat.reduceBEq, Int.reduceToNat, Int.reduceEq, Int.reduceLT, Int.reduceLE, Int.reduceAdd, Int.reduceSub, Int.reduceMul, ↓reduceIte, reduceCtorEq, ljI, lsl_0, lsl_1, lob_0, lob_1])))
    | (refine Nxt_id ?_; refine Nxt.mk [0,1,3] (⟨j + 1, by omega⟩) rfl (by unfold ljI; (try simp only [List.cons_append, List.nil_append]); refine Sub.mk2 ?_; (simp (dsimp := false) (disch := first | exact vD | fail) only [push_cast, List.reduceReplicate, Nat.reduceAdd, Nat.reduceMul, Nat.reduceSub, Nat.reduceEqDiff, Nat.reduceLT, Nat.reduceLeDiff, Nat.reduceBEq, Int.reduceToNat, Int.reduceEq, Int.reduceLT, Int.reduceLE, Int.reduceAdd, Int.reduceSub, Int.reduceMul, ↓reduceIte, reduceCtorEq, n0, n1x, lmc, hv2, hw2, hmin, lc_0, lsl_0, lsl_1, lob_0, lob_1, lc_e, lc_f, lr_0, lr_z, lr_s, lr_f, bne_self_eq_false, d_lt, d_ge]); (repeat (refine aI ?_)); (first | done | (first | exact vI | fail)); done) (by first | omega | (simp; done) | (simp; omega)))
    | (refine Nxt_id ?_; refine Nxt.mk [0,1,2] (⟨j + 1, by omega⟩) rfl (by unfold ljI; (try simp only [List.cons_append, List.nil_append]); refine Sub.mk2 ?_; (simp (dsimp := false) (disch := first | exact vD | fail) only [push_cast, List.reduceReplicate, Nat.reduceAdd, Nat.reduceMul, Nat.reduceSub, Nat.reduceEqDiff, Nat.reduceLT, Nat.reduceLeDiff, Nat.reduceBEq, Int.reduceToNat, Int.reduceEq, Int.reduceLT, Int.reduceLE, Int.reduceAdd, Int.reduceSub, Int.reduceMul, ↓reduceIte, reduceCtorEq, n0, n1x, lmc, hv2, hw2, hmin, lc_0, lsl_0, lsl_1, lob_0, lob_1, lc_e, lc_f, lr_0, lr_z, lr_s, lr_f, bne_self_eq_false, d_lt, d_ge]); (repeat (refine aI ?_)); (first | done | (first | exact vI | fail)); done) (by first | omega | (simp; done) | (simp; omega)))
    | (refine AC_loop_id ?_; refine AC_loop' [0,1,9] ([0,1,9].length) (liI w k) (fun i => k - i.val) (⟨0, by omega⟩) rfl (by unfold liI; (try simp only [List.cons_append, List.nil_append]); refine Sub.mk2 ?_; (simp (dsimp := false) (disch := first | exact vD | fail) only [push_cast, List.reduceReplicate, Nat.reduceAdd, Nat.reduceMul, Nat.reduceSub, Nat.reduceEqDiff, Nat.reduceLT, Nat.reduceLeDiff, Nat.reduceBEq, Int.reduceToNat, Int.reduceEq, Int.reduceLT, Int.reduceLE, Int.reduceAdd, Int.reduceSub, Int.reduceMul, ↓reduceIte, reduceCtorEq, n0, n1x, lmc, hv2, hw2, hmin, lc_0, lsl_0, lsl_1, lob_0, lob_1, lc_e, lc_f, lr_0, lr_z, lr_s, lr_f, bne_self_eq_false, d_lt, d_ge]); (repeat (refine aI ?_)); (first | done | (first | exact vI | fail)); done) ?_; (rintro ⟨i, hi⟩; rcases Nat.lt_or_eq_of_le hi with hil | hil <;> first | (have eik : k = i := hil.symm; subst eik; rcases Nat.eq_zero_or_pos k with hi0 | hi0 <;> first | (exfalso; omega) | (simp (dsimp := false) (disch := first | exact vD | fail) only [push_cast, List.reduceReplicate, Nat.reduceAdd, Nat.reduceMul, Nat.reduceSub, Nat.reduceEqDiff, Nat.reduceLT, Nat.reduceLeDiff, Nat.reduceBEq, Int.reduceToNat, Int.reduceEq, Int.reduceLT, Int.reduceLE, Int.reduceAdd, Int.reduceSub, Int.reduceMul, ↓reduceIte, reduceCtorEq, liI, lc_0, lc_e, lc_f, lsl_0, lsl_1, lob_0, lob_1])) | (rcases Nat.eq_zero_or_pos i with hi0 | hi0 <;> rcases Nat.lt_or_ge i 400 with hi4 | hi4 <;> first | (exfalso; omega) | (simp (dsimp := false) (disch := first | exact vD | fail) only [push_cast, List.reduceReplicate, Nat.reduceAdd, Nat.reduceMul, Nat.reduceSub, Nat.reduceEqDiff, Nat.reduceLT, Nat.reduceLeDiff, Nat.reduceBEq, Int.reduceToNat, Int.reduceEq, Int.reduceLT, Int.reduceLE, Int.reduceAdd, Int.reduceSub, Int.reduceMul, ↓reduceIte, reduceCtorEq, liI, lc_0, lc_e, lc_f, lsl_0, lsl_1, lob_0, lob_1]))))
    | (refine Nxt_id ?_; refine Nxt.mk [0,1,3] (⟨i + 1, by omega⟩) rfl (by unfold liI; (try simp only [List.cons_append, List.nil_append]); refine Sub.mk2 ?_; (simp (dsimp := false) (disch := first | exact vD | fail) only [push_cast, List.reduceReplicate, Nat.reduceAdd, Nat.reduceMul, Nat.reduceSub, Nat.reduceEqDiff, Nat.reduceLT, Nat.reduceLeDiff, Nat.reduceBEq, Int.reduceToNat, Int.reduceEq, Int.reduceLT, Int.reduceLE, Int.reduceAdd, Int.reduceSub, Int.reduceMul, ↓reduceIte, reduceCtorEq, n0, n1x, lmc, hv2, hw2, hmin, lc_0, lsl_0, lsl_1, lob_0, lob_1, lc_e, lc_f, lr_0, lr_z, lr_s, lr_f, bne_self_eq_false, d_lt, d_ge]); (repeat (refine aI ?_)); (first | done | (first | exact vI | fail)); done) (by first | omega | (simp; done) | (simp; omega)))
    | (refine Nxt_id ?_; refine Nxt.mk [0,1,9] (⟨i + 1, by omega⟩) rfl (by unfold liI; (try simp only [List.cons_append, List.nil_append]); refine Sub.mk2 ?_; (simp (dsimp := false) (disch := first | exact vD | fail) only [push_cast, List.reduceReplicate, Nat.reduceAdd, Nat.reduceMul, Nat.reduceSub, Nat.reduceEqDiff, Nat.reduceLT, Nat.reduceLeDiff, Nat.reduceBEq, Int.reduceToNat, Int.reduceEq, Int.reduceLT, Int.reduceLE, Int.reduceAdd, Int.reduceSub, Int.reduceMul, ↓reduceIte, reduceCtorEq, n0, n1x, lmc, hv2, hw2, hmin, lc_0, lsl_0, lsl_1, lob_0, lob_1, lc_e, lc_f, lr_0, lr_z, lr_s, lr_f, bne_self_eq_false, d_lt, d_ge]); (repeat (refine aI ?_)); (first | done | (first | exact vI | fail)); done) (by first | omega | (simp; done) | (simp; omega)))
    | (refine AC_seq ?_)
    | (refine AC_region_lit ?_)
    | ((first | refine AL_go rfl (fun K hK => ?_) | refine AL_go0 (fun K hK => ?_))
       (first | refine R_callG (f := 10) [] 0 false ?_ | refine R_callG (f := 11) [] 0 false ?_)
       simp (dsimp := false) (disch := first | exact vD | fail) only [push_cast, List.reduceReplicate, Nat.reduceAdd, Nat.reduceMul, Nat.reduceSub, Nat.reduceEqDiff, Nat.reduceLT, Nat.reduceLeDiff, Nat.reduceBEq, Int.reduceToNat, Int.reduceEq, Int.reduceLT, Int.reduceLE, Int.reduceAdd, Int.reduceSub, Int.reduceMul, ↓reduceIte, reduceCtorEq, n0, n1x, lmc, hv2, hw2, hmin, lc_0, lsl_0, lsl_1, lob_0, lob_1, lc_e, lc_f, lr_0, lr_z, lr_s, lr_f, bne_self_eq_false, d_lt, d_ge]
       (repeat (refine aI ?_)); intro G hG; refine hG _ _ ?_; clear hG G
       (first | refine ⟨_, _, awake_ok, ?_⟩ | refine ⟨_, _, new_ok (by decide), ?_⟩)
       simp (dsimp := false) (disch := first | exact vD | fail) only [push_cast, List.reduceReplicate, Nat.reduceAdd, Nat.reduceMul, Nat.reduceSub, Nat.reduceEqDiff, Nat.reduceLT, Nat.reduceLeDiff, Nat.reduceBEq, Int.reduceToNat, Int.reduceEq, Int.reduceLT, Int.reduceLE, Int.reduceAdd, Int.reduceSub, Int.reduceMul, ↓reduceIte, reduceCtorEq, n0, n1x, lmc, hv2, hw2, hmin, lc_0, lsl_0, lsl_1, lob_0, lob_1, lc_e, lc_f, lr_0, lr_z, lr_s, lr_f, bne_self_eq_false, d_lt, d_ge]
       (repeat (refine aI ?_)); (first | refine hK _ _ _ ?_ | refine hK _ _ ?_); clear hK K)
    | ((first | refine AL_go rfl (fun K hK => ?_) | refine AL_go0 (fun K hK => ?_))
       (first
        | (refine R_callG (f := 12) [0,1] 2 false ?_
           simp (dsimp := false) (disch := first | exact vD | fail) only [push_cast, List.reduceReplicate, Nat.reduceAdd, Nat.reduceMul, Nat.reduceSub, Nat.reduceEqDiff, Nat.reduceLT, Nat.reduceLeDiff, Nat.reduceBEq, Int.reduceToNat, Int.reduceEq, Int.reduceLT, Int.reduceLE, Int.reduceAdd, Int.reduceSub, Int.reduceMul, ↓reduceIte, reduceCtorEq, n0, n1x, lmc, hv2, hw2, hmin, lc_0, lsl_0, lsl_1, lob_0, lob_1, lc_e, lc_f, lr_0, lr_z, lr_s, lr_f, bne_self_eq_false, d_lt, d_ge]
           (repeat (refine aI ?_)); intro G hG; refine hG _ _ ?_; clear hG G
           refine ⟨_, _, l_send0' (k := i) hi0, ?_⟩
           simp (dsimp := false) (disch := first | exact vD | fail) only [push_cast, List.reduceReplicate, Nat.reduceAdd, Nat.reduceMul, Nat.reduceSub, Nat.reduceEqDiff, Nat.reduceLT, Nat.reduceLeDiff, Nat.reduceBEq, Int.reduceToNat, Int.reduceEq, Int.reduceLT, Int.reduceLE, Int.reduceAdd, Int.reduceSub, Int.reduceMul, ↓reduceIte, reduceCtorEq, n0, n1x, lmc, hv2, hw2, hmin, lc_0, lsl_0, lsl_1, lob_0, lob_1, lc_e, lc_f, lr_0, lr_z, lr_s, lr_f, bne_self_eq_false, d_lt, d_ge]
           (repeat (refine aI ?_)); (first | refine hK _ _ _ ?_ | refine hK _ _ ?_); clear hK K)
        | (refine R_callG (f := 12) [0,1,2] 2 false ?_
           simp (dsimp := false) (disch := first | exact vD | fail) only [push_cast, List.reduceReplicate, Nat.reduceAdd, Nat.reduceMul, Nat.reduceSub, Nat.reduceEqDiff, Nat.reduceLT, Nat.reduceLeDiff, Nat.reduceBEq, Int.reduceToNat, Int.reduceEq, Int.reduceLT, Int.reduceLE, Int.reduceAdd, Int.reduceSub, Int.reduceMul, ↓reduceIte, reduceCtorEq, n0, n1x, lmc, hv2, hw2, hmin, lc_0, lsl_0, lsl_1, lob_0, lob_1, lc_e, lc_f, lr_0, lr_z, lr_s, lr_f, bne_self_eq_false, d_lt, d_ge]
           (repeat (refine aI ?_)); intro G hG; refine hG _ _ ?_; clear hG G
           refine ⟨_, _, l_send (k := i) (by omega) (by omega), ?_⟩
           simp (dsimp := false) (disch := first | exact vD | fail) only [push_cast, List.reduceReplicate, Nat.reduceAdd, Nat.reduceMul, Nat.reduceSub, Nat.reduceEqDiff, Nat.reduceLT, Nat.reduceLeDiff, Nat.reduceBEq, Int.reduceToNat, Int.reduceEq, Int.reduceLT, Int.reduceLE, Int.reduceAdd, Int.reduceSub, Int.reduceMul, ↓reduceIte, reduceCtorEq, n0, n1x, lmc, hv2, hw2, hmin, lc_0, lsl_0, lsl_1, lob_0, lob_1, lc_e, lc_f, lr_0, lr_z, lr_s, lr_f, bne_self_eq_false, d_lt, d_ge]
           (repeat (refine aI ?_)); (first | refine hK _ _ _ ?_ | refine hK _ _ ?_); clear hK K)
        | (refine R_callG (f := 12) [0,1,2] 2 false ?_
           simp (dsimp := false) (disch := first | exact vD | fail) only [push_cast, List.reduceReplicate, Nat.reduceAdd, Nat.reduceMul, Nat.reduceSub, Nat.reduceEqDiff, Nat.reduceLT, Nat.reduceLeDiff, Nat.reduceBEq, Int.reduceToNat, Int.reduceEq, Int.reduceLT, Int.reduceLE, Int.reduceAdd, Int.reduceSub, Int.reduceMul, ↓reduceIte, reduceCtorEq, n0, n1x, lmc, hv2, hw2, hmin, lc_0, lsl_0, lsl_1, lob_0, lob_1, lc_e, lc_f, lr_0, lr_z, lr_s, lr_f, bne_self_eq_false, d_lt, d_ge]
           (repeat (refine aI ?_)); intro G hG; refine hG _ _ ?_; clear hG G
           refine ⟨_, _, l_full (k := 400) (by decide) (by decide), ?_⟩
           simp (dsimp := false) (disch := first | exact vD | fail) only [push_cast, List.reduceReplicate, Nat.reduceAdd, Nat.reduceMul, Nat.reduceSub, Nat.reduceEqDiff, Nat.reduceLT, Nat.reduceLeDiff, Nat.reduceBEq, Int.reduceToNat, Int.reduceEq, Int.reduceLT, Int.reduceLE, Int.reduceAdd, Int.reduceSub, Int.reduceMul, ↓reduceIte, reduceCtorEq, n0, n1x, lmc, hv2, hw2, hmin, lc_0, lsl_0, lsl_1, lob_0, lob_1, lc_e, lc_f, lr_0, lr_z, lr_s, lr_f, bne_self_eq_false, d_lt, d_ge]
           (repeat (refine aI ?_)); (first | refine hK _ _ _ ?_ | refine hK _ _ ?_); clear hK K)
        | (refine R_callG (f := 19) [0,1] 2 false ?_
           simp (dsimp := false) (disch := first | exact vD | fail) only [push_cast, List.reduceReplicate, Nat.reduceAdd, Nat.reduceMul, Nat.reduceSub, Nat.reduceEqDiff, Nat.reduceLT, Nat.reduceLeDiff, Nat.reduceBEq, Int.reduceToNat, Int.reduceEq, Int.reduceLT, Int.reduceLE, Int.reduceAdd, Int.reduceSub, Int.reduceMul, ↓reduceIte, reduceCtorEq, n0, n1x, lmc, hv2, hw2, hmin, lc_0, lsl_0, lsl_1, lob_0, lob_1, lc_e, lc_f, lr_0, lr_z, lr_s, lr_f, bne_self_eq_false, d_lt, d_ge]
           (repeat (refine aI ?_)); intro G hG; refine hG _ _ ?_; clear hG G
           refine ⟨_, _, rep_none0, ?_⟩
           simp (dsimp := false) (disch := first | exact vD | fail) only [push_cast, List.reduceReplicate, Nat.reduceAdd, Nat.reduceMul, Nat.reduceSub, Nat.reduceEqDiff, Nat.reduceLT, Nat.reduceLeDiff, Nat.reduceBEq, Int.reduceToNat, Int.reduceEq, Int.reduceLT, Int.reduceLE, Int.reduceAdd, Int.reduceSub, Int.reduceMul, ↓reduceIte, reduceCtorEq, n0, n1x, lmc, hv2, hw2, hmin, lc_0, lsl_0, lsl_1, lob_0, lob_1, lc_e, lc_f, lr_0, lr_z, lr_s, lr_f, bne_self_eq_false, d_lt, d_ge]
           (repeat (refine aI ?_)); (first | refine hK _ _ _ ?_ | refine hK _ _ ?_); clear hK K)
        | (refine R_callG (f := 19) [0,1,2] 2 false ?_
           simp (dsimp := false) (disch := first | exact vD | fail) only [push_cast, List.reduceReplicate, Nat.reduceAdd, Nat.reduceMul, Nat.reduceSub, Nat.reduceEqDiff, Nat.reduceLT, Nat.reduceLeDiff, Nat.reduceBEq, Int.reduceToNat, Int.reduceEq, Int.reduceLT, Int.reduceLE, Int.reduceAdd, Int.reduceSub, Int.reduceMul, ↓reduceIte, reduceCtorEq, n0, n1x, lmc, hv2, hw2, hmin, lc_0, lsl_0, lsl_1, lob_0, lob_1, lc_e, lc_f, lr_0, lr_z, lr_s, lr_f, bne_self_eq_false, d_lt, d_ge]
           (repeat (refine aI ?_)); intro G hG; refine hG _ _ ?_; clear hG G
           refine ⟨_, _, l_rep (k := lr k j) (by omega) (by omega), ?_⟩
           simp (dsimp := false) (disch := first | exact vD | fail) only [push_cast, List.reduceReplicate, Nat.reduceAdd, Nat.reduceMul, Nat.reduceSub, Nat.reduceEqDiff, Nat.reduceLT, Nat.reduceLeDiff, Nat.reduceBEq, Int.reduceToNat, Int.reduceEq, Int.reduceLT, Int.reduceLE, Int.reduceAdd, Int.reduceSub, Int.reduceMul, ↓reduceIte, reduceCtorEq, n0, n1x, lmc, hv2, hw2, hmin, lc_0, lsl_0, lsl_1, lob_0, lob_1, lc_e, lc_f, lr_0, lr_z, lr_s, lr_f, bne_self_eq_false, d_lt, d_ge]
           (repeat (refine aI ?_)); (first | refine hK _ _ _ ?_ | refine hK _ _ ?_); clear hK K)
        | (refine R_callG (f := 19) [0,1,2] 2 false ?_
           simp (dsimp := false) (disch := first | exact vD | fail) only [push_cast, List.reduceReplicate, Nat.reduceAdd, Nat.reduceMul, Nat.reduceSub, Nat.reduceEqDiff, Nat.reduceLT, Nat.reduceLeDiff, Nat.reduceBEq, Int.reduceToNat, Int.reduceEq, Int.reduceLT, Int.reduceLE, Int.reduceAdd, Int.reduceSub, Int.reduceMul, ↓reduceIte, reduceCtorEq, n0, n1x, lmc, hv2, hw2, hmin, lc_0, lsl_0, lsl_1, lob_0, lob_1, lc_e, lc_f, lr_0, lr_z, lr_s, lr_f, bne_self_eq_false, d_lt, d_ge]
           (repeat (refine aI ?_)); intro G hG; refine hG _ _ ?_; clear hG G
           refine ⟨_, _, l_rfull (k := lr k j) (by omega), ?_⟩
           simp (dsimp := false) (disch := first | exact vD | fail) only [push_cast, List.reduceReplicate, Nat.reduceAdd, Nat.reduceMul, Nat.reduceSub, Nat.reduceEqDiff, Nat.reduceLT, Nat.reduceLeDiff, Nat.reduceBEq, Int.reduceToNat, Int.reduceEq, Int.reduceLT, Int.reduceLE, Int.reduceAdd, Int.reduceSub, Int.reduceMul, ↓reduceIte, reduceCtorEq, n0, n1x, lmc, hv2, hw2, hmin, lc_0, lsl_0, lsl_1, lob_0, lob_1, lc_e, lc_f, lr_0, lr_z, lr_s, lr_f, bne_self_eq_false, d_lt, d_ge]
           (repeat (refine aI ?_)); (first | refine hK _ _ _ ?_ | refine hK _ _ ?_); clear hK K)
        | (refine R_callG (f := 15) [0,1] 2 false ?_
           simp (dsimp := false) (disch := first | exact vD | fail) only [push_cast, List.reduceReplicate, Nat.reduceAdd, Nat.reduceMul, Nat.reduceSub, Nat.reduceEqDiff, Nat.reduceLT, Nat.reduceLeDiff, Nat.reduceBEq, Int.reduceToNat, Int.reduceEq, Int.reduceLT, Int.reduceLE, Int.reduceAdd, Int.reduceSub, Int.reduceMul, ↓reduceIte, reduceCtorEq, n0, n1x, lmc, hv2, hw2, hmin, lc_0, lsl_0, lsl_1, lob_0, lob_1, lc_e, lc_f, lr_0, lr_z, lr_s, lr_f, bne_self_eq_false, d_lt, d_ge]
           (repeat (refine aI ?_)); intro G hG; refine hG _ _ ?_; clear hG G
           refine ⟨_, _, all_0, ?_⟩
           simp (dsimp := false) (disch := first | exact vD | fail) only [push_cast, List.reduceReplicate, Nat.reduceAdd, Nat.reduceMul, Nat.reduceSub, Nat.reduceEqDiff, Nat.reduceLT, Nat.reduceLeDiff, Nat.reduceBEq, Int.reduceToNat, Int.reduceEq, Int.reduceLT, Int.reduceLE, Int.reduceAdd, Int.reduceSub, Int.reduceMul, ↓reduceIte, reduceCtorEq, n0, n1x, lmc, hv2, hw2, hmin, lc_0, lsl_0, lsl_1, lob_0, lob_1, lc_e, lc_f, lr_0, lr_z, lr_s, lr_f, bne_self_eq_false, d_lt, d_ge]
           (repeat (refine aI ?_)); (first | refine hK _ _ _ ?_ | refine hK _ _ ?_); clear hK K)
        | (refine R_callG (f := 15) [0,1,2] 3 false ?_
           simp (dsimp := false) (disch := first | exact vD | fail) only [push_cast, List.reduceReplicate, Nat.reduceAdd, Nat.reduceMul, Nat.reduceSub, Nat.reduceEqDiff, Nat.reduceLT, Nat.reduceLeDiff, Nat.reduceBEq, Int.reduceToNat, Int.reduceEq, Int.reduceLT, Int.reduceLE, Int.reduceAdd, Int.reduceSub, Int.reduceMul, ↓reduceIte, reduceCtorEq, n0, n1x, lmc, hv2, hw2, hmin, lc_0, lsl_0, lsl_1, lob_0, lob_1, lc_e, lc_f, lr_0, lr_z, lr_s, lr_f, bne_self_eq_false, d_lt, d_ge]
           (repeat (refine aI ?_)); intro G hG; refine hG _ _ ?_; clear hG G
           refine ⟨_, _, l_all (k := lr k j) (by omega), ?_⟩
           simp (dsimp := false) (disch := first | exact vD | fail) only [push_cast, List.reduceReplicate, Nat.reduceAdd, Nat.reduceMul, Nat.reduceSub, Nat.reduceEqDiff, Nat.reduceLT, Nat.reduceLeDiff, Nat.reduceBEq, Int.reduceToNat, Int.reduceEq, Int.reduceLT, Int.reduceLE, Int.reduceAdd, Int.reduceSub, Int.reduceMul, ↓reduceIte, reduceCtorEq, n0, n1x, lmc, hv2, hw2, hmin, lc_0, lsl_0, lsl_1, lob_0, lob_1, lc_e, lc_f, lr_0, lr_z, lr_s, lr_f, bne_self_eq_false, d_lt, d_ge]
           (repeat (refine aI ?_)); (first | refine hK _ _ _ ?_ | refine hK _ _ ?_); clear hK K)))
    | ((first | refine AL_go rfl (fun K hK => ?_) | refine AL_go0 (fun K hK => ?_))
       (first | refine R_move _ ?_ | refine R_assign _ ?_ | refine Q_len _ _ ?_ | refine Q_lenStr _ _ ?_ | refine Q_pick _ _ _ ?_ | refine Q_not _ _ ?_ | refine Q_neg _ _ ?_ | refine Q_extract _ _ ?_ | refine Q_build _ _ ?_ | refine Q_buildArr _ _ ?_ | refine Q_convert _ _ _ ?_ | refine Q_min _ _ _ _ ?_ | refine Q_eqAgg _ _ _ _ ?_ | refine Q_neqAgg _ _ _ _ ?_ | refine Q_neqSelf _ _ _ _ ?_ | refine Q_bin _ _ _ _ _ ?_)
       simp (dsimp := false) (disch := first | exact vD | fail) only [push_cast, List.reduceReplicate, Nat.reduceAdd, Nat.reduceMul, Nat.reduceSub, Nat.reduceEqDiff, Nat.reduceLT, Nat.reduceLeDiff, Nat.reduceBEq, Int.reduceToNat, Int.reduceEq, Int.reduceLT, Int.reduceLE, Int.reduceAdd, Int.reduceSub, Int.reduceMul, ↓reduceIte, reduceCtorEq, n0, n1x, lmc, hv2, hw2, hmin, lc_0, lsl_0, lsl_1, lob_0, lob_1, lc_e, lc_f, lr_0, lr_z, lr_s, lr_f, bne_self_eq_false, d_lt, d_ge]
       (repeat (refine aI ?_)); (first | refine hK _ _ _ ?_ | refine hK _ _ ?_); clear hK K)
    | ((first | refine AL_go rfl (fun K hK => ?_) | refine AL_go0 (fun K hK => ?_))
       (first | refine Q_eqnil _ _ _ _ ?_ | refine Q_neqnil _ _ _ _ ?_)
       simp (dsimp := false) (disch := first | exact vD | fail) only [push_cast, List.reduceReplicate, Nat.reduceAdd, Nat.reduceMul, Nat.reduceSub, Nat.reduceEqDiff, Nat.reduceLT, Nat.reduceLeDiff, Nat.reduceBEq, Int.reduceToNat, Int.reduceEq, Int.reduceLT, Int.reduceLE, Int.reduceAdd, Int.reduceSub, Int.reduceMul, ↓reduceIte, reduceCtorEq, n0, n1x, lmc, hv2, hw2, hmin, lc_0, lsl_0, lsl_1, lob_0, lob_1, lc_e, lc_f, lr_0, lr_z, lr_s, lr_f, bne_self_eq_false, d_lt, d_ge]
       (repeat (refine aI ?_)); (first | refine hK _ _ _ ?_ | refine hK _ _ ?_); clear hK K)
    | ((first | refine AL_guard rfl rfl (fun K1 K2 h1 h2 => ?_) rfl | refine AC_cond_k (fun K1 K2 h1 h2 => ?_))
       simp (dsimp := false) (disch := first | exact vD | fail) only [push_cast, List.reduceReplicate, Nat.reduceAdd, Nat.reduceMul, Nat.reduceSub, Nat.reduceEqDiff, Nat.reduceLT, Nat.reduceLeDiff, Nat.reduceBEq, Int.reduceToNat, Int.reduceEq, Int.reduceLT, Int.reduceLE, Int.reduceAdd, Int.reduceSub, Int.reduceMul, ↓reduceIte, reduceCtorEq, n0, n1x, lmc, hv2, hw2, hmin, lc_0, lsl_0, lsl_1, lob_0, lob_1, lc_e, lc_f, lr_0, lr_z, lr_s, lr_f, bne_self_eq_false, d_lt, d_ge]
       first | (refine ⟨fun hc => ?_, fun hc => ?_⟩ <;> first | (exfalso; omega) | (exfalso; contradiction) | refine h1 ?_ | refine h2 ?_) | refine h1 ?_ | refine h2 ?_
       all_goals clear h1 h2 K1 K2)
    | (refine AL_nil ?_) | (refine Thn_normal ?_) | (refine Thn_ret ?_) | (refine Thn_exit ?_) | (refine Blk_normal ?_) | (refine Blk_ret ?_) | (refine Blk_here ?_) | (refine Blk_other rfl ?_) | (refine AC_block ?_) | (refine AC_exit ?_) | (refine AC_skip ?_) | (refine AC_ret ?_))
  all_goals (refine Ends.mk2 (by first | exact .inr rfl | exact .inl rfl) [] ?_; simp (dsimp := false) (disch := first | exact vD | fail) only [push_cast, List.reduceReplicate, Nat.reduceAdd, Nat.reduceMul, Nat.reduceSub, Nat.reduceEqDiff, Nat.reduceLT, Nat.reduceLeDiff, Nat.reduceBEq, Int.reduceToNat, Int.reduceEq, Int.reduceLT, Int.reduceLE, Int.reduceAdd, Int.reduceSub, Int.reduceMul, ↓reduceIte, reduceCtorEq, Try.f6]; (repeat (refine aI ?_)); try (first | exact vI | fail))
theorem limit_b (hv : 0 ≤ v ∧ v ≤ 65535) (hw : 0 ≤ w ∧ w ≤ 255) (hk : v % 420 = (k : Nat)) (hr : w % 30 = (r : Nat)) (hk4 : 400 < k) : ACall Try.prog 6 [.val (.int .u16 v), .val (.int .u8 w)] [] 0 (.val (.bool true)) [] := by
  have hv2 : v.tmod 420 = v % 420 := Int.tmod_eq_emod_of_nonneg hv.1
  have hw2 : w.tmod 30 = w % 30 := Int.tmod_eq_emod_of_nonneg hw.1
  have hr3 : r < 30 := by omega
  have hk5 : k < 420 := by omega
  have hmin : min (k : Int) 400 = 400 := by omega
  rw [hk] at hv2
  rw [hr] at hw2
  refine ACall.enter Try.func6 rfl (by simp [Try.ntmps6]) (by simp) ?_
  simp only [entry, idx, Try.ntmps6, List.length, List.map_cons, List.map_nil, List.append_nil, List.cons_append, List.nil_append, Nat.reduceAdd, Nat.zero_add, List.length_cons, List.length_nil]
  repeat' (first
    | (refine AC_loop_id ?_; refine AC_loop' [0,1,2] ([0,1,2].length) (ljI r 400) (fun j => r - j.val) (⟨0, by omega⟩) rfl (by unfold ljI; (try simp only [List.cons_append, List.nil_append]); refine Sub.mk2 ?_; (simp (dsimp := false) (disch := first | exact vD | fail) only [push_cast, List.reduceReplicate, Nat.reduceAdd, Nat.reduceMul, Nat.reduceSub, Nat.reduceEqDiff, Nat.reduceLT, Nat.reduceLeDiff, Nat.reduceBEq, Int.reduceToNat, Int.reduceEq, Int.reduceLT, Int.reduceLE, Int.reduceAdd, Int.reduceSub, Int.reduceMul, ↓reduceIte, reduceCtorEq, n0, n1x, lmc, hv2, hw2, hmin, lc_0, lsl_0, lsl_1, lob_0, lob_1, lc_e, lc_f, lr_0, lr_z, lr_s, lr_f, bne_self_eq_false, d_lt, d_ge]); (repeat (refine aI ?_)); (first | done | (first | exact vI | fail)); done) ?_; (rintro ⟨j, hj⟩; have hle := lr_le (d := 400) (j := j); rcases (show lr 400 j = 0 ∨ (0 < lr 400 j ∧ lr 400 j < 400) ∨ lr 400 j = 400 by omega) with hq | ⟨hq1, hq2⟩ | hq <;> (simp (dsimp := false) (disch := first | exact vD | fail) only [push_cast, List.reduceReplicate, Nat.reduceAdd, Nat.reduceMul, Nat.reduceSub, Nat.reduceEqDiff, Nat.reduceLT, Nat.reduceLeDiff, Nat.reduceBEq, Int.reduceToNat, Int.reduceEq, Int.reduceLT, Int.reduceLE, Int.reduceAdd, Int.reduceSub, Int.reduceMul, ↓reduceIte, reduceCtorEq, ljI, lsl_0, lsl_1, lob_0, lob_1])))
    | (refine Nxt_id ?_; refine Nxt.mk [0,1,3] (⟨j + 1, by omega⟩) rfl (by unfold ljI; (try simp only [List.cons_append, List.nil_append]); refine Sub.mk2 ?_; (simp (dsimp := false) (disch := first | exact vD | fail) only [push_cast, List.reduceReplicate, Nat.reduceAdd, Nat.reduceMul, Nat.reduceSub, Nat.reduceEqDiff, Nat.reduceLT, Nat.reduceLeDiff, Nat.reduceBEq, Int.reduceToNat, Int.reduceEq, Int.reduceLT, Int.reduceLE, Int.reduceAdd, Int.reduceSub, Int.reduceMul, ↓reduceIte, reduceCtorEq, n0, n1x, lmc, hv2, hw2, hmin, lc_0, lsl_0, lsl_1, lob_0, lob_1, lc_e, lc_f, lr_0, lr_z, lr_s, lr_f, bne_self_eq_false, d_lt, d_ge]); (repeat (refine aI ?_)); (first | done | (first | exact vI | fail)); done) (by first | omega | (simp; done) | (simp; omega)))
    | (refine Nxt_id ?_; refine Nxt.mk [0,1,2] (⟨j + 1, by omega⟩) rfl (by unfold ljI; (try simp only [List.cons_append, List.nil_append]); refine Sub.mk2 ?_; (simp (dsimp := false) (disch := first | exact vD | fail) only [push_cast, List.reduceReplicate, Nat.reduceAdd, Nat.reduceMul, Nat.reduceSub, Nat.reduceEqDiff, Nat.reduceLT, Nat.reduceLeDiff, Nat.reduceBEq, Int.reduceToNat, Int.reduceEq, Int.reduceLT, Int.reduceLE, Int.reduceAdd, Int.reduceSub, Int.reduceMul, ↓reduceIte, reduceCtorEq, n0, n1x, lmc, hv2, hw2, hmin, lc_0, lsl_0, lsl_1, lob_0, lob_1, lc_e, lc_f, lr_0, lr_z, lr_s, lr_f, bne_self_eq_false, d_lt, d_ge]); (repeat (refine aI ?_)); (first | done | (first | exact vI | fail)); done) (by first | omega | (simp; done) | (simp; omega)))
    | (refine AC_loop_id ?_; refine AC_loop' [0,1,9] ([0,1,9].length) (liI w k) (fun i => k - i.val) (⟨0, by omega⟩) rfl (by unfold liI; (try simp only [List.cons_append, List.nil_append]); refine Sub.mk2 ?_; (simp (dsimp := false) (disch := first | exact vD | fail) only [push_cast, List.reduceReplicate, Nat.reduceAdd, Nat.reduceMul, Nat.reduceSub, Nat.reduceEqDiff, Nat.reduceLT, Nat.reduceLeDiff, Nat.reduceBEq, Int.reduceToNat, Int.reduceEq, Int.reduceLT, Int.reduceLE, Int.reduceAdd, Int.reduceSub, Int.reduceMul, ↓reduceIte, reduceCtorEq, n0, n1x, lmc, hv2, hw2, hmin, lc_0, lsl_0, lsl_1, lob_0, lob_1, lc_e, lc_f, lr_0, lr_z, lr_s, lr_f, bne_self_eq_false, d_lt, d_ge]); (repeat (refine aI ?_)); (first | done | (first | exact vI | fail)); done) ?_; (rintro ⟨i, hi⟩; rcases Nat.lt_or_eq_of_le hi with hil | hil <;> first | (have eik : k = i := hil.symm; subst eik; rcases Nat.eq_zero_or_pos k with hi0 | hi0 <;> first | (exfalso; omega) | (simp (dsimp := false) (disch := first | exact vD | fail) only [push_cast, List.reduceReplicate, Nat.reduceAdd, Nat.reduceMul, Nat.reduceSub, Nat.reduceEqDiff, Nat.reduceLT, Nat.reduceLeDiff, Nat.reduceBEq, Int.reduceToNat, Int.reduceEq, Int.reduceLT, Int.reduceLE, Int.reduceAdd, Int.reduceSub, Int.reduceMul, ↓reduceIte, reduceCtorEq, liI, lc_0, lc_e, lc_f, lsl_0, lsl_1, lob_0, lob_1])) | (rcases Nat.eq_zero_or_pos i with hi0 | hi0 <;> rcases Nat.lt_or_ge i 400 with hi4 | hi4 <;> first | (exfalso; omega) | (simp (dsimp := false) (disch := first | exact vD | fail) only [push_cast, List.reduceReplicate, Nat.reduceAdd, Nat.reduceMul, Nat.reduceSub, Nat.reduceEqDiff, Nat.reduceLT, Nat.reduceLeDiff, Nat.reduceBEq, Int.reduceToNat, Int.reduceEq, Int.reduceLT, Int.reduceLE, Int.reduceAdd, Int.reduceSub, Int.reduceMul, ↓reduceIte, reduceCtorEq, liI, lc_0, lc_e, lc_f, lsl_0, lsl_1, lob_0, lob_1]))))
    | (refine Nxt_id ?_; refine Nxt.mk [0,1,3] (⟨i + 1, by omega⟩) rfl (by unfold liI; (try simp only [List.cons_append, List.nil_append]); refine Sub.mk2 ?_; (simp (dsimp := false) (disch := first | exact vD | fail) only [push_cast, List.reduceReplicate, Nat.reduceAdd, Nat.reduceMul, Nat.reduceSub, Nat.reduceEqDiff, Nat.reduceLT, Nat.reduceLeDiff, Nat.reduceBEq, Int.reduceToNat, Int.reduceEq, Int.reduceLT, Int.reduceLE, Int.reduceAdd, Int.reduceSub, Int.reduceMul, ↓reduceIte, reduceCtorEq, n0, n1x, lmc, hv2, hw2, hmin, lc_0, lsl_0, lsl_1, lob_0, lob_1, lc_e, lc_f, lr_0, lr_z, lr_s, lr_f, bne_self_eq_false, d_lt, d_ge]); (repeat (refine aI ?_)); (first | done | (first | exact vI | fail)); done) (by first | omega | (simp; done) | (simp; omega)))
    | (refine Nxt_id ?_; refine Nxt.mk [0,1,9] (⟨i + 1, by omega⟩) rfl (by unfold liI; (try simp only [List.cons_append, List.nil_append]); refine Sub.mk2 ?_; (simp (dsimp := false) (disch := first | exact vD | fail) only [push_cast, List.reduceReplicate, Nat.reduceAdd, Nat.reduceMul, Nat.reduceSub, Nat.reduceEqDiff, Nat.reduceLT, Nat.reduceLeDiff, Nat.reduceBEq, Int.reduceToNat, Int.reduceEq, Int.reduceLT, Int.reduceLE, Int.reduceAdd, Int.reduceSub, Int.reduceMul, ↓reduceIte, reduceCtorEq, n0, n1x, lmc, hv2, hw2, hmin, lc_0, lsl_0, lsl_1, lob_0, lob_1, lc_e, lc_f, lr_0, lr_z, lr_s, lr_f, bne_self_eq_false, d_lt, d_ge]); (repeat (refine aI ?_)); (first | done | (first | exact vI | fail)); done) (by first | omega | (simp; done) | (simp; omega)))
    | (refine AC_seq ?_)
    | (refine AC_region_lit ?_)
    | ((first | refine AL_go rfl (fun K hK => ?_) | refine AL_go0 (fun K hK => ?_))
       (first | refine R_callG (f := 10) [] 0 false ?_ | refine R_callG (f := 11) [] 0 false ?_)
       simp (dsimp := false) (disch := first | exact vD | fail) only [push_cast, List.reduceReplicate, Nat.reduceAdd, Nat.reduceMul, Nat.reduceSub, Nat.reduceEqDiff, Nat.reduceLT, Nat.reduceLeDiff, Nat.reduceBEq, Int.reduceToNat, Int.reduceEq, Int.reduceLT, Int.reduceLE, Int.reduceAdd, Int.reduceSub, Int.reduceMul, ↓reduceIte, reduceCtorEq, n0, n1x, lmc, hv2, hw2, hmin, lc_0, lsl_0, lsl_1, lob_0, lob_1, lc_e, lc_f, lr_0, lr_z, lr_s, lr_f, bne_self_eq_false, d_lt, d_ge]
       (repeat (refine aI ?_)); intro G hG; refine hG _ _ ?_; clear hG G
       (first | refine ⟨_, _, awake_ok, ?_⟩ | refine ⟨_, _, new_ok (by decide), ?_⟩)
       simp (dsimp := false) (disch := first | exact vD | fail) only [push_cast, List.reduceReplicate, Nat.reduceAdd, Nat.reduceMul, Nat.reduceSub, Nat.reduceEqDiff, Nat.reduceLT, Nat.reduceLeDiff, Nat.reduceBEq, Int.reduceToNat, Int.reduceEq, Int.reduceLT, Int.reduceLE, Int.reduceAdd, Int.reduceSub, Int.reduceMul, ↓reduceIte, reduceCtorEq, n0, n1x, lmc, hv2, hw2, hmin, lc_0, lsl_0, lsl_1, lob_0, lob_1, lc_e, lc_f, lr_0, lr_z, lr_s, lr_f, bne_self_eq_false, d_lt, d_ge]
       (repeat (refine aI ?_)); (first | refine hK _ _ _ ?_ | refine hK _ _ ?_); clear hK K)
    | ((first | refine AL_go rfl (fun K hK => ?_) | refine AL_go0 (fun K hK => ?_))
       (first
        | (refine R_callG (f := 12) [0,1] 2 false ?_
           simp (dsimp := false) (disch := first | exact vD | fail) only [push_cast, List.reduceReplicate, Nat.reduceAdd, Nat.reduceMul, Nat.reduceSub, Nat.reduceEqDiff, Nat.reduceLT, Nat.reduceLeDiff, Nat.reduceBEq, Int.reduceToNat, Int.reduceEq, Int.reduceLT, Int.reduceLE, Int.reduceAdd, Int.reduceSub, Int.reduceMul, ↓reduceIte, reduceCtorEq, n0, n1x, lmc, hv2, hw2, hmin, lc_0, lsl_0, lsl_1, lob_0, lob_1, lc_e, lc_f, lr_0, lr_z, lr_s, lr_f, bne_self_eq_false, d_lt, d_ge]
           (repeat (refine aI ?_)); intro G hG; refine hG _ _ ?_; clear hG G
           refine ⟨_, _, l_send0' (k := i) hi0, ?_⟩
           simp (dsimp := false) (disch := first | exact vD | fail) only [push_cast, List.reduceReplicate, Nat.reduceAdd, Nat.reduceMul, Nat.reduceSub, Nat.reduceEqDiff, Nat.reduceLT, Nat.reduceLeDiff, Nat.reduceBEq, Int.reduceToNat, Int.reduceEq, Int.reduceLT, Int.reduceLE, Int.reduceAdd, Int.reduceSub, Int.reduceMul, ↓reduceIte, reduceCtorEq, n0, n1x, lmc, hv2, hw2, hmin, lc_0, lsl_0, lsl_1, lob_0, lob_1, lc_e, lc_f, lr_0, lr_z, lr_s, lr_f, bne_self_eq_false, d_lt, d_ge]
           (repeat (refine aI ?_)); (first | refine hK _ _ _ ?_ | refine hK _ _ ?_); clear hK K)
        | (refine R_callG (f := 12) [0,1,2] 2 false ?_
           simp (dsimp := false) (disch := first | exact vD | fail) only [push_cast, List.reduceReplicate, Nat.reduceAdd, Nat.reduceMul, Nat.reduceSub, Nat.reduceEqDiff, Nat.reduceLT, Nat.reduceLeDiff, Nat.reduceBEq, Int.reduceToNat, Int.reduceEq, Int.reduceLT, Int.reduceLE, Int.reduceAdd, Int.reduceSub, Int.reduceMul, ↓reduceIte, reduceCtorEq, n0, n1x, lmc, hv2, hw2, hmin, lc_0, lsl_0, lsl_1, lob_0, lob_1, lc_e, lc_f, lr_0, lr_z, lr_s, lr_f, bne_self_eq_false, d_lt, d_ge]
           (repeat (refine aI ?_)); intro G hG; refine hG _ _ ?_; clear hG G
           refine ⟨_, _, l_send (k := i) (by omega) (by omega), ?_⟩
           simp (dsimp := false) (disch := first | exact vD | fail) only [push_cast, List.reduceReplicate, Nat.reduceAdd, Nat.reduceMul, Nat.reduceSub, Nat.reduceEqDiff, Nat.reduceLT, Nat.reduceLeDiff, Nat.reduceBEq, Int.reduceToNat, Int.reduceEq, Int.reduceLT, Int.reduceLE, Int.reduceAdd, Int.reduceSub, Int.reduceMul, ↓reduceIte, reduceCtorEq, n0, n1x, lmc, hv2, hw2, hmin, lc_0, lsl_0, lsl_1, lob_0, lob_1, lc_e, lc_f, lr_0, lr_z, lr_s, lr_f, bne_self_eq_false, d_lt, d_ge]
           (repeat (refine aI ?_)); (first | refine hK _ _ _ ?_ | refine hK _ _ ?_); clear hK K)
        | (refine R_callG (f := 12) [0,1,2] 2 false ?_
           simp (dsimp := false) (disch := first | exact vD | fail) only [push_cast, List.reduceReplicate, Nat.reduceAdd, Nat.reduceMul, Nat.reduceSub, Nat.reduceEqDiff, Nat.reduceLT, Nat.reduceLeDiff, Nat.reduceBEq, Int.reduceToNat, Int.reduceEq, Int.reduceLT, Int.reduceLE, Int.reduceAdd, Int.reduceSub, Int.reduceMul, ↓reduceIte, reduceCtorEq, n0, n1x, lmc, hv2, hw2, hmin, lc_0, lsl_0, lsl_1, lob_0, lob_1, lc_e, lc_f, lr_0, lr_z, lr_s, lr_f, bne_self_eq_false, d_lt, d_ge]
           (repeat (refine aI ?_)); intro G hG; refine hG _ _ ?_; clear hG G
           refine ⟨_, _, l_full (k := 400) (by decide) (by decide), ?_⟩
           simp (dsimp := false) (disch := first | exact vD | fail) only [push_cast, List.reduceReplicate, Nat.reduceAdd, Nat.reduceMul, Nat.reduceSub, Nat.reduceEqDiff, Nat.reduceLT, Nat.reduceLeDiff, Nat.reduceBEq, Int.reduceToNat, Int.reduceEq, Int.reduceLT, Int.reduceLE, Int.reduceAdd, Int.reduceSub, Int.reduceMul, ↓reduceIte, reduceCtorEq, n0, n1x, lmc, hv2, hw2, hmin, lc_0, lsl_0, lsl_1, lob_0, lob_1, lc_e, lc_f, lr_0, lr_z, lr_s, lr_f, bne_self_eq_false, d_lt, d_ge]
           (repeat (refine aI ?_)); (first | refine hK _ _ _ ?_ | refine hK _ _ ?_); clear hK K)
        | (refine R_callG (f := 19) [0,1] 2 false ?_
           simp (dsimp := false) (disch := first | exact vD | fail) only [push_cast, List.reduceReplicate, Nat.reduceAdd, Nat.reduceMul, Nat.reduceSub, Nat.reduceEqDiff, Nat.reduceLT, Nat.reduceLeDiff, Nat.reduceBEq, Int.reduceToNat, Int.reduceEq, Int.reduceLT, Int.reduceLE, Int.reduceAdd, Int.reduceSub, Int.reduceMul, ↓reduceIte, reduceCtorEq, n0, n1x, lmc, hv2, hw2, hmin, lc_0, lsl_0, lsl_1, lob_0, lob_1, lc_e, lc_f, lr_0, lr_z, lr_s, lr_f, bne_self_eq_false, d_lt, d_ge]
           (repeat (refine aI ?_)); intro G hG; refine hG _ _ ?_; clear hG G
           refine ⟨_, _, rep_none0, ?_⟩
           simp (dsimp := false) (disch := first | exact vD | fail) only [push_cast, List.reduceReplicate, Nat.reduceAdd, Nat.reduceMul, Nat.reduceSub, Nat.reduceEqDiff, Nat.reduceLT, Nat.reduceLeDiff, Nat.reduceBEq, Int.reduceToNat, Int.reduceEq, Int.reduceLT, Int.reduceLE, Int.reduceAdd, Int.reduceSub, Int.reduceMul, ↓reduceIte, reduceCtorEq, n0, n1x, lmc, hv2, hw2, hmin, lc_0, lsl_0, lsl_1, lob_0, lob_1, lc_e, lc_f, lr_0, lr_z, lr_s, lr_f, bne_self_eq_false, d_lt, d_ge]
           (repeat (refine aI ?_)); (first | refine hK _ _ _ ?_ | refine hK _ _ ?_); clear hK K)
        | (refine R_callG (f := 19) [0,1,2] 2 false ?_
           simp (dsimp := false) (disch := first | exact vD | fail) only [push_cast, List.reduceReplicate, Nat.reduceAdd, Nat.reduceMul, Nat.reduceSub, Nat.reduceEqDiff, Nat.reduceLT, Nat.reduceLeDiff, Nat.reduceBEq, Int.reduceToNat, Int.reduceEq, Int.reduceLT, Int.reduceLE, Int.reduceAdd, Int.reduceSub, Int.reduceMul, ↓reduceIte, reduceCtorEq, n0, n1x, lmc, hv2, hw2, hmin, lc_0, lsl_0, lsl_1, lob_0, lob_1, lc_e, lc_f, lr_0, lr_z, lr_s, lr_f, bne_self_eq_false, d_lt, d_ge]
           (repeat (refine aI ?_)); intro G hG; refine hG _ _ ?_; clear hG G
           refine ⟨_, _, l_rep (k := lr 400 j) (by omega) (by omega), ?_⟩
           simp (dsimp := false) (disch := first | exact vD | fail) only [push_cast, List.reduceReplicate, Nat.reduceAdd, Nat.reduceMul, Nat.reduceSub, Nat.reduceEqDiff, Nat.reduceLT, Nat.reduceLeDiff, Nat.reduceBEq, Int.reduceToNat, Int.reduceEq, Int.reduceLT, Int.reduceLE, Int.reduceAdd, Int.reduceSub, Int.reduceMul, ↓reduceIte, reduceCtorEq, n0, n1x, lmc, hv2, hw2, hmin, lc_0, lsl_0, lsl_1, lob_0, lob_1, lc_e, lc_f, lr_0, lr_z, lr_s, lr_f, bne_self_eq_false, d_lt, d_ge]
           (repeat (refine aI ?_)); (first | refine hK _ _ _ ?_ | refine hK _ _ ?_); clear hK K)
        | (refine R_callG (f := 19) [0,1,2] 2 false ?_
           simp (dsimp := false) (disch := first | exact vD | fail) only [push_cast, List.reduceReplicate, Nat.reduceAdd, Nat.reduceMul, Nat.reduceSub, Nat.reduceEqDiff, Nat.reduceLT, Nat.reduceLeDiff, Nat.reduceBEq, Int.reduceToNat, Int.reduceEq, Int.reduceLT, Int.reduceLE, Int.reduceAdd, Int.reduceSub, Int.reduceMul, ↓reduceIte, reduceCtorEq, n0, n1x, lmc, hv2, hw2, hmin, lc_0, lsl_0, lsl_1, lob_0, lob_1, lc_e, lc_f, lr_0, lr_z, lr_s, lr_f, bne_self_eq_false, d_lt, d_ge]
           (repeat (refine aI ?_)); intro G hG; refine hG _ _ ?_; clear hG G
           refine ⟨_, _, l_rfull (k := lr 400 j) (by omega), ?_⟩
           simp (dsimp := false) (disch := first | exact vD | fail) only [push_cast, List.reduceReplicate, Nat.reduceAdd, Nat.reduceMul, Nat.reduceSub, Nat.reduceEqDiff, Nat.reduceLT, Nat.reduceLeDiff, Nat.reduceBEq, Int.reduceToNat, Int.reduceEq, Int.reduceLT, Int.reduceLE, Int.reduceAdd, Int.reduceSub, Int.reduceMul, ↓reduceIte, reduceCtorEq, n0, n1x, lmc, hv2, hw2, hmin, lc_0, lsl_0, lsl_1, lob_0, lob_1, lc_e, lc_f, lr_0, lr_z, lr_s, lr_f, bne_self_eq_false, d_lt, d_ge]
           (repeat (refine aI ?_)); (first | refine hK _ _ _ ?_ | refine hK _ _ ?_); clear hK K)
        | (refine R_callG (f := 15) [0,1] 2 false ?_
           simp (dsimp := false) (disch := first | exact vD | fail) only [push_cast, List.reduceReplicate, Nat.reduceAdd, Nat.reduceMul, Nat.reduceSub, Nat.reduceEqDiff, Nat.reduceLT, Nat.reduceLeDiff, Nat.reduceBEq, Int.reduceToNat, Int.reduceEq, Int.reduceLT, Int.reduceLE, Int.reduceAdd, Int.reduceSub, Int.reduceMul, ↓reduceIte, reduceCtorEq, n0, n1x, lmc, hv2, hw2, hmin, lc_0, lsl_0, lsl_1, lob_0, lob_1, lc_e, lc_f, lr_0, lr_z, lr_s, lr_f, bne_self_eq_false, d_lt, d_ge]
           (repeat (refine aI ?_)); intro G hG; refine hG _ _ ?_; clear hG G
           refine ⟨_, _, all_0, ?_⟩
           simp (dsimp := false) (disch := first | exact vD | fail) only [push_cast, List.reduceReplicate, Nat.reduceAdd, Nat.reduceMul, Nat.reduceSub, Nat.reduceEqDiff, Nat.reduceLT, Nat.reduceLeDiff, Nat.reduceBEq, Int.reduceToNat, Int.reduceEq, Int.reduceLT, Int.reduceLE, Int.reduceAdd, Int.reduceSub, Int.reduceMul, ↓reduceIte, reduceCtorEq, n0, n1x, lmc, hv2, hw2, hmin, lc_0, lsl_0, lsl_1, lob_0, lob_1, lc_e, lc_f, lr_0, lr_z, lr_s, lr_f, bne_self_eq_false, d_lt, d_ge]
           (repeat (refine aI ?_)); (first | refine hK _ _ _ ?_ | refine hK _ _ ?_); clear hK K)
        | (refine R_callG (f := 15) [0,1,2] 3 false ?_
           simp (dsimp := false) (disch := first | exact vD | fail) only [push_cast, List.reduceReplicate, Nat.reduceAdd, Nat.reduceMul, Nat.reduceSub, Nat.reduceEqDiff, Nat.reduceLT, Nat.reduceLeDiff, Nat.reduceBEq, Int.reduceToNat, Int.reduceEq, Int.reduceLT, Int.reduceLE, Int.reduceAdd, Int.reduceSub, Int.reduceMul, ↓reduceIte, reduceCtorEq, n0, n1x, lmc, hv2, hw2, hmin, lc_0, lsl_0, lsl_1, lob_0, lob_1, lc_e, lc_f, lr_0, lr_z, lr_s, lr_f, bne_self_eq_false, d_lt, d_ge]
           (repeat (refine aI ?_)); intro G hG; refine hG _ _ ?_; clear hG G
           refine ⟨_, _, l_all (k := lr 400 j) (by omega), ?_⟩
           simp (dsimp := false) (disch := first | exact vD | fail) only [push_cast, List.reduceReplicate, Nat.reduceAdd, Nat.reduceMul, Nat.reduceSub, Nat.reduceEqDiff, Nat.reduceLT, Nat.reduceLeDiff, Nat.reduceBEq, Int.reduceToNat, Int.reduceEq, Int.reduceLT, Int.reduceLE, Int.reduceAdd, Int.reduceSub, Int.reduceMul, ↓reduceIte, reduceCtorEq, n0, n1x, lmc, hv2, hw2, hmin, lc_0, lsl_0, lsl_1, lob_0, lob_1, lc_e, lc_f, lr_0, lr_z, lr_s, lr_f, bne_self_eq_false, d_lt, d_ge]
           (repeat (refine aI ?_)); (first | refine hK _ _ _ ?_ | refine hK _ _ ?_); clear hK K)))
    | ((first | refine AL_go rfl (fun K hK => ?_) | refine AL_go0 (fun K hK => ?_))
       (first | refine R_move _ ?_ | refine R_assign _ ?_ | refine Q_len _ _ ?_ | refine Q_lenStr _ _ ?_ | refine Q_pick _ _ _ ?_ | refine Q_not _ _ ?_ | refine Q_neg _ _ ?_ | refine Q_extract _ _ ?_ | refine Q_build _ _ ?_ | refine Q_buildArr _ _ ?_ | refine Q_convert _ _ _ ?_ | refine Q_min _ _ _ _ ?_ | refine Q_eqAgg _ _ _ _ ?_ | refine Q_neqAgg _ _ _ _ ?_ | refine Q_neqSelf _ _ _ _ ?_ | refine Q_bin _ _ _ _ _ ?_)
       simp (dsimp := false) (disch := first | exact vD | fail) only [push_cast, List.reduceReplicate, Nat.reduceAdd, Nat.reduceMul, Nat.reduceSub, Nat.reduceEqDiff, Nat.reduceLT, Nat.reduceLeDiff, Nat.reduceBEq, Int.reduceToNat, Int.reduceEq, Int.reduceLT, Int.reduceLE, Int.reduceAdd, Int.reduceSub, Int.reduceMul, ↓reduceIte, reduceCtorEq, n0, n1x, lmc, hv2, hw2, hmin, lc_0, lsl_0, lsl_1, lob_0, lob_1, lc_e, lc_f, lr_0, lr_z, lr_s, lr_f, bne_self_eq_false, d_lt, d_ge]
       (repeat (refine aI ?_)); (first | refine hK _ _ _ ?_ | refine hK _ _ ?_); clear hK K)
    | ((first | refine AL_go rfl (fun K hK => ?_) | refine AL_go0 (fun K hK => ?_))
       (first | refine Q_eqnil _ _ _ _ ?_ | refine Q_neqnil _ _ _ _ ?_)
       simp (dsimp := false) (disch := first | exact vD | fail) only [push_cast, List.reduceReplicate, Nat.reduceAdd, Nat.reduceMul, Nat.reduceSub, Nat.reduceEqDiff, Nat.reduceLT, Nat.reduceLeDiff, Nat.reduceBEq, Int.reduceToNat, Int.reduceEq, Int.reduceLT, Int.reduceLE, Int.reduceAdd, Int.reduceSub, Int.reduceMul, ↓reduceIte, reduceCtorEq, n0, n1x, lmc, hv2, hw2, hmin, lc_0, lsl_0, lsl_1, lob_0, lob_1, lc_e, lc_f, lr_0, lr_z, lr_s, lr_f, bne_self_eq_false, d_lt, d_ge]
       (repeat (refine aI ?_)); (first | refine hK _ _ _ ?_ | refine hK _ _ ?_); clear hK K)
    | ((first | refine AL_guard rfl rfl (fun K1 K2 h1 h2 => ?_) rfl | refine AC_cond_k (fun K1 K2 h1 h2 => ?_))
       simp (dsimp := false) (disch := first | exact vD | fail) only [push_cast, List.reduceReplicate, Nat.reduceAdd, Nat.reduceMul, Nat.reduceSub, Nat.reduceEqDiff, Nat.reduceLT, Nat.reduceLeDiff, Nat.reduceBEq, Int.reduceToNat, Int.reduceEq, Int.reduceLT, Int.reduceLE, Int.reduceAdd, Int.reduceSub, Int.reduceMul, ↓reduceIte, reduceCtorEq, n0, n1x, lmc, hv2, hw2, hmin, lc_0, lsl_0, lsl_1, lob_0, lob_1, lc_e, lc_f, lr_0, lr_z, lr_s, lr_f, bne_self_eq_false, d_lt, d_ge]
       first | (refine ⟨fun hc => ?_, fun hc => ?_⟩ <;> first | (exfalso; omega) | (exfalso; contradiction) | refine h1 ?_ | refine h2 ?_) | refine h1 ?_ | refine h2 ?_
       all_goals clear h1 h2 K1 K2)
    | (refine AL_nil ?_) | (refine Thn_normal ?_) | (refine Thn_ret ?_) | (refine Thn_exit ?_) | (refine Blk_normal ?_) | (refine Blk_ret ?_) | (refine Blk_here ?_) | (refine Blk_other rfl ?_) | (refine AC_block ?_) | (refine AC_exit ?_) | (refine AC_skip ?_) | (refine AC_ret ?_))
  all_goals (refine Ends.mk2 (by first | exact .inr rfl | exact .inl rfl) [] ?_; simp (dsimp := false) (disch := first | exact vD | fail) only [push_cast, List.reduceReplicate, Nat.reduceAdd, Nat.reduceMul, Nat.reduceSub, Nat.reduceEqDiff, Nat.reduceLT, Nat.reduceLeDiff, Nat.reduceBEq, Int.reduceToNat, Int.reduceEq, Int.reduceLT, Int.reduceLE, Int.reduceAdd, Int.reduceSub, Int.reduceMul, ↓reduceIte, reduceCtorEq, Try.f6]; (repeat (refine aI ?_)); try (first | exact vI | fail))
theorem limit_law (hv : 0 ≤ v ∧ v ≤ 65535) (hw : 0 ≤ w ∧ w ≤ 255) : ACall Try.prog 6 [.val (.int .u16 v), .val (.int .u8 w)] [] 0 (.val (.bool true)) [] := by
  obtain ⟨k, hk⟩ := Int.eq_ofNat_of_zero_le (show 0 ≤ v % 420 by omega)
  obtain ⟨r, hr⟩ := Int.eq_ofNat_of_zero_le (show 0 ≤ w % 30 by omega)
  rcases Nat.lt_or_ge 400 k with h | h
  · exact limit_b hv hw hk hr h
  · exact limit_a hv hw hk hr h
end Go.Proofs.Ytphpjgfhdoobjaa
