/- The network: the reference's value; its small functions. No condition. -/
import Derived.Test.YtphpjgfhdoobjaaNet6
set_option linter.unusedVariables false
set_option linter.unusedSectionVars false
set_option linter.unusedSimpArgs false
set_option maxHeartbeats 1000000
set_option maxRecDepth 20000
namespace Go.Proofs.Ytphpjgfhdoobjaa
open Go Go.Sy
attribute [local irreducible] AO AL AC OpT ACall Ends DGo DRun Thn Blk Nxt
variable {l : List Pk} {n next a b : Int} {i j k len : Nat} {z : Bool} {m : Msg} {f : List (List Int × Bool)} {c : Bool} {B : List Bool} {x : AV}

/-- The cells of the reference's network: parties, the next number, packets, 324 links. -/
def rC (n next : Int) (x : AV) (B : List Bool) : List AV := .val (.int .i64 n) :: .val (.int .i64 next) :: x :: cB B
theorem rc_len (h : B.length = 324) : (rC n next x B).length = 327 := by simp [rC, cB_len, h]
theorem rc_all : (rC n next x B).all AV.scalar = x.scalar := by
  show (true && (true && (x.scalar && (cB B).all AV.scalar))) = _
  rw [cB_all]; simp
theorem rc_ren {τ : Nat → Nat} : (rC n next x B).map (ren τ) = rC n next (ren τ x) B := by simp [rC, ren, cB_ren]
theorem rc_frz {id : Nat} {cs : List AV} : (rC n next x B).map (frzV id cs) = rC n next (frzV id cs x) B := by simp [rC, frzV, cB_frz]
theorem rc_toA {st : St} {σ : List Nat} {fz : Bool} {k : Nat} (h : 0 < k) : (rC n next x B).map (toA st σ fz k) = rC n next (toA st σ fz k x) B := by
  simp only [rC, List.map_cons, toA_val h, cB_toA h]
theorem rc_dfz {st : St} {σ : List Nat} {k : Nat} (h : 0 < k) : (rC n next x B).map (dfz st σ k) = rC n next (dfz st σ k x) B := by
  simp only [rC, List.map_cons, dfz_val h, cB_dfz h]
theorem rc_bnd {k : Nat} : (∀ y ∈ rC n next x B, bnd k y) = bnd k x := by
  have h := cB_bnd k B
  simp only [rC, List.forall_mem_cons, bnd, true_and, h, and_true]
theorem rc_take (h : B.length = 324) : (rC n next x B).take 327 = rC n next x B := List.take_of_length_le (by rw [rc_len h]; exact Nat.le_refl _)
theorem rc_0 : (rC n next x B)[0]? = some (.val (.int .i64 n)) := rfl
theorem rc_1 : (rC n next x B)[1]? = some (.val (.int .i64 next)) := rfl
theorem rc_2 : (rC n next x B)[2]? = some x := rfl
theorem rc_s0 {y : Int} : (rC n next x B).set 0 (.val (.int .i64 y)) = rC y next x B := rfl
theorem rc_s1 {y : Int} : (rC n next x B).set 1 (.val (.int .i64 y)) = rC n y x B := rfl
theorem rc_s2 {y : AV} : (rC n next x B).set 2 y = rC n next y B := rfl
theorem rc_put {cs : List AV} {off : Nat} : putAV cs off (rC n next x B) = spl cs off (rC n next x B) := rfl
theorem rc_spl {cs : List AV} (hB : B.length = 324) (h : cs.length = 327) : spl cs 0 (rC n next x B) = rC n next x B := spl_full (by rw [rc_len hB, h])
theorem rc_spl2 {n2 next2 : Int} {x2 : AV} {B2 : List Bool} (h : B.length = 324) (h2 : B2.length = 324) : spl (rC n2 next2 x2 B2) 0 (rC n next x B) = rC n next x B := rc_spl h (rc_len h2)
theorem rc_mk {u v : Int} : .val (.int .i64 u) :: .val (.int .i64 v) :: x :: cB B = rC u v x B := rfl
theorem rc_z : rC 0 0 (.isl true [] 0) (fB 324) = .val (.int .i64 0) :: .val (.int .i64 0) :: .isl true [] 0 :: cB (fB 324) := rfl
attribute [push_cast] rc_len rc_all rc_ren rc_frz rc_toA rc_dfz rc_bnd rc_take rc_0 rc_1 rc_2 rc_s0 rc_s1 rc_s2 rc_put rc_spl rc_spl2 rc_mk
/-- The reference's network as a value. -/
def rN (n next : Int) (z : Bool) (l : List Pk) (len : Nat) (B : List Bool) : AV := .agg (rC n next (.isl z (cR l) len) B)
theorem rparty_ok (hB : B.length = 324) : ACall Try.prog 33 [rN n next z l len B, .val (.int .i64 a)] [] 0 (.val (.bool (pty n a))) [] := by
  unfold pty
  refine ACall.enter Try.func33 rfl (by simp [Try.ntmps33, rN]) (by simp [rN]) ?_
  simp only [entry, idx, rN, Try.ntmps33, List.length, List.map_cons, List.map_nil, List.append_nil, List.cons_append, List.nil_append, Nat.reduceAdd, Nat.zero_add, List.length_cons, List.length_nil]
  repeat' (first
    | (refine AC_seq ?_)
    | (refine AC_region_lit ?_)
    | ((first | refine AL_go rfl (fun K hK => ?_) | refine AL_go0 (fun K hK => ?_))
       (first | refine R_move _ ?_ | refine R_assign _ ?_ | refine Q_load _ _ ?_ | refine Q_loadAgg _ _ ?_ | refine Q_fieldAddr _ _ _ ?_ | refine Q_pick _ _ _ ?_ | refine Q_box _ _ ?_ | refine Q_bin _ _ _ _ _ ?_)
       simp (dsimp := false) (disch := first | exact vD | fail) only [push_cast, List.reduceReplicate, Nat.reduceAdd, Nat.reduceMul, Nat.reduceSub, Nat.reduceEqDiff, Nat.reduceLT, Nat.reduceLeDiff, Nat.reduceBEq, Int.reduceToNat, Int.reduceEq, Int.reduceLT, Int.reduceLE, Int.reduceAdd, Int.reduceSub, Int.reduceMul, ↓reduceIte, reduceCtorEq, rN]
       (repeat (refine aI ?_)); (first | refine hK _ _ _ ?_ | refine hK _ _ ?_); clear hK K)
    | ((first | refine AL_guard rfl rfl (fun K1 K2 h1 h2 => ?_) rfl | refine AC_cond_k (fun K1 K2 h1 h2 => ?_))
       simp (dsimp := false) (disch := first | exact vD | fail) only [push_cast, List.reduceReplicate, Nat.reduceAdd, Nat.reduceMul, Nat.reduceSub, Nat.reduceEqDiff, Nat.reduceLT, Nat.reduceLeDiff, Nat.reduceBEq, Int.reduceToNat, Int.reduceEq, Int.reduceLT, Int.reduceLE, Int.reduceAdd, Int.reduceSub, Int.reduceMul, ↓reduceIte, reduceCtorEq, rN]
       first | (refine ⟨fun hc => ?_, fun hc => ?_⟩ <;> first | (exfalso; omega) | (exfalso; contradiction) | refine h1 ?_ | refine h2 ?_) | refine h1 ?_ | refine h2 ?_
       all_goals clear h1 h2 K1 K2)
    | (refine AL_nil ?_) | (refine Thn_normal ?_) | (refine Thn_ret ?_) | (refine Thn_exit ?_) | (refine Blk_normal ?_) | (refine Blk_ret ?_) | (refine Blk_here ?_) | (refine Blk_other rfl ?_) | (refine AC_block ?_) | (refine AC_exit ?_) | (refine AC_skip ?_) | (refine AC_ret ?_))
  all_goals (refine Ends.mk2 (by first | exact .inr rfl | exact .inl rfl) [] ?_; simp (dsimp := false) (disch := first | exact vD | fail) only [push_cast, List.reduceReplicate, Nat.reduceAdd, Nat.reduceMul, Nat.reduceSub, Nat.reduceEqDiff, Nat.reduceLT, Nat.reduceLeDiff, Nat.reduceBEq, Int.reduceToNat, Int.reduceEq, Int.reduceLT, Int.reduceLE, Int.reduceAdd, Int.reduceSub, Int.reduceMul, ↓reduceIte, reduceCtorEq, Try.f33]; (repeat (refine aI ?_)); try (first | exact vI | fail))
theorem rnew_range (h : n < 1 ∨ 18 < n) : ACall Try.prog 14 [.val (.int .i64 n)] [] 0 (.tup [rN 0 0 true [] 0 (fB 324), .val (.int .i64 7)]) [] := by
  have hF : (fB 324).length = 324 := fB_len
  refine ACall.enter Try.func14 rfl (by simp [Try.ntmps14]) (by simp) ?_
  simp only [entry, idx, Try.ntmps14, List.length, List.map_cons, List.map_nil, List.append_nil, List.cons_append, List.nil_append, Nat.reduceAdd, Nat.zero_add, List.length_cons, List.length_nil]
  repeat' (first
    | (refine AC_seq ?_)
    | (refine AC_region_lit ?_)
    | ((first | refine AL_go rfl (fun K hK => ?_) | refine AL_go0 (fun K hK => ?_))
       (first | refine R_move _ ?_ | refine R_assign _ ?_ | refine Q_pick _ _ _ ?_ | refine R_alloc _ ?_ | refine Q_store _ _ _ ?_ | refine Q_build _ _ ?_ | refine Q_buildArr _ _ ?_ | refine Q_bin _ _ _ _ _ ?_)
       simp (dsimp := false) (disch := first | exact vD | fail) only [push_cast, List.reduceReplicate, Nat.reduceAdd, Nat.reduceMul, Nat.reduceSub, Nat.reduceEqDiff, Nat.reduceLT, Nat.reduceLeDiff, Nat.reduceBEq, Int.reduceToNat, Int.reduceEq, Int.reduceLT, Int.reduceLE, Int.reduceAdd, Int.reduceSub, Int.reduceMul, ↓reduceIte, reduceCtorEq]
       (repeat (refine aI ?_)); (first | refine hK _ _ _ ?_ | refine hK _ _ ?_); clear hK K)
    | ((first | refine AL_guard rfl rfl (fun K1 K2 h1 h2 => ?_) rfl | refine AC_cond_k (fun K1 K2 h1 h2 => ?_))
       simp (dsimp := false) (disch := first | exact vD | fail) only [push_cast, List.reduceReplicate, Nat.reduceAdd, Nat.reduceMul, Nat.reduceSub, Nat.reduceEqDiff, Nat.reduceLT, Nat.reduceLeDiff, Nat.reduceBEq, Int.reduceToNat, Int.reduceEq, Int.reduceLT, Int.reduceLE, Int.reduceAdd, Int.reduceSub, Int.reduceMul, ↓reduceIte, reduceCtorEq]
       first | (refine ⟨fun hc => ?_, fun hc => ?_⟩ <;> first | (exfalso; omega) | (exfalso; contradiction) | refine h1 ?_ | refine h2 ?_) | refine h1 ?_ | refine h2 ?_
       all_goals clear h1 h2 K1 K2)
    | (refine AL_nil ?_) | (refine Thn_normal ?_) | (refine Thn_ret ?_) | (refine Thn_exit ?_) | (refine Blk_normal ?_) | (refine Blk_ret ?_) | (refine Blk_here ?_) | (refine Blk_other rfl ?_) | (refine AC_block ?_) | (refine AC_exit ?_) | (refine AC_skip ?_) | (refine AC_ret ?_))
  all_goals (refine Ends.mk2 (by first | exact .inr rfl | exact .inl rfl) [] ?_; simp (dsimp := false) (disch := first | exact vD | fail) only [push_cast, List.reduceReplicate, Nat.reduceAdd, Nat.reduceMul, Nat.reduceSub, Nat.reduceEqDiff, Nat.reduceLT, Nat.reduceLeDiff, Nat.reduceBEq, Int.reduceToNat, Int.reduceEq, Int.reduceLT, Int.reduceLE, Int.reduceAdd, Int.reduceSub, Int.reduceMul, ↓reduceIte, reduceCtorEq, Try.f14, rN, cR_nil]; (repeat (refine aI ?_)); try (first | exact vI | fail))
theorem rnew_ok (h : ¬ (n < 1 ∨ 18 < n)) : ACall Try.prog 14 [.val (.int .i64 n)] [] 0 (.tup [rN n 0 true [] 0 (fB 324), .val (.int .i64 0)]) [] := by
  have hF : (fB 324).length = 324 := fB_len
  refine ACall.enter Try.func14 rfl (by simp [Try.ntmps14]) (by simp) ?_
  simp only [entry, idx, Try.ntmps14, List.length, List.map_cons, List.map_nil, List.append_nil, List.cons_append, List.nil_append, Nat.reduceAdd, Nat.zero_add, List.length_cons, List.length_nil]
  repeat' (first
    | (refine AC_seq ?_)
    | (refine AC_region_lit ?_)
    | ((first | refine AL_go rfl (fun K hK => ?_) | refine AL_go0 (fun K hK => ?_))
       (first | refine R_move _ ?_ | refine R_assign _ ?_ | refine Q_pick _ _ _ ?_ | refine R_alloc _ ?_ | refine Q_store _ _ _ ?_ | refine Q_build _ _ ?_ | refine Q_buildArr _ _ ?_ | refine Q_bin _ _ _ _ _ ?_)
       simp (dsimp := false) (disch := first | exact vD | fail) only [push_cast, List.reduceReplicate, Nat.reduceAdd, Nat.reduceMul, Nat.reduceSub, Nat.reduceEqDiff, Nat.reduceLT, Nat.reduceLeDiff, Nat.reduceBEq, Int.reduceToNat, Int.reduceEq, Int.reduceLT, Int.reduceLE, Int.reduceAdd, Int.reduceSub, Int.reduceMul, ↓reduceIte, reduceCtorEq]
       (repeat (refine aI ?_)); (first | refine hK _ _ _ ?_ | refine hK _ _ ?_); clear hK K)
    | ((first | refine AL_guard rfl rfl (fun K1 K2 h1 h2 => ?_) rfl | refine AC_cond_k (fun K1 K2 h1 h2 => ?_))
       simp (dsimp := false) (disch := first | exact vD | fail) only [push_cast, List.reduceReplicate, Nat.reduceAdd, Nat.reduceMul, Nat.reduceSub, Nat.reduceEqDiff, Nat.reduceLT, Nat.reduceLeDiff, Nat.reduceBEq, Int.reduceToNat, Int.reduceEq, Int.reduceLT, Int.reduceLE, Int.reduceAdd, Int.reduceSub, Int.reduceMul, ↓reduceIte, reduceCtorEq]
       first | (refine ⟨fun hc => ?_, fun hc => ?_⟩ <;> first | (exfalso; omega) | (exfalso; contradiction) | refine h1 ?_ | refine h2 ?_) | refine h1 ?_ | refine h2 ?_
       all_goals clear h1 h2 K1 K2)
    | (refine AL_nil ?_) | (refine Thn_normal ?_) | (refine Thn_ret ?_) | (refine Thn_exit ?_) | (refine Blk_normal ?_) | (refine Blk_ret ?_) | (refine Blk_here ?_) | (refine Blk_other rfl ?_) | (refine AC_block ?_) | (refine AC_exit ?_) | (refine AC_skip ?_) | (refine AC_ret ?_))
  all_goals (refine Ends.mk2 (by first | exact .inr rfl | exact .inl rfl) [] ?_; simp (dsimp := false) (disch := first | exact vD | fail) only [push_cast, List.reduceReplicate, Nat.reduceAdd, Nat.reduceMul, Nat.reduceSub, Nat.reduceEqDiff, Nat.reduceLT, Nat.reduceLeDiff, Nat.reduceBEq, Int.reduceToNat, Int.reduceEq, Int.reduceLT, Int.reduceLE, Int.reduceAdd, Int.reduceSub, Int.reduceMul, ↓reduceIte, reduceCtorEq, Try.f14, rN, cR_nil]; (repeat (refine aI ?_)); try (first | exact vI | fail))
def plI (n next a : Int) (z : Bool) (l : List Pk) (B : List Bool) (j : {j : Nat // j ≤ l.length ∧ ∀ i, i < j → decide ((l.getD i default).id = a) = false}) : St :=
  ⟨22, 0, [(1,.val (.int .i64 a)), (2,.pt 0 0), (5,.val (.int .i64 j.val))], [(0, some (.cells (rC n next (.isl z (cR l) l.length) B) 49))]⟩
theorem place_ok (hB : B.length = 324) (hn : l.length ≤ 1000) : ACall Try.prog 44 [rN n next z l l.length B, .val (.int .i64 a)] [] 0 (.val (.int .i64 (at' l a))) [] := by
  unfold at'
  refine ACall.enter Try.func44 rfl (by simp [Try.ntmps44, rN]) (by simp [rN]) ?_
  simp only [entry, idx, rN, Try.ntmps44, List.length, List.map_cons, List.map_nil, List.append_nil, List.cons_append, List.nil_append, Nat.reduceAdd, Nat.zero_add, List.length_cons, List.length_nil]
  repeat' (first
    | (refine AC_loop_id ?_; refine AC_loop' [0] ([0].length) (plI n next a z l B) (fun j => l.length - j.val) (⟨0, by omega, fun i hi => absurd hi (by omega)⟩) rfl (by unfold plI; (try simp only [List.cons_append, List.nil_append]); refine Sub.mk2 ?_; (simp (dsimp := false) (disch := first | exact vD | fail) only [push_cast, List.reduceReplicate, Nat.reduceAdd, Nat.reduceMul, Nat.reduceSub, Nat.reduceEqDiff, Nat.reduceLT, Nat.reduceLeDiff, Nat.reduceBEq, Int.reduceToNat, Int.reduceEq, Int.reduceLT, Int.reduceLE, Int.reduceAdd, Int.reduceSub, Int.reduceMul, ↓reduceIte, reduceCtorEq, rN, pc_get]); (repeat (refine aI ?_)); (first | done | (first | exact vI | fail)); done) ?_; (rintro ⟨j, hj, hnb⟩; (simp (dsimp := false) (disch := first | exact vD | fail) only [push_cast, List.reduceReplicate, Nat.reduceAdd, Nat.reduceMul, Nat.reduceSub, Nat.reduceEqDiff, Nat.reduceLT, Nat.reduceLeDiff, Nat.reduceBEq, Int.reduceToNat, Int.reduceEq, Int.reduceLT, Int.reduceLE, Int.reduceAdd, Int.reduceSub, Int.reduceMul, ↓reduceIte, reduceCtorEq, plI])))
    | (refine Nxt_id ?_; refine Nxt.mk [0] (⟨j + 1, by omega, nx_false (p := fun p : Pk => decide (p.id = a)) hnb (decide_eq_false (by assumption))⟩) rfl (by unfold plI; (try simp only [List.cons_append, List.nil_append]); refine Sub.mk2 ?_; (simp (dsimp := false) (disch := first | exact vD | fail) only [push_cast, List.reduceReplicate, Nat.reduceAdd, Nat.reduceMul, Nat.reduceSub, Nat.reduceEqDiff, Nat.reduceLT, Nat.reduceLeDiff, Nat.reduceBEq, Int.reduceToNat, Int.reduceEq, Int.reduceLT, Int.reduceLE, Int.reduceAdd, Int.reduceSub, Int.reduceMul, ↓reduceIte, reduceCtorEq, rN, pc_get]); (repeat (refine aI ?_)); (first | done | (first | exact vI | fail)); done) (by first | omega | (simp; done) | (simp; omega)))
    | (refine AC_seq ?_)
    | (refine AC_region_lit ?_)
    | ((first | refine AL_go rfl (fun K hK => ?_) | refine AL_go0 (fun K hK => ?_))
       (first | refine R_move _ ?_ | refine R_assign _ ?_ | refine Q_load _ _ ?_ | refine Q_loadAgg _ _ ?_ | refine Q_fieldAddr _ _ _ ?_ | refine Q_indexAddr _ _ _ ?_ | refine Q_indexArr _ _ _ ?_ | refine Q_len _ _ ?_ | refine Q_lenStr _ _ ?_ | refine Q_box _ _ ?_ | refine Q_eqAgg _ _ _ _ ?_ | refine Q_neqAgg _ _ _ _ ?_ | refine Q_neqSelf _ _ _ _ ?_ | refine Q_bin _ _ _ _ _ ?_)
       simp (dsimp := false) (disch := first | exact vD | fail) only [push_cast, List.reduceReplicate, Nat.reduceAdd, Nat.reduceMul, Nat.reduceSub, Nat.reduceEqDiff, Nat.reduceLT, Nat.reduceLeDiff, Nat.reduceBEq, Int.reduceToNat, Int.reduceEq, Int.reduceLT, Int.reduceLE, Int.reduceAdd, Int.reduceSub, Int.reduceMul, ↓reduceIte, reduceCtorEq, rN, pc_get]
       (repeat (refine aI ?_)); (first | refine hK _ _ _ ?_ | refine hK _ _ ?_); clear hK K)
    | ((first | refine AL_guard rfl rfl (fun K1 K2 h1 h2 => ?_) rfl | refine AC_cond_k (fun K1 K2 h1 h2 => ?_))
       simp (dsimp := false) (disch := first | exact vD | fail) only [push_cast, List.reduceReplicate, Nat.reduceAdd, Nat.reduceMul, Nat.reduceSub, Nat.reduceEqDiff, Nat.reduceLT, Nat.reduceLeDiff, Nat.reduceBEq, Int.reduceToNat, Int.reduceEq, Int.reduceLT, Int.reduceLE, Int.reduceAdd, Int.reduceSub, Int.reduceMul, ↓reduceIte, reduceCtorEq, rN, pc_get]
       first | (refine ⟨fun hc => ?_, fun hc => ?_⟩ <;> first | (exfalso; omega) | (exfalso; contradiction) | refine h1 ?_ | refine h2 ?_) | refine h1 ?_ | refine h2 ?_
       all_goals clear h1 h2 K1 K2)
    | (refine AL_nil ?_) | (refine Thn_normal ?_) | (refine Thn_ret ?_) | (refine Thn_exit ?_) | (refine Blk_normal ?_) | (refine Blk_ret ?_) | (refine Blk_here ?_) | (refine Blk_other rfl ?_) | (refine AC_block ?_) | (refine AC_exit ?_) | (refine AC_skip ?_) | (refine AC_ret ?_))
  all_goals first
    | (have e : ix (fun p : Pk => decide (p.id = a)) l = j := ix_hit (p := fun p : Pk => decide (p.id = a)) (by omega) hnb (decide_eq_true (by assumption)); (refine Ends.mk2 (by first | exact .inr rfl | exact .inl rfl) [] ?_; simp (dsimp := false) (disch := first | exact vD | fail) only [push_cast, List.reduceReplicate, Nat.reduceAdd, Nat.reduceMul, Nat.reduceSub, Nat.reduceEqDiff, Nat.reduceLT, Nat.reduceLeDiff, Nat.reduceBEq, Int.reduceToNat, Int.reduceEq, Int.reduceLT, Int.reduceLE, Int.reduceAdd, Int.reduceSub, Int.reduceMul, ↓reduceIte, reduceCtorEq, Try.f44, e]; (repeat (refine aI ?_)); try (first | exact vI | fail)))
    | (have ej : j = l.length := (by omega); subst ej; have e : ix (fun p : Pk => decide (p.id = a)) l = -1 := ix_none hnb; (refine Ends.mk2 (by first | exact .inr rfl | exact .inl rfl) [] ?_; simp (dsimp := false) (disch := first | exact vD | fail) only [push_cast, List.reduceReplicate, Nat.reduceAdd, Nat.reduceMul, Nat.reduceSub, Nat.reduceEqDiff, Nat.reduceLT, Nat.reduceLeDiff, Nat.reduceBEq, Int.reduceToNat, Int.reduceEq, Int.reduceLT, Int.reduceLE, Int.reduceAdd, Int.reduceSub, Int.reduceMul, ↓reduceIte, reduceCtorEq, Try.f44, e]; (repeat (refine aI ?_)); try (first | exact vI | fail)))
end Go.Proofs.Ytphpjgfhdoobjaa
