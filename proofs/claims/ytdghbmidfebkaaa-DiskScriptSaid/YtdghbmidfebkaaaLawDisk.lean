/- The disk: the laws DiskScript, DiskSteps, DiskOwn, DiskSync, DiskCopy, DiskCrash as calls. No condition. -/
import Derived.Test.YtdghbmidfebkaaaDisk11
set_option maxHeartbeats 2000000
set_option maxRecDepth 20000
set_option linter.unusedVariables false
set_option linter.unusedSimpArgs false
namespace Go.Proofs.Ytdghbmidfebkaaa
open Go Go.Sy
attribute [local irreducible] AO AL AC OpT ACall Ends DGo DRun Thn Blk Nxt

theorem script_ok {n : Nat} {sec : Int} {l : List OpV} {z : Bool} (hs : 0 ≤ sec) (hs2 : sec ≤ 255) (hn : 1 + sec % 8 = (n : Int)) (ho : ∀ o ∈ l, okOp o) (hl : l.length < 2^50) :
    ACall Try.prog 5 [.val (.int .u8 sec), .isl z (cOps l) l.length] [] 0 (.val (.bool true)) [] := by
  have hd := d0_ok n
  have hr := run_ok (l := l) hd l.length
  cases hf : few l
  all_goals (
  refine ACall.enter Try.func5 rfl (by simp [Try.ntmps5]) (by simp) ?_
  simp only [entry, idx, Try.ntmps5, List.length, List.map_cons, List.map_nil, List.append_nil, List.cons_append, List.nil_append, Nat.reduceAdd, Nat.zero_add, List.length_cons, List.length_nil]
  repeat' (first
    | (refine AC_seq ?_)
    | (refine AC_region_lit ?_)
    | ((first | refine AL_go rfl (fun K hK => ?_) | refine AL_go0 (fun K hK => ?_))
       (first | refine R_callG (f := 10) [] 0 false ?_ | refine R_callG (f := 15) [] 0 false ?_ | refine R_callG (f := 16) [] 0 false ?_ | refine R_callG (f := 17) [0,1,2,3] 4 false ?_ | refine R_callG (f := 13) [0,1,2,3] 4 false ?_)
       simp (dsimp := false) (disch := first | omega | assumption | (simp only [List.length_cons, List.length_nil, Go.Sy.cS_len, Go.Sy.cB_len, Go.Sy.cI_len, List.length_replicate, List.length_map, List.length_append, List.length_set, List.length_take, List.length_drop]; omega)) only [push_cast, Nat.reduceAdd, Nat.reduceMul, Nat.reduceSub, Nat.reduceEqDiff, Nat.reduceLT, Nat.reduceLeDiff, Nat.reduceBEq, Int.reduceToNat, Int.reduceEq, Int.reduceLT, Int.reduceLE, Int.reduceAdd, Int.reduceSub, Int.reduceMul, ↓reduceIte, reduceCtorEq, dkO, diskO, dkR, refD, hf]
       (repeat (refine And.intro (by (first | omega | assumption | ((try clear hK); first | (simp; done) | (simp; omega) | (simp_all; done) | ((try simp); split <;> first | omega | (simp_all; done) | (simp_all; omega))))) ?_)); intro G hG; refine hG _ _ ?_; clear hG G
       (first | refine ⟨_, _, awake_ok, ?_⟩ | refine ⟨_, _, few_ok (l := l) hl, ?_⟩ | refine ⟨_, _, both_ok hs hs2 hn, ?_⟩ | refine ⟨_, _, play_ok (n := n) (d := d0 n) (l := l) (by (first | omega | assumption | ((try clear hK); first | (simp; done) | (simp; omega) | (simp_all; done) | ((try simp); split <;> first | omega | (simp_all; done) | (simp_all; omega))))) (by (first | omega | assumption | ((try clear hK); first | (simp; done) | (simp; omega) | (simp_all; done) | ((try simp); split <;> first | omega | (simp_all; done) | (simp_all; omega))))) hd ho hl, ?_⟩ | refine ⟨_, _, same_ok (n := n) (now := (run n (d0 n) l l.length).now) (old := (run n (d0 n) l l.length).old) (dirty := (run n (d0 n) l l.length).dirty) (by (first | omega | assumption | ((try clear hK); first | (simp; done) | (simp; omega) | (simp_all; done) | ((try simp); split <;> first | omega | (simp_all; done) | (simp_all; omega))))) (by (first | omega | assumption | ((try clear hK); first | (simp; done) | (simp; omega) | (simp_all; done) | ((try simp); split <;> first | omega | (simp_all; done) | (simp_all; omega))))) hr.1 hr.2.1, ?_⟩)
       simp (dsimp := false) (disch := first | omega | assumption | (simp only [List.length_cons, List.length_nil, Go.Sy.cS_len, Go.Sy.cB_len, Go.Sy.cI_len, List.length_replicate, List.length_map, List.length_append, List.length_set, List.length_take, List.length_drop]; omega)) only [push_cast, Nat.reduceAdd, Nat.reduceMul, Nat.reduceSub, Nat.reduceEqDiff, Nat.reduceLT, Nat.reduceLeDiff, Nat.reduceBEq, Int.reduceToNat, Int.reduceEq, Int.reduceLT, Int.reduceLE, Int.reduceAdd, Int.reduceSub, Int.reduceMul, ↓reduceIte, reduceCtorEq, dkO, diskO, dkR, refD, hf]
       (repeat (refine And.intro (by (first | omega | assumption | ((try clear hK); first | (simp; done) | (simp; omega) | (simp_all; done) | ((try simp); split <;> first | omega | (simp_all; done) | (simp_all; omega))))) ?_)); (first | refine hK _ _ _ ?_ | refine hK _ _ ?_); clear hK K)
    | ((first | refine AL_go rfl (fun K hK => ?_) | refine AL_go0 (fun K hK => ?_))
       (first | refine R_move _ ?_ | refine R_assign _ ?_ | refine Q_load _ _ ?_ | refine Q_loadAgg _ _ ?_ | refine Q_pick _ _ _ ?_ | refine Q_not _ _ ?_ | refine Q_neg _ _ ?_ | refine Q_extract _ _ ?_ | refine R_alloc _ ?_ | refine Q_store _ _ _ ?_)
       simp (dsimp := false) (disch := first | omega | assumption | (simp only [List.length_cons, List.length_nil, Go.Sy.cS_len, Go.Sy.cB_len, Go.Sy.cI_len, List.length_replicate, List.length_map, List.length_append, List.length_set, List.length_take, List.length_drop]; omega)) only [push_cast, Nat.reduceAdd, Nat.reduceMul, Nat.reduceSub, Nat.reduceEqDiff, Nat.reduceLT, Nat.reduceLeDiff, Nat.reduceBEq, Int.reduceToNat, Int.reduceEq, Int.reduceLT, Int.reduceLE, Int.reduceAdd, Int.reduceSub, Int.reduceMul, ↓reduceIte, reduceCtorEq, dkO, diskO, dkR, refD, hf]
       (repeat (refine And.intro (by (first | omega | assumption | ((try clear hK); first | (simp; done) | (simp; omega) | (simp_all; done) | ((try simp); split <;> first | omega | (simp_all; done) | (simp_all; omega))))) ?_)); (first | refine hK _ _ _ ?_ | refine hK _ _ ?_); clear hK K)
    | ((first | refine AL_guard rfl rfl (fun K1 K2 h1 h2 => ?_) rfl | refine AC_cond_k (fun K1 K2 h1 h2 => ?_))
       simp (dsimp := false) (disch := first | omega | assumption | (simp only [List.length_cons, List.length_nil, Go.Sy.cS_len, Go.Sy.cB_len, Go.Sy.cI_len, List.length_replicate, List.length_map, List.length_append, List.length_set, List.length_take, List.length_drop]; omega)) only [push_cast, Nat.reduceAdd, Nat.reduceMul, Nat.reduceSub, Nat.reduceEqDiff, Nat.reduceLT, Nat.reduceLeDiff, Nat.reduceBEq, Int.reduceToNat, Int.reduceEq, Int.reduceLT, Int.reduceLE, Int.reduceAdd, Int.reduceSub, Int.reduceMul, ↓reduceIte, reduceCtorEq, dkO, diskO, dkR, refD, hf]
       first | (refine ⟨fun hc => ?_, fun hc => ?_⟩ <;> first | (exfalso; omega) | (exfalso; contradiction) | refine h1 ?_ | refine h2 ?_) | refine h1 ?_ | refine h2 ?_
       all_goals clear h1 h2 K1 K2)
    | (refine AL_nil ?_) | (refine Thn_normal ?_) | (refine Thn_ret ?_) | (refine Thn_exit ?_) | (refine Blk_normal ?_) | (refine Blk_ret ?_) | (refine Blk_here ?_) | (refine Blk_other rfl ?_) | (refine AC_block ?_) | (refine AC_exit ?_) | (refine AC_skip ?_) | (refine AC_ret ?_)))
  all_goals (refine Ends.mk2 (by first | exact .inr rfl | exact .inl rfl) [] ?_; simp (dsimp := false) (disch := first | omega | assumption | (simp only [List.length_cons, List.length_nil, Go.Sy.cS_len, Go.Sy.cB_len, Go.Sy.cI_len, List.length_replicate, List.length_map, List.length_append, List.length_set, List.length_take, List.length_drop]; omega)) only [push_cast, Nat.reduceAdd, Nat.reduceMul, Nat.reduceSub, Nat.reduceEqDiff, Nat.reduceLT, Nat.reduceLeDiff, Nat.reduceBEq, Int.reduceToNat, Int.reduceEq, Int.reduceLT, Int.reduceLE, Int.reduceAdd, Int.reduceSub, Int.reduceMul, ↓reduceIte, reduceCtorEq, Try.f5]; (repeat (refine And.intro (by (first | omega | assumption | ((try clear hK); first | (simp; done) | (simp; omega) | (simp_all; done) | ((try simp); split <;> first | omega | (simp_all; done) | (simp_all; omega))))) ?_)); try (first | omega | assumption | ((try clear hK); first | (simp; done) | (simp; omega) | (simp_all; done) | ((try simp); split <;> first | omega | (simp_all; done) | (simp_all; omega)))))
end Go.Proofs.Ytdghbmidfebkaaa
