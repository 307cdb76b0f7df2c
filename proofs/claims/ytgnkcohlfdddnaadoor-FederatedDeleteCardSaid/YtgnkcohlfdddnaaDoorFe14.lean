/- Two quorums that share nothing: federated's disjoint, the reference's split. No condition. -/
import Derived.Test.YtgnkcohlfdddnaaDoorFe13
import Derived.Test.YtgnkcohlfdddnaaDoorBpB
set_option linter.unusedVariables false
set_option linter.unusedSectionVars false
set_option linter.unusedSimpArgs false
set_option maxHeartbeats 2000000
set_option maxRecDepth 20000
namespace Go.Proofs.YtgnkcohlfdddnaaDoor
open Go Go.Sy Go.Bp
attribute [local irreducible] AO AL AC OpT ACall Ends DGo DRun Thn Blk Nxt
variable {z : Bool} {n i j m q s d L N : Nat} {p : Nat → Bool} {qs : List Nat}
def dsV (r : Nat × Nat × Bool) : AV := .tup [.val (.int .u16 (U r.1)), .val (.int .u16 (U r.2.1)), .val (.bool r.2.2)]
theorem drop_getD {α : Type} {l : List α} {d : α} : (l.drop n).getD i d = l.getD (n + i) d := by simp [List.getD_eq_getElem?_getD]
theorem U_0n : U 0 = 0 := rfl
theorem dflt_N : (default : Nat) = 0 := rfl
attribute [local irreducible] dsjG dsj
def djI (z : Bool) (qs : List Nat) (n : Nat) (i : {i : Nat // i ≤ n ∧ NoD (dsE qs) n i}) : St :=
  ⟨32, 0, [(0,.isl z (cX qs) n), (9,.isl z (cX qs) n), (10,.val (.int .i64 n)), (11,.val (.int .i64 i.val))], []⟩
def djJ (z : Bool) (qs : List Nat) (n i : Nat) (k : {k : Nat // i + k ≤ n ∧ NoJ (dsE qs) i (i + k)}) : St :=
  ⟨32, 0, [(0,.isl z (cX qs) n), (6,.val (.int .u16 (U (qs.getD i 0)))), (9,.isl z (cX qs) n), (10,.val (.int .i64 n)), (11,.val (.int .i64 i)), (18,.isl z (cX (qs.drop i)) (n - i)), (19,.val (.int .i64 ((n : Int) - i))), (20,.val (.int .i64 k.val))], []⟩
theorem dsj_ok (hl : qs.length = n) (hn : n ≤ 1000) (h0 : ∀ q ∈ qs, ¬ q % 65536 = 0) : ACall Tryd.prog 49 [.isl z (cX qs) n] [] 0 (dsV (dsj qs)) [] := by
  have he := dsE_eq h0
  rw [hl] at he
  clear h0
  refine ACall.enter Tryd.func49 rfl (by simp [Tryd.ntmps49]) (by simp) ?_; simp only [entry, idx, Tryd.ntmps49, List.length, List.map_cons, List.map_nil, List.append_nil, List.cons_append, List.nil_append, Nat.reduceAdd, Nat.zero_add, List.length_cons, List.length_nil]
  repeat' (first | (refine AC_loop_id ?_; refine AC_loop' [] ([].length) (djJ z qs n i) (fun k => n - i - k.val) (⟨0, by omega, NoE_i⟩) rfl (by unfold djJ; (try simp only [List.cons_append, List.nil_append]); refine Sub.mk2 ?_; (simp -dsimp (disch := first | exact vD | fail) only [push_cast, simprocAttr, c_Nat, drop_getD, dflt_N]); (repeat (refine aI ?_)); (first | done | (first | exact vI | fail)); done) ?_; (rintro ⟨k, hk, hnj⟩; (simp -dsimp (disch := first | exact vD | fail) only [push_cast, simprocAttr, djJ]))) | (refine Nxt_id ?_; refine Nxt.mk [] (⟨k + 1, by omega, NoJ_s hnj (dsE_f (by assumption))⟩) rfl (by unfold djJ; (try simp only [List.cons_append, List.nil_append]); refine Sub.mk2 ?_; (simp -dsimp (disch := first | exact vD | fail) only [push_cast, simprocAttr, c_Nat, drop_getD, dflt_N]); (repeat (refine aI ?_)); (first | done | (first | exact vI | fail)); done) (by first | omega | (simp; done) | (simp; omega))) | (refine AC_loop_id ?_; refine AC_loop' [] ([].length) (djI z qs n) (fun i => n - i.val) (⟨0, by omega, NoD_0⟩) rfl (by unfold djI; (try simp only [List.cons_append, List.nil_append]); refine Sub.mk2 ?_; (simp -dsimp (disch := first | exact vD | fail) only [push_cast, simprocAttr, c_Nat, drop_getD, dflt_N]); (repeat (refine aI ?_)); (first | done | (first | exact vI | fail)); done) ?_; (rintro ⟨i, hi, hnd⟩; (simp -dsimp (disch := first | exact vD | fail) only [push_cast, simprocAttr, djI]))) | (refine Nxt_id ?_; refine Nxt.mk [] (⟨i + 1, by omega, NoD_s hnd (by have e : i + k = n := (by omega); rw [e] at hnj; exact hnj)⟩) rfl (by unfold djI; (try simp only [List.cons_append, List.nil_append]); refine Sub.mk2 ?_; (simp -dsimp (disch := first | exact vD | fail) only [push_cast, simprocAttr, c_Nat, drop_getD, dflt_N]); (repeat (refine aI ?_)); (first | done | (first | exact vI | fail)); done) (by first | omega | (simp; done) | (simp; omega))) | (refine AC_seq ?_) | (refine AC_region_lit ?_) | ((first | refine AL_go rfl (fun K hK => ?_) | refine AL_go0 (fun K hK => ?_)); (first | refine R_move _ ?_ | refine R_assign _ ?_ | refine Q_load _ _ ?_ | refine Q_loadAgg _ _ ?_ | refine Q_indexAddr _ _ _ ?_ | refine Q_indexArr _ _ _ ?_ | refine Q_len _ _ ?_ | refine Q_lenStr _ _ ?_ | refine Q_sliceStr _ _ _ _ ?_ | refine Q_sliceI _ _ _ _ ?_ | refine Q_eqAgg _ _ _ _ ?_ | refine Q_neqAgg _ _ _ _ ?_ | refine Q_neqSelf _ _ _ _ ?_ | refine Q_bin _ _ _ _ _ ?_); simp -dsimp (disch := first | exact vD | fail) only [push_cast, simprocAttr, c_Nat, drop_getD, dflt_N]; (repeat (refine aI ?_)); (first | refine hK _ _ _ ?_ | refine hK _ _ ?_); clear hK K) | ((first | refine AL_go rfl (fun K hK => ?_) | refine AL_go0 (fun K hK => ?_)); (first | refine Q_slice _ _ _ _ ?_); simp -dsimp (disch := first | exact vD | fail) only [push_cast, simprocAttr, c_Nat, drop_getD, dflt_N]; (repeat (refine aI ?_)); (first | refine hK _ _ _ ?_ | refine hK _ _ ?_); clear hK K) | ((first | refine AL_go rfl (fun K hK => ?_) | refine AL_go0 (fun K hK => ?_)); (first | refine Q_sliceEnd _ _ _ _ ?_); simp -dsimp (disch := first | exact vD | fail) only [push_cast, simprocAttr, c_Nat, drop_getD, dflt_N]; (repeat (refine aI ?_)); (first | refine hK _ _ _ ?_ | refine hK _ _ ?_); clear hK K) | ((first | refine AL_go rfl (fun K hK => ?_) | refine AL_go0 (fun K hK => ?_)); (first | refine Q_sliceX _ _ _ _ ?_); simp -dsimp (disch := first | exact vD | fail) only [push_cast, simprocAttr, c_Nat, drop_getD, dflt_N]; (repeat (refine aI ?_)); (first | refine hK _ _ _ ?_ | refine hK _ _ ?_); clear hK K) | ((first | refine AL_guard rfl rfl (fun K1 K2 h1 h2 => ?_) rfl | refine AC_cond_k (fun K1 K2 h1 h2 => ?_)); simp -dsimp (disch := first | exact vD | fail) only [push_cast, simprocAttr, c_Nat, drop_getD, dflt_N]; (first | (refine ⟨fun hc => ?_, fun hc => ?_⟩ <;> first | (exfalso; omega) | (exfalso; contradiction) | refine h1 ?_ | refine h2 ?_) | refine h1 ?_ | refine h2 ?_); all_goals clear h1 h2 K1 K2) | (refine AL_nil ?_) | (refine Thn_normal ?_) | (refine Thn_ret ?_) | (refine Thn_exit ?_) | (refine Blk_normal ?_) | (refine Blk_ret ?_) | (refine Blk_here ?_) | (refine Blk_other rfl ?_) | (refine AC_block ?_) | (refine AC_exit ?_) | (refine AC_skip ?_) | (refine AC_ret ?_))
  all_goals first
    | (have e : dsj qs = (qs.getD i 0, qs.getD (i + k) 0, true) := dsj_t (by rw [hl, ← he]; exact dsjG_hit (by omega) (by omega) hnd hnj (dsE_t (by omega) (by assumption)))
       rw [e]; unfold dsV; (refine Ends.mk2 (by first | exact .inr rfl | exact .inl rfl) [] ?_; simp -dsimp (disch := first | exact vD | fail) only [push_cast, simprocAttr, Tryd.f49]; (repeat (refine aI ?_)); try (first | exact vI | fail)); done)
    | (have e : dsj qs = (0, 0, false) := dsj_f (by rw [hl, ← he]; have e2 : i = n := (by omega); rw [e2] at hnd; exact dsjG_none hnd)
       rw [e]; unfold dsV; (refine Ends.mk2 (by first | exact .inr rfl | exact .inl rfl) [] ?_; simp -dsimp (disch := first | exact vD | fail) only [push_cast, simprocAttr, Tryd.f49, U_0n]; (repeat (refine aI ?_)); try (first | exact vI | fail)); done)
    | trace_state
def rpI (z : Bool) (qs : List Nat) (n : Nat) (i : {i : Nat // i ≤ n ∧ NoD (dsD qs) n i}) : St :=
  ⟨37, 0, [(0,.isl z (cX qs) n), (5,.val (.int .i64 i.val))], []⟩
def rpJ (z : Bool) (qs : List Nat) (n i : Nat) (j : {j : Nat // j ≤ n ∧ NoJ (dsD qs) i j}) : St :=
  ⟨37, 0, [(0,.isl z (cX qs) n), (5,.val (.int .i64 i)), (6,.val (.int .i64 j.val))], []⟩
end Go.Proofs.YtgnkcohlfdddnaaDoor
