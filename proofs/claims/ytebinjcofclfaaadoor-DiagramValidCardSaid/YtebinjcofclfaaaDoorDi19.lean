/- Families: the reference's Valid, the program's Support. No condition. -/
import Derived.Test.YtebinjcofclfaaaDoorDi18
set_option linter.unusedVariables false
set_option linter.unusedSectionVars false
set_option linter.unusedSimpArgs false
set_option maxHeartbeats 4000000
set_option maxRecDepth 20000
namespace Go.Proofs.YtebinjcofclfaaaDoor
open Go Go.Sy Go.Bp Go.Dg
attribute [local irreducible] AO AL AC OpT ACall Ends DGo DRun Thn Blk Nxt
variable {n N M k i m r a b j w u v s q x y : Nat} {z : Bool} {xs : List Nat} {e1 : Int}
def rvA (z : Bool) (xs : List Nat) (n : Nat) (e1 : Int) (i : {i : Nat // i ≤ n ∧ fe xs (n - i) i = e1}) : St :=
  ⟨62, 0, [(0,.isl z (cX xs) n), (3,.val (.int .i64 i.val))], []⟩
def nohit (xs : List Nat) (n i : Nat) : Prop := ∀ k, k < n → ¬ i = k → ¬ sdif (xs.getD k default) (xs.getD i default) % 65536 = 0
def rvB (z : Bool) (xs : List Nat) (n : Nat) (i : {i : Nat // i ≤ n ∧ ∀ j, j < i → nohit xs n j}) : St :=
  ⟨62, 0, [(0,.isl z (cX xs) n), (4,.val (.int .i64 i.val))], []⟩
def rvC (z : Bool) (xs : List Nat) (n i : Nat) (k : {k : Nat // k ≤ n ∧ ∀ j, j < k → ¬ i = j → ¬ sdif (xs.getD j default) (xs.getD i default) % 65536 = 0}) : St :=
  ⟨62, 0, [(0,.isl z (cX xs) n), (4,.val (.int .i64 i)), (5,.val (.int .i64 k.val))], []⟩
def supA (xs : List Nat) : Nat → Nat
  | 0 => 0
  | j + 1 => sor (supA xs j) (xs.getD j default)
theorem supA_s : supA xs (j + 1) = sor (supA xs j) (xs.getD j default) := rfl
theorem supA_0 : supA xs 0 = 0 := rfl
def spI (z : Bool) (xs : List Nat) (n : Nat) (i : {i : Nat // i ≤ n}) : St :=
  ⟨17, 0, [(3,.val (.int .u16 (U (supA xs i.val)))), (6,.isl z (cX xs) n), (7,.val (.int .i64 n)), (8,.val (.int .i64 i.val))], []⟩
theorem support_ok (hl : xs.length = n) (hn : n < 2 ^ 40) : ACall Tryd.prog 50 [.isl z (cX xs) n] [] 0 (.val (.int .u16 (U (supA xs n)))) [] := by
  refine ACall.enter Tryd.func50 rfl (by simp [Tryd.ntmps50]) (by simp) ?_; simp only [entry, idx, Tryd.ntmps50, List.length, List.map_cons, List.map_nil, List.append_nil, List.cons_append, List.nil_append, Nat.reduceAdd, Nat.zero_add, List.length_cons, List.length_nil]
  repeat' (first | (refine AC_loop_id ?_; refine AC_loop' [] ([].length) (spI z xs n) (fun i => n - i.val) (⟨0, by omega⟩) rfl (by unfold spI; (try simp only [List.cons_append, List.nil_append]); refine Sub.mk2 ?_; (simp -dsimp (disch := try exact vD) only [push_cast, simprocAttr, c_Nat, supA_s, supA_0]); (repeat refine aI ?_); first | done | exact vI) ?_; (rintro ⟨i, hi⟩; rcases Nat.lt_or_eq_of_le hi with hil | hil <;> first | (have ei : n = i := hil.symm; subst ei; (simp -dsimp (disch := try exact vD) only [push_cast, simprocAttr, spI])) | (simp -dsimp (disch := try exact vD) only [push_cast, simprocAttr, spI]))) | (refine Nxt_id ?_; refine Nxt.mk [] (⟨i + 1, by omega⟩) rfl (by unfold spI; (try simp only [List.cons_append, List.nil_append]); refine Sub.mk2 ?_; (simp -dsimp (disch := try exact vD) only [push_cast, simprocAttr, c_Nat, supA_s, supA_0]); (repeat refine aI ?_); first | done | exact vI) (by first | omega | (dsimp only; omega) | (simp; done) | (simp; omega))) | apply AC_seq | apply AC_region_lit | ((first | refine AL_go rfl (fun K hK => ?_) | refine AL_go0 (fun K hK => ?_)); (first | apply R_move | apply R_assign | apply Q_load | apply Q_loadAgg | apply Q_indexAddr | apply Q_indexArr | apply Q_len | apply Q_lenStr | apply Q_bin); simp -dsimp (disch := try exact vD) only [push_cast, simprocAttr, c_Nat, supA_s, supA_0]; (repeat refine aI ?_); apply hK; clear hK K) | ((first | refine AL_guard rfl rfl (fun K1 K2 h1 h2 => ?_) rfl | refine AC_cond_k (fun K1 K2 h1 h2 => ?_)); simp -dsimp (disch := try exact vD) only [push_cast, simprocAttr, c_Nat, supA_s, supA_0]; (first | (refine ⟨fun hc => ?_, fun hc => ?_⟩ <;> first | (exfalso; omega) | (exfalso; contradiction) | refine h1 ?_ | refine h2 ?_) | refine h1 ?_ | refine h2 ?_); all_goals clear h1 h2 K1 K2) | apply AL_nil | apply Thn_normal | apply Thn_ret | apply Thn_exit | apply Blk_normal | apply Blk_ret | apply Blk_here | (refine Blk_other rfl ?_) | apply AC_block | apply AC_exit | apply AC_skip | apply AC_ret)
  all_goals first
    | ((refine Ends.mk2 (by first | exact .inr rfl | exact .inl rfl) [] ?_; simp -dsimp (disch := try exact vD) only [push_cast, simprocAttr, Tryd.f50]; (repeat refine aI ?_); try (first | exact vI | fail)); done)
    | trace_state
end Go.Proofs.YtebinjcofclfaaaDoor
