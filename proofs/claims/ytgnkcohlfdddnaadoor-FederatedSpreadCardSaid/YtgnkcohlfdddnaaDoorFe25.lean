/- Whether a federation is small; the same lists. No condition. -/
import Derived.Test.YtgnkcohlfdddnaaDoorFe11
import Derived.Test.YtgnkcohlfdddnaaDoorEc2
set_option linter.unusedVariables false
set_option linter.unusedSectionVars false
set_option linter.unusedSimpArgs false
set_option maxHeartbeats 2000000
set_option maxRecDepth 20000
namespace Go.Proofs.YtgnkcohlfdddnaaDoor
open Go Go.Sy Go.Bp
attribute [local irreducible] AO AL AC OpT ACall Ends DGo DRun Thn Blk Nxt
variable {z zl zr : Bool} {n i j m q s b : Nat} {a : Int} {x : Ex} {l r : List Ex} {qs : List Nat}
def fewL (l : List Ex) : Bool := decide (l.length ≤ 14) && l.all fewB
theorem fewL_n (h : 14 < l.length) : fewL l = false := by unfold fewL; rw [decide_eq_false (by omega)]; rfl
theorem fewL_at (hj : j < l.length) (h : fewB (l.getD j default) = false) : fewL l = false := by
  have : l.all fewB = false := by
    rw [List.all_eq_false]
    exact ⟨_, getD_mem (d := default) hj, by rw [h]; simp⟩
  rw [fewL, this, Bool.and_false]
theorem fewL_end (h14 : l.length ≤ 14) (h : ∀ i, i < l.length → fewB (l.getD i default) = true) : fewL l = true := by
  have : l.all fewB = true := by
    rw [List.all_eq_true]
    intro x hx
    obtain ⟨i, hi, rfl⟩ := List.getElem_of_mem hx
    have := h i hi
    rwa [List.getD_eq_getElem?_getD, List.getElem?_eq_getElem hi, Option.getD_some] at this
  rw [fewL, this, decide_eq_true h14]; rfl
def fxI (z : Bool) (l : List Ex) (n : Nat) (i : {i : Nat // i ≤ n ∧ ∀ k, k < i → fewB (l.getD k default) = true}) : St :=
  ⟨19, 0, [(0,.isl z (cR l) n), (3,.val (.int .i64 i.val))], []⟩
theorem fewx_ok (hl : l.length = n) (hn : n < 2^47) (hs : ∀ y ∈ l, Short y) : ACall Tryd.prog 31 [.isl z (cR l) n] [] 0 (.val (.bool (fewL l))) [] := by
  subst hl
  have hf := fun (j : Nat) (h : j < l.length) => PLift.up (few_ok (hs (l.getD j default) (getD_mem h)))
  have hfb := dmy_def
  refine ACall.enter Tryd.func31 rfl (by simp [Tryd.ntmps31]) (by simp) ?_; simp only [entry, idx, Tryd.ntmps31, List.length, List.map_cons, List.map_nil, List.append_nil, List.cons_append, List.nil_append, Nat.reduceAdd, Nat.zero_add, List.length_cons, List.length_nil]
  repeat' (first | (refine AC_loop_id ?_; refine AC_loop' [] ([].length) (fxI z l l.length) (fun i => l.length - i.val) (⟨0, by omega, fun k h => absurd h (by omega)⟩) rfl (by unfold fxI; (try simp only [List.cons_append, List.nil_append]); refine Sub.mk2 ?_; (simp -dsimp (disch := first | exact vD | fail) only [push_cast, simprocAttr, hfb]); (repeat (refine aI ?_)); (first | done | (first | exact vI | fail)); done) ?_; (rintro ⟨i, hi, ho⟩; rcases Nat.lt_or_eq_of_le hi with hil | hil <;> first | (have ei : l.length = i := hil.symm; subst ei; (simp -dsimp (disch := first | exact vD | fail) only [push_cast, simprocAttr, fxI])) | (rcases Bool.eq_false_or_eq_true (fewB (l.getD i default)) with hfb | hfb <;> (simp -dsimp (disch := first | exact vD | fail) only [push_cast, simprocAttr, fxI])))) | (refine Nxt_id ?_; refine Nxt.mk [] (⟨i + 1, by omega, nx_eq (f := fun i => fewB (l.getD i default)) (g := fun _ => true) ho hfb⟩) rfl (by unfold fxI; (try simp only [List.cons_append, List.nil_append]); refine Sub.mk2 ?_; (simp -dsimp (disch := first | exact vD | fail) only [push_cast, simprocAttr, hfb]); (repeat (refine aI ?_)); (first | done | (first | exact vI | fail)); done) (by first | omega | (simp; done) | (simp; omega))) | (refine AC_seq ?_) | (refine AC_region_lit ?_) | ((first | refine AL_go rfl (fun K hK => ?_) | refine AL_go0 (fun K hK => ?_)); (first | refine R_callG (f := 62) [] 0 false ?_); simp -dsimp (disch := first | exact vD | fail) only [push_cast, simprocAttr, hfb]; (repeat (refine aI ?_)); intro G hG; refine hG _ _ ?_; clear hG G; (first | refine ⟨_, _, (hf i (by omega)).down, ?_⟩); simp -dsimp (disch := first | exact vD | fail) only [push_cast, simprocAttr, hfb]; (repeat (refine aI ?_)); (first | refine hK _ _ _ ?_ | refine hK _ _ ?_); clear hK K) | ((first | refine AL_go rfl (fun K hK => ?_) | refine AL_go0 (fun K hK => ?_)); (first | refine R_move _ ?_ | refine R_assign _ ?_ | refine Q_load _ _ ?_ | refine Q_loadAgg _ _ ?_ | refine Q_indexAddr _ _ _ ?_ | refine Q_indexArr _ _ _ ?_ | refine Q_len _ _ ?_ | refine Q_lenStr _ _ ?_ | refine Q_not _ _ ?_ | refine Q_neg _ _ ?_ | refine Q_bin _ _ _ _ _ ?_); simp -dsimp (disch := first | exact vD | fail) only [push_cast, simprocAttr, hfb]; (repeat (refine aI ?_)); (first | refine hK _ _ _ ?_ | refine hK _ _ ?_); clear hK K) | ((first | refine AL_guard rfl rfl (fun K1 K2 h1 h2 => ?_) rfl | refine AC_cond_k (fun K1 K2 h1 h2 => ?_)); simp -dsimp (disch := first | exact vD | fail) only [push_cast, simprocAttr, hfb]; (first | (refine ⟨fun hc => ?_, fun hc => ?_⟩ <;> first | (exfalso; omega) | (exfalso; contradiction) | refine h1 ?_ | refine h2 ?_) | refine h1 ?_ | refine h2 ?_); all_goals clear h1 h2 K1 K2) | (refine AL_nil ?_) | (refine Thn_normal ?_) | (refine Thn_ret ?_) | (refine Thn_exit ?_) | (refine Blk_normal ?_) | (refine Blk_ret ?_) | (refine Blk_here ?_) | (refine Blk_other rfl ?_) | (refine AC_block ?_) | (refine AC_exit ?_) | (refine AC_skip ?_) | (refine AC_ret ?_))
  all_goals first
    | (have e := fewL_n (l := l) (by omega); (refine Ends.mk2 (by first | exact .inr rfl | exact .inl rfl) [] ?_; simp -dsimp (disch := first | exact vD | fail) only [push_cast, simprocAttr, Tryd.f31, e]; (repeat (refine aI ?_)); try (first | exact vI | fail)); done)
    | (have e := fewL_at (l := l) hil hfb; (refine Ends.mk2 (by first | exact .inr rfl | exact .inl rfl) [] ?_; simp -dsimp (disch := first | exact vD | fail) only [push_cast, simprocAttr, Tryd.f31, e]; (repeat (refine aI ?_)); try (first | exact vI | fail)); done)
    | (have e := fewL_end (l := l) (by omega) ho; (refine Ends.mk2 (by first | exact .inr rfl | exact .inl rfl) [] ?_; simp -dsimp (disch := first | exact vD | fail) only [push_cast, simprocAttr, Tryd.f31, e]; (repeat (refine aI ?_)); try (first | exact vI | fail)); done)
    | trace_state
def sxI (zl zr : Bool) (l r : List Ex) (n : Nat) (i : {i : Nat // i ≤ n}) : St :=
  ⟨27, 0, [(0,.isl zl (cR l) n), (1,.isl zr (cR r) n), (5,.val (.int .i64 i.val))], []⟩
def s8I (zl zr : Bool) (qs : List Nat) (n : Nat) (i : {i : Nat // i ≤ n}) : St :=
  ⟨26, 0, [(0,.isl zl (cX qs) n), (1,.isl zr (cX qs) n), (5,.val (.int .i64 i.val))], []⟩
theorem same8_ok (hl : qs.length = n) (hn : n < 2^47) : ACall Tryd.prog 15 [.isl zl (cX qs) n, .isl zr (cX qs) n] [] 0 (.val (.bool true)) [] := by
  refine ACall.enter Tryd.func15 rfl (by simp [Tryd.ntmps15]) (by simp) ?_; simp only [entry, idx, Tryd.ntmps15, List.length, List.map_cons, List.map_nil, List.append_nil, List.cons_append, List.nil_append, Nat.reduceAdd, Nat.zero_add, List.length_cons, List.length_nil]
  repeat' (first | (refine AC_loop_id ?_; refine AC_loop' [] ([].length) (s8I zl zr qs n) (fun i => n - i.val) (⟨0, by omega⟩) rfl (by unfold s8I; (try simp only [List.cons_append, List.nil_append]); refine Sub.mk2 ?_; (simp -dsimp (disch := first | exact vD | fail) only [push_cast, simprocAttr, c_Nat]); (repeat (refine aI ?_)); (first | done | (first | exact vI | fail)); done) ?_; (rintro ⟨i, hi⟩; (simp -dsimp (disch := first | exact vD | fail) only [push_cast, simprocAttr, s8I]))) | (refine Nxt_id ?_; refine Nxt.mk [] (⟨i + 1, by omega⟩) rfl (by unfold s8I; (try simp only [List.cons_append, List.nil_append]); refine Sub.mk2 ?_; (simp -dsimp (disch := first | exact vD | fail) only [push_cast, simprocAttr, c_Nat]); (repeat (refine aI ?_)); (first | done | (first | exact vI | fail)); done) (by first | omega | (simp; done) | (simp; omega))) | (refine AC_seq ?_) | (refine AC_region_lit ?_) | ((first | refine AL_go rfl (fun K hK => ?_) | refine AL_go0 (fun K hK => ?_) | refine DG_run (fun K hK => ?_)); (first | refine R_move _ ?_ | refine R_assign _ ?_ | refine Q_load _ _ ?_ | refine Q_loadAgg _ _ ?_ | refine Q_indexAddr _ _ _ ?_ | refine Q_indexArr _ _ _ ?_ | refine Q_len _ _ ?_ | refine Q_lenStr _ _ ?_ | refine Q_eqAgg _ _ _ _ ?_ | refine Q_neqAgg _ _ _ _ ?_ | refine Q_neqSelf _ _ _ _ ?_ | refine Q_bin _ _ _ _ _ ?_); simp -dsimp (disch := first | exact vD | fail) only [push_cast, simprocAttr, c_Nat]; (repeat (refine aI ?_)); (first | refine hK _ _ _ ?_ | refine hK _ _ ?_); clear hK K) | ((first | refine AL_guard rfl rfl (fun K1 K2 h1 h2 => ?_) rfl | refine AC_cond_k (fun K1 K2 h1 h2 => ?_) | refine DG_guard rfl rfl (fun K1 K2 h1 h2 => ?_)); simp -dsimp (disch := first | exact vD | fail) only [push_cast, simprocAttr, c_Nat]; (first | (refine ⟨fun hc => ?_, fun hc => ?_⟩ <;> first | (exfalso; omega) | (exfalso; contradiction) | refine h1 ?_ | refine h2 ?_) | refine h1 ?_ | refine h2 ?_); all_goals clear h1 h2 K1 K2) | (refine AC_draw (id := 6) (by kernel_rfl) [⟨0, [], [18, 21, 22, 23, 24], [], [], 0⟩, ⟨1, [], [17, 21, 22, 23, 24], [], [], 0⟩, ⟨2, [0, 1], [21, 22, 23, 24], [], [], 0⟩, ⟨3, [0, 1, 2], [21, 22, 23, 24], [], [], 0⟩, ⟨4, [], [17, 18, 19, 20, 22], [], [], 0⟩, ⟨5, [], [17, 18, 19, 20, 21], [], [], 0⟩, ⟨6, [4, 5], [17, 18, 19, 20], [], [], 0⟩, ⟨7, [4, 5, 6], [17, 18, 19, 20], [], [], 0⟩, ⟨8, [0, 1, 2, 3, 4, 5, 6, 7], [], [], [], 0⟩] (by kernel_rfl) (by kernel_rfl) (by kernel_rfl) ?_) | ((first | refine DG_next' (by kernel_rfl) (fun K hK => ?_) | refine DG_nil (by kernel_rfl) (fun K hK => ?_)); simp only [↓Go.Sy.dsnE_some, ↓Go.Sy.dsnE_none, ↓Go.Sy.dsnE_nil, ↓Go.Sy.dsnO_snoc, ↓Go.Sy.dsnO_nil, ↓Go.Sy.nidAt_snoc, ↓Go.Sy.nidAt_nil, push_cast, Nat.reduceLeDiff, Nat.reduceSub, Nat.reduceBEq, Nat.reduceEqDiff, Nat.reduceAdd, Nat.reduceLT, ↓reduceIte, reduceCtorEq]; refine hK _ _ _ ?_; clear hK K) | (refine DG_go ?_) | (refine AL_nil ?_) | (refine Thn_normal ?_) | (refine Thn_ret ?_) | (refine Thn_exit ?_) | (refine Blk_normal ?_) | (refine Blk_ret ?_) | (refine Blk_here ?_) | (refine Blk_other rfl ?_) | (refine AC_block ?_) | (refine AC_exit ?_) | (refine AC_skip ?_) | (refine AC_ret ?_))
  all_goals first
    | ((refine Ends.mk2 (by first | exact .inr rfl | exact .inl rfl) [] ?_; simp -dsimp (disch := first | exact vD | fail) only [push_cast, simprocAttr, Tryd.f15]; (repeat (refine aI ?_)); try (first | exact vI | fail)); done)
    | trace_state
end Go.Proofs.YtgnkcohlfdddnaaDoor
