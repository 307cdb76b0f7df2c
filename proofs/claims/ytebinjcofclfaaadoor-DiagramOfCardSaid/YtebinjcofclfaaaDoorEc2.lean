/- Whether an expression is small. No condition. -/
import Derived.Test.YtebinjcofclfaaaDoorExA
set_option linter.unusedVariables false
set_option linter.unusedSectionVars false
set_option linter.unusedSimpArgs false
set_option maxHeartbeats 2000000
set_option maxRecDepth 20000
namespace Go.Proofs.YtebinjcofclfaaaDoor
open Go Go.Sy Go.Bp
attribute [local irreducible] AO AL AC OpT ACall Ends DGo DRun Thn Blk Nxt
variable {z zl : Bool} {n i j m q s b : Nat} {a : Int} {x : Ex} {t : Nd} {l : List Ex} {p r : Bool}
def fsJ (x : Ex) : Nat → Int
  | 0 => 0
  | i + 1 => IntKind.i64.wrap (IntKind.i64.wrap (fsJ x i + (x.nodes.getD i default).k.length) + (x.nodes.getD i default).w.length)
theorem fsJ_0 : fsJ x 0 = 0 := rfl
theorem fsJ_s : IntKind.i64.wrap (IntKind.i64.wrap (fsJ x i + (x.nodes.getD i default).k.length) + (x.nodes.getD i default).w.length) = fsJ x (i + 1) := rfl
def fewB (x : Ex) : Bool := decide (x.nodes.length ≤ 70) && decide (fsJ x x.nodes.length ≤ 400)
theorem fewB_1 (h : x.nodes.length ≤ 70) : fewB x = decide (fsJ x x.nodes.length ≤ 400) := by unfold fewB; rw [decide_eq_true h, Bool.true_and]
theorem fewB_2 (h : ¬ x.nodes.length ≤ 70) : fewB x = false := by unfold fewB; rw [decide_eq_false h, Bool.false_and]
def feI (x : Ex) (i : {i : Nat // i ≤ x.nodes.length}) : St :=
  ⟨37, 0, [(1,.pt 0 0), (3,.val (.int .i64 (fsJ x i.val))), (4,.val (.int .i64 i.val))], [(0, some (.cells (Cells.cells x) 64))]⟩
theorem few_ok (hx : Short x) : ACall Tryd.prog 35 [.agg (Cells.cells x)] [] 0 (.val (.bool (fewB x))) [] := by
  have h1 := hx.1
  have h2 := hx.2
  refine ACall.enter Tryd.func35 rfl (by simp [Tryd.ntmps35]) (by simp) ?_; simp only [entry, idx, Tryd.ntmps35, List.length, List.map_cons, List.map_nil, List.append_nil, List.cons_append, List.nil_append, Nat.reduceAdd, Nat.zero_add, List.length_cons, List.length_nil]
  repeat' (first | (refine AC_loop_id ?_; refine AC_loop' [0] ([0].length) (feI x) (fun i => x.nodes.length - i.val) (⟨0, by omega⟩) rfl (by unfold feI; (try simp only [List.cons_append, List.nil_append]); refine Sub.mk2 ?_; (simp -dsimp (disch := try exact vD) only [push_cast, simprocAttr, fsJ_0, fsJ_s]); (repeat refine aI ?_); first | done | exact vI) ?_; (rintro ⟨i, hi⟩; rcases Nat.lt_or_eq_of_le hi with hil | hil <;> first | (have ei : x.nodes.length = i := hil.symm; subst ei; (simp -dsimp (disch := try exact vD) only [push_cast, simprocAttr, feI])) | (have hw := h2 i hil; (simp -dsimp (disch := try exact vD) only [push_cast, simprocAttr, feI])))) | (refine Nxt_id ?_; refine Nxt.mk [0] (⟨i + 1, by omega⟩) rfl (by unfold feI; (try simp only [List.cons_append, List.nil_append]); refine Sub.mk2 ?_; (simp -dsimp (disch := try exact vD) only [push_cast, simprocAttr, fsJ_0, fsJ_s]); (repeat refine aI ?_); first | done | exact vI) (by first | omega | (dsimp only; omega) | (simp; done) | (simp; omega))) | apply AC_seq | apply AC_region_lit | ((first | refine AL_go rfl (fun K hK => ?_) | refine AL_go0 (fun K hK => ?_) | refine DG_run (fun K hK => ?_)); (first | apply R_move | apply R_assign | apply Q_load | apply Q_loadAgg | apply Q_fieldAddr | apply Q_indexAddr | apply Q_indexArr | apply Q_len | apply Q_lenStr | apply Q_pick | apply Q_box | apply Q_bin); simp -dsimp (disch := try exact vD) only [push_cast, simprocAttr, fsJ_0, fsJ_s]; (repeat refine aI ?_); apply hK; clear hK K) | ((first | refine AL_guard rfl rfl (fun K1 K2 h1 h2 => ?_) rfl | refine AC_cond_k (fun K1 K2 h1 h2 => ?_) | refine DG_guard rfl rfl (fun K1 K2 h1 h2 => ?_)); simp -dsimp (disch := try exact vD) only [push_cast, simprocAttr, fsJ_0, fsJ_s]; (first | (refine ⟨fun hc => ?_, fun hc => ?_⟩ <;> first | (exfalso; omega) | (exfalso; contradiction) | refine h1 ?_ | refine h2 ?_) | refine h1 ?_ | refine h2 ?_); all_goals clear h1 h2 K1 K2) | (refine AC_draw (id := 5) (by kernel_rfl) [⟨0, [], [13, 14, 15, 16, 17, 18, 19, 21, 22, 23, 24, 25, 26, 27], [], [], 0⟩, ⟨1, [], [12, 15, 21, 22, 23, 24, 25, 26, 27], [], [], 0⟩, ⟨2, [1], [12, 15, 21, 22, 23, 24, 25, 26, 27], [], [], 0⟩, ⟨3, [], [12, 13, 14, 21, 22, 23, 24, 25, 26, 27], [], [], 0⟩, ⟨4, [1, 2, 3], [12, 21, 22, 23, 24, 25, 26, 27], [], [], 0⟩, ⟨5, [1, 2, 3, 4], [12, 21, 22, 23, 24, 25, 26, 27], [], [], 0⟩, ⟨6, [1, 2, 3, 4, 5], [12, 21, 22, 23, 24, 25, 26, 27], [], [], 0⟩, ⟨7, [1, 2, 3, 4, 5, 6], [12, 21, 22, 23, 24, 25, 26, 27], [], [], 0⟩, ⟨8, [0, 1, 2, 3, 4, 5, 6, 7], [21, 22, 23, 24, 25, 26, 27], [], [], 0⟩, ⟨9, [], [12, 13, 14, 15, 16, 17, 18, 19, 20, 23], [], [], 0⟩, ⟨10, [9], [12, 13, 14, 15, 16, 17, 18, 19, 20, 23], [], [], 0⟩, ⟨11, [], [12, 13, 14, 15, 16, 17, 18, 19, 20, 21, 22], [], [], 0⟩, ⟨12, [9, 10, 11], [12, 13, 14, 15, 16, 17, 18, 19, 20], [], [], 0⟩, ⟨13, [9, 10, 11, 12], [12, 13, 14, 15, 16, 17, 18, 19, 20], [], [], 0⟩, ⟨14, [9, 10, 11, 12, 13], [12, 13, 14, 15, 16, 17, 18, 19, 20], [], [], 0⟩, ⟨15, [9, 10, 11, 12, 13, 14], [12, 13, 14, 15, 16, 17, 18, 19, 20], [], [], 0⟩, ⟨16, [0, 1, 2, 3, 4, 5, 6, 7, 8, 9, 10, 11, 12, 13, 14, 15], [], [], [], 0⟩, ⟨17, [0, 1, 2, 3, 4, 5, 6, 7, 8, 9, 10, 11, 12, 13, 14, 15, 16], [], [], [], 0⟩] (by kernel_rfl) (by kernel_rfl) (by kernel_rfl) ?_) | ((first | refine DG_next' (by kernel_rfl) (fun K hK => ?_) | refine DG_nil (by kernel_rfl) (fun K hK => ?_)); simp only [↓Go.Sy.dsnE_some, ↓Go.Sy.dsnE_none, ↓Go.Sy.dsnE_nil, ↓Go.Sy.dsnO_snoc, ↓Go.Sy.dsnO_nil, ↓Go.Sy.nidAt_snoc, ↓Go.Sy.nidAt_nil, push_cast, Nat.reduceLeDiff, Nat.reduceSub, Nat.reduceBEq, Nat.reduceEqDiff, Nat.reduceAdd, Nat.reduceLT, ↓reduceIte, reduceCtorEq]; refine hK _ _ _ ?_; clear hK K) | apply DG_go | apply AL_nil | apply Thn_normal | apply Thn_ret | apply Thn_exit | apply Blk_normal | apply Blk_ret | apply Blk_here | (refine Blk_other rfl ?_) | apply AC_block | apply AC_exit | apply AC_skip | apply AC_ret)
  all_goals first
    | (have e := fewB_1 (x := x) (by omega); (refine Ends.mk2 (by first | exact .inr rfl | exact .inl rfl) [] ?_; simp -dsimp (disch := try exact vD) only [push_cast, simprocAttr, Tryd.f35, e]; (repeat refine aI ?_); try (first | exact vI | fail)); done)
    | (have e := fewB_2 (x := x) (by omega); (refine Ends.mk2 (by first | exact .inr rfl | exact .inl rfl) [] ?_; simp -dsimp (disch := try exact vD) only [push_cast, simprocAttr, Tryd.f35, e]; (repeat refine aI ?_); try (first | exact vI | fail)); done)
theorem fsJ_eq (hx : Short x) (h : x.nodes.length ≤ 70) (hi : i ≤ x.nodes.length) : 0 ≤ fsJ x i ∧ fsJ x i ≤ 281474976710656 * i ∧ ∀ j, j < i → ((x.nodes.getD j default).k.length : Int) ≤ fsJ x i ∧ ((x.nodes.getD j default).w.length : Int) ≤ fsJ x i := by
  induction i with
  | zero => exact ⟨by simp [fsJ], by simp [fsJ], fun j hj => by omega⟩
  | succ i ih =>
    obtain ⟨h1, h2, h3⟩ := ih (by omega)
    have h4 := hx.2 i (by omega)
    have e : fsJ x (i + 1) = fsJ x i + (x.nodes.getD i default).k.length + (x.nodes.getD i default).w.length := by
      have e0 : IntKind.i64.wrap (fsJ x i + (x.nodes.getD i default).k.length) = fsJ x i + (x.nodes.getD i default).k.length := w_i64 (by omega)
      rw [fsJ, e0, w_i64 (by omega)]
    refine ⟨by omega, by rw [e]; push_cast; omega, fun j hj => ?_⟩
    by_cases ej : j = i
    · subst ej; rw [e]; omega
    · have := h3 j (by omega); rw [e]; omega
theorem few_of (hx : Short x) (h : fewB x = true) : x.nodes.length ≤ 70 ∧ ∀ j, j < x.nodes.length → (x.nodes.getD j default).k.length ≤ 400 ∧ (x.nodes.getD j default).w.length ≤ 400 := by
  simp only [fewB, Bool.and_eq_true, decide_eq_true_eq] at h
  obtain ⟨_, _, h3⟩ := fsJ_eq hx h.1 (Nat.le_refl _)
  exact ⟨h.1, fun j hj => by have := h3 j hj; omega⟩
end Go.Proofs.YtebinjcofclfaaaDoor
