/- Whether things are few. No condition. -/
import Derived.Test.YtdeligopifoceaaDoorBu7
import Derived.Test.YtdeligopifoceaaDoorBu25
set_option linter.unusedVariables false
set_option linter.unusedSectionVars false
set_option linter.unusedSimpArgs false
set_option maxHeartbeats 2000000
set_option maxRecDepth 20000
namespace Go.Proofs.YtdeligopifoceaaDoor
open Go Go.Sy Go.Bp
attribute [local irreducible] AO AL AC OpT ACall Ends DGo DRun Thn Blk Nxt
variable {z zl : Bool} {n i j m q s b : Nat} {a : Int} {x : Ex} {t : Nd} {l : List Ex} {ss : List IL} {p r : Bool}
/-- The numbers of kids and weights, as they are reckoned. -/
def fsJ (x : Ex) : Nat → Int
  | 0 => 0
  | i + 1 => IntKind.i64.wrap (IntKind.i64.wrap (fsJ x i + (x.nodes.getD i default).k.length) + (x.nodes.getD i default).w.length)
theorem fsJ_0 : fsJ x 0 = 0 := rfl
theorem fsJ_s : IntKind.i64.wrap (IntKind.i64.wrap (fsJ x i + (x.nodes.getD i default).k.length) + (x.nodes.getD i default).w.length) = fsJ x (i + 1) := rfl
def fewB (x : Ex) : Bool := decide (x.nodes.length ≤ 70) && decide (fsJ x x.nodes.length ≤ 400)
theorem fewB_1 (h : x.nodes.length ≤ 70) : fewB x = decide (fsJ x x.nodes.length ≤ 400) := by unfold fewB; rw [decide_eq_true h, Bool.true_and]
theorem fewB_2 (h : ¬ x.nodes.length ≤ 70) : fewB x = false := by unfold fewB; rw [decide_eq_false h, Bool.false_and]
def feI (x : Ex) (i : {i : Nat // i ≤ x.nodes.length}) : St :=
  ⟨37, 0, [(1,.pt 0 0), (3,.val (.int .i64 (fsJ x i.val))), (4,.val (.int .i64 i.val))], [(0, some (.cells (Cells.cells x) 26))]⟩
theorem few_ok (hx : Short x) : ACall Tryd.prog 29 [.agg (Cells.cells x)] [] 0 (.val (.bool (fewB x))) [] := by
  have h1 := hx.1
  have h2 := hx.2
  refine ACall.enter Tryd.func29 rfl (by simp [Tryd.ntmps29]) (by simp) ?_
  simp only [entry, idx, Tryd.ntmps29, List.length, List.map_cons, List.map_nil, List.append_nil, List.cons_append, List.nil_append, Nat.reduceAdd, Nat.zero_add, List.length_cons, List.length_nil]
  repeat' (first | (refine AC_loop_id ?_; refine AC_loop' [0] ([0].length) (feI x) (fun i => x.nodes.length - i.val) (⟨0, by omega⟩) rfl (by unfold feI; (try simp only [List.cons_append, List.nil_append]); refine Sub.mk2 ?_; (simp (dsimp := false) (disch := first | exact vD | fail) only [push_cast, simprocAttr, fsJ_0, fsJ_s]); (repeat (refine aI ?_)); (first | done | (first | exact vI | fail)); done) ?_; (rintro ⟨i, hi⟩; rcases Nat.lt_or_eq_of_le hi with hil | hil <;> first | (have ei : x.nodes.length = i := hil.symm; subst ei; (simp (dsimp := false) (disch := first | exact vD | fail) only [push_cast, simprocAttr, feI])) | (have hw := h2 i hil; (simp (dsimp := false) (disch := first | exact vD | fail) only [push_cast, simprocAttr, feI])))) | (refine Nxt_id ?_; refine Nxt.mk [0] (⟨i + 1, by omega⟩) rfl (by unfold feI; (try simp only [List.cons_append, List.nil_append]); refine Sub.mk2 ?_; (simp (dsimp := false) (disch := first | exact vD | fail) only [push_cast, simprocAttr, fsJ_0, fsJ_s]); (repeat (refine aI ?_)); (first | done | (first | exact vI | fail)); done) (by first | omega | (simp; done) | (simp; omega))) | (refine AC_seq ?_) | (refine AC_region_lit ?_) | ((first | refine AL_go rfl (fun K hK => ?_) | refine AL_go0 (fun K hK => ?_) | refine DG_run (fun K hK => ?_)); (first | refine R_move _ ?_ | refine R_assign _ ?_ | refine Q_load _ _ ?_ | refine Q_loadAgg _ _ ?_ | refine Q_fieldAddr _ _ _ ?_ | refine Q_indexAddr _ _ _ ?_ | refine Q_indexArr _ _ _ ?_ | refine Q_len _ _ ?_ | refine Q_lenStr _ _ ?_ | refine Q_pick _ _ _ ?_ | refine Q_box _ _ ?_ | refine Q_bin _ _ _ _ _ ?_); simp (dsimp := false) (disch := first | exact vD | fail) only [push_cast, simprocAttr, fsJ_0, fsJ_s]; (repeat (refine aI ?_)); (first | refine hK _ _ _ ?_ | refine hK _ _ ?_); clear hK K) | ((first | refine AL_guard rfl rfl (fun K1 K2 h1 h2 => ?_) rfl | refine AC_cond_k (fun K1 K2 h1 h2 => ?_) | refine DG_guard rfl rfl (fun K1 K2 h1 h2 => ?_)); simp (dsimp := false) (disch := first | exact vD | fail) only [push_cast, simprocAttr, fsJ_0, fsJ_s]; (first | (refine ⟨fun hc => ?_, fun hc => ?_⟩ <;> first | (exfalso; omega) | (exfalso; contradiction) | refine h1 ?_ | refine h2 ?_) | refine h1 ?_ | refine h2 ?_); all_goals clear h1 h2 K1 K2) | (refine AC_draw (id := 5) (by kernel_rfl) [⟨0, [], [13, 14, 15, 16, 17, 18, 19, 21, 22, 23, 24, 25, 26, 27], [], [], 0⟩, ⟨1, [], [12, 15, 21, 22, 23, 24, 25, 26, 27], [], [], 0⟩, ⟨2, [1], [12, 15, 21, 22, 23, 24, 25, 26, 27], [], [], 0⟩, ⟨3, [], [12, 13, 14, 21, 22, 23, 24, 25, 26, 27], [], [], 0⟩, ⟨4, [1, 2, 3], [12, 21, 22, 23, 24, 25, 26, 27], [], [], 0⟩, ⟨5, [1, 2, 3, 4], [12, 21, 22, 23, 24, 25, 26, 27], [], [], 0⟩, ⟨6, [1, 2, 3, 4, 5], [12, 21, 22, 23, 24, 25, 26, 27], [], [], 0⟩, ⟨7, [1, 2, 3, 4, 5, 6], [12, 21, 22, 23, 24, 25, 26, 27], [], [], 0⟩, ⟨8, [0, 1, 2, 3, 4, 5, 6, 7], [21, 22, 23, 24, 25, 26, 27], [], [], 0⟩, ⟨9, [], [12, 13, 14, 15, 16, 17, 18, 19, 20, 23], [], [], 0⟩, ⟨10, [9], [12, 13, 14, 15, 16, 17, 18, 19, 20, 23], [], [], 0⟩, ⟨11, [], [12, 13, 14, 15, 16, 17, 18, 19, 20, 21, 22], [], [], 0⟩, ⟨12, [9, 10, 11], [12, 13, 14, 15, 16, 17, 18, 19, 20], [], [], 0⟩, ⟨13, [9, 10, 11, 12], [12, 13, 14, 15, 16, 17, 18, 19, 20], [], [], 0⟩, ⟨14, [9, 10, 11, 12, 13], [12, 13, 14, 15, 16, 17, 18, 19, 20], [], [], 0⟩, ⟨15, [9, 10, 11, 12, 13, 14], [12, 13, 14, 15, 16, 17, 18, 19, 20], [], [], 0⟩, ⟨16, [0, 1, 2, 3, 4, 5, 6, 7, 8, 9, 10, 11, 12, 13, 14, 15], [], [], [], 0⟩, ⟨17, [0, 1, 2, 3, 4, 5, 6, 7, 8, 9, 10, 11, 12, 13, 14, 15, 16], [], [], [], 0⟩] (by kernel_rfl) (by kernel_rfl) (by kernel_rfl) ?_) | ((first | refine DG_next' (by kernel_rfl) (fun K hK => ?_) | refine DG_nil (by kernel_rfl) (fun K hK => ?_)); simp only [↓Go.Sy.dsnE_some, ↓Go.Sy.dsnE_none, ↓Go.Sy.dsnE_nil, ↓Go.Sy.dsnO_snoc, ↓Go.Sy.dsnO_nil, ↓Go.Sy.nidAt_snoc, ↓Go.Sy.nidAt_nil, push_cast, Nat.reduceLeDiff, Nat.reduceSub, Nat.reduceBEq, Nat.reduceEqDiff, Nat.reduceAdd, Nat.reduceLT, ↓reduceIte, reduceCtorEq]; refine hK _ _ _ ?_; clear hK K) | (refine DG_go ?_) | (refine AL_nil ?_) | (refine Thn_normal ?_) | (refine Thn_ret ?_) | (refine Thn_exit ?_) | (refine Blk_normal ?_) | (refine Blk_ret ?_) | (refine Blk_here ?_) | (refine Blk_other rfl ?_) | (refine AC_block ?_) | (refine AC_exit ?_) | (refine AC_skip ?_) | (refine AC_ret ?_))
  all_goals first
    | (have e := fewB_1 (x := x) (by omega); (refine Ends.mk2 (by first | exact .inr rfl | exact .inl rfl) [] ?_; simp (dsimp := false) (disch := first | exact vD | fail) only [push_cast, simprocAttr, Tryd.f29, e]; (repeat (refine aI ?_)); try (first | exact vI | fail)); done)
    | (have e := fewB_2 (x := x) (by omega); (refine Ends.mk2 (by first | exact .inr rfl | exact .inl rfl) [] ?_; simp (dsimp := false) (disch := first | exact vD | fail) only [push_cast, simprocAttr, Tryd.f29, e]; (repeat (refine aI ?_)); try (first | exact vI | fail)); done)
theorem fsJ_eq (hx : Short x) (h : x.nodes.length ≤ 70) (hi : i ≤ x.nodes.length) : 0 ≤ fsJ x i ∧ fsJ x i ≤ 281474976710656 * i ∧ ∀ j, j < i → ((x.nodes.getD j default).k.length : Int) ≤ fsJ x i ∧ ((x.nodes.getD j default).w.length : Int) ≤ fsJ x i := by
  induction i with
  | zero => exact ⟨by simp [fsJ], by simp [fsJ], fun j hj => by omega⟩
  | succ i ih =>
    obtain ⟨h1, h2, h3⟩ := ih (by omega)
    have h4 := hx.2 i (by omega)
    have e : fsJ x (i + 1) = fsJ x i + (x.nodes.getD i default).k.length + (x.nodes.getD i default).w.length := by
      have e0 : IntKind.i64.wrap (fsJ x i + (x.nodes.getD i default).k.length) = fsJ x i + (x.nodes.getD i default).k.length := w_i64 (by omega)
      rw [fsJ, e0, w_i64 (by omega)]
    refine ⟨by omega, by rw [e]; push_cast; omega, fun j hj => ?_⟩
    by_cases ej : j = i
    · subst ej; rw [e]; omega
    · have := h3 j (by omega); rw [e]; omega
theorem few_of (hx : Short x) (h : fewB x = true) : x.nodes.length ≤ 70 ∧ ∀ j, j < x.nodes.length → (x.nodes.getD j default).k.length ≤ 400 ∧ (x.nodes.getD j default).w.length ≤ 400 := by
  simp only [fewB, Bool.and_eq_true, decide_eq_true_eq] at h
  obtain ⟨_, _, h3⟩ := fsJ_eq hx h.1 (Nat.le_refl _)
  exact ⟨h.1, fun j hj => by have := h3 j hj; omega⟩
def fewS (ss : List IL) : Bool := ss.all (fun s => decide (s.l.length ≤ 20)) && decide (ss.length ≤ 20)
theorem fewS_at (hj : j < ss.length) (h : 20 < (ss.getD j default).l.length) : fewS ss = false := by
  have : ss.all (fun s => decide (s.l.length ≤ 20)) = false := by
    rw [List.all_eq_false]
    exact ⟨_, getD_mem (d := default) hj, fun hh => by have := of_decide_eq_true hh; omega⟩
  rw [fewS, this]; rfl
theorem fewS_end (h : ∀ i, i < ss.length → (ss.getD i default).l.length ≤ 20) : fewS ss = decide (ss.length ≤ 20) := by
  have : ss.all (fun s => decide (s.l.length ≤ 20)) = true := by
    rw [List.all_eq_true]
    intro x hx
    obtain ⟨i, hi, rfl⟩ := List.getElem_of_mem hx
    have := h i hi
    rw [List.getD_eq_getElem?_getD, List.getElem?_eq_getElem hi, Option.getD_some] at this
    simpa using this
  rw [fewS, this]; rfl
def fsI (z : Bool) (ss : List IL) (n : Nat) (i : {i : Nat // i ≤ n ∧ ∀ k, k < i → (ss.getD k default).l.length ≤ 20}) : St :=
  ⟨19, 0, [(0,.isl z (cX ss) n), (3,.val (.int .i64 i.val))], []⟩
theorem fewS_ok (hl : ss.length = n) (hn : n < 2^47) (hs : ∀ j, j < n → (ss.getD j default).l.length < 2^47) : ACall Tryd.prog 42 [.isl z (cX ss) n] [] 0 (.val (.bool (fewS ss))) [] := by
  subst hl
  refine ACall.enter Tryd.func42 rfl (by simp [Tryd.ntmps42]) (by simp) ?_
  simp only [entry, idx, Tryd.ntmps42, List.length, List.map_cons, List.map_nil, List.append_nil, List.cons_append, List.nil_append, Nat.reduceAdd, Nat.zero_add, List.length_cons, List.length_nil]
  repeat' (first | (refine AC_loop_id ?_; refine AC_loop' [] ([].length) (fsI z ss ss.length) (fun i => ss.length - i.val) (⟨0, by omega, fun k h => absurd h (by omega)⟩) rfl (by unfold fsI; (try simp only [List.cons_append, List.nil_append]); refine Sub.mk2 ?_; (simp (dsimp := false) (disch := first | exact vD | fail) only [push_cast, simprocAttr, c_IL]); (repeat (refine aI ?_)); (first | done | (first | exact vI | fail)); done) ?_; (rintro ⟨i, hi, ho⟩; rcases Nat.lt_or_eq_of_le hi with hil | hil <;> first | (have ei : ss.length = i := hil.symm; subst ei; (simp (dsimp := false) (disch := first | exact vD | fail) only [push_cast, simprocAttr, fsI])) | (have hsi := hs i hil; (simp (dsimp := false) (disch := first | exact vD | fail) only [push_cast, simprocAttr, fsI])))) | (refine Nxt_id ?_; refine Nxt.mk [] (⟨i + 1, by omega, fun k hk => by by_cases e : k = i; (subst e; omega); exact ho k (by omega)⟩) rfl (by unfold fsI; (try simp only [List.cons_append, List.nil_append]); refine Sub.mk2 ?_; (simp (dsimp := false) (disch := first | exact vD | fail) only [push_cast, simprocAttr, c_IL]); (repeat (refine aI ?_)); (first | done | (first | exact vI | fail)); done) (by first | omega | (simp; done) | (simp; omega))) | (refine AC_seq ?_) | (refine AC_region_lit ?_) | ((first | refine AL_go rfl (fun K hK => ?_) | refine AL_go0 (fun K hK => ?_)); (first | refine R_move _ ?_ | refine R_assign _ ?_ | refine Q_load _ _ ?_ | refine Q_loadAgg _ _ ?_ | refine Q_indexAddr _ _ _ ?_ | refine Q_indexArr _ _ _ ?_ | refine Q_len _ _ ?_ | refine Q_lenStr _ _ ?_ | refine Q_bin _ _ _ _ _ ?_); simp (dsimp := false) (disch := first | exact vD | fail) only [push_cast, simprocAttr, c_IL]; (repeat (refine aI ?_)); (first | refine hK _ _ _ ?_ | refine hK _ _ ?_); clear hK K) | ((first | refine AL_guard rfl rfl (fun K1 K2 h1 h2 => ?_) rfl | refine AC_cond_k (fun K1 K2 h1 h2 => ?_)); simp (dsimp := false) (disch := first | exact vD | fail) only [push_cast, simprocAttr, c_IL]; (first | (refine ⟨fun hc => ?_, fun hc => ?_⟩ <;> first | (exfalso; omega) | (exfalso; contradiction) | refine h1 ?_ | refine h2 ?_) | refine h1 ?_ | refine h2 ?_); all_goals clear h1 h2 K1 K2) | (refine AL_nil ?_) | (refine Thn_normal ?_) | (refine Thn_ret ?_) | (refine Thn_exit ?_) | (refine Blk_normal ?_) | (refine Blk_ret ?_) | (refine Blk_here ?_) | (refine Blk_other rfl ?_) | (refine AC_block ?_) | (refine AC_exit ?_) | (refine AC_skip ?_) | (refine AC_ret ?_))
  all_goals first
    | (have e := fewS_at (ss := ss) hil (by omega); (refine Ends.mk2 (by first | exact .inr rfl | exact .inl rfl) [] ?_; simp (dsimp := false) (disch := first | exact vD | fail) only [push_cast, simprocAttr, Tryd.f42, e]; (repeat (refine aI ?_)); try (first | exact vI | fail)); done)
    | (have e := fewS_end (ss := ss) ho; (refine Ends.mk2 (by first | exact .inr rfl | exact .inl rfl) [] ?_; simp (dsimp := false) (disch := first | exact vD | fail) only [push_cast, simprocAttr, Tryd.f42, e]; (repeat (refine aI ?_)); try (first | exact vI | fail)); done)
def smallB (l : List Ex) : Bool := l.all fewB && decide (l.length ≤ 14)
theorem small_at (hj : j < l.length) (h : fewB (l.getD j default) = false) : smallB l = false := by
  have : l.all fewB = false := by
    rw [List.all_eq_false]
    exact ⟨_, getD_mem (d := default) hj, by rw [h]; simp⟩
  rw [smallB, this]; rfl
theorem small_end (h : ∀ i, i < l.length → fewB (l.getD i default) = true) : smallB l = decide (l.length ≤ 14) := by
  have : l.all fewB = true := by
    rw [List.all_eq_true]
    intro x hx
    obtain ⟨i, hi, rfl⟩ := List.getElem_of_mem hx
    have := h i hi
    rwa [List.getD_eq_getElem?_getD, List.getElem?_eq_getElem hi, Option.getD_some] at this
  rw [smallB, this]; rfl
def smI (z : Bool) (l : List Ex) (n : Nat) (i : {i : Nat // i ≤ n ∧ ∀ k, k < i → fewB (l.getD k default) = true}) : St :=
  ⟨19, 0, [(0,.isl z (cR l) n), (3,.val (.int .i64 i.val))], []⟩
theorem small_ok12 (hl : l.length = n) (hn : n < 2^47) (hs : ∀ y ∈ l, Short y) : ACall Tryd.prog 30 [.isl z (cR l) n] [] 0 (.val (.bool (smallB l))) [] := by
  subst hl
  have hf := fun (j : Nat) (h : j < l.length) => PLift.up (few_ok (hs (l.getD j default) (getD_mem h)))
  have hfb := dmy_def
  refine ACall.enter Tryd.func30 rfl (by simp [Tryd.ntmps30]) (by simp) ?_
  simp only [entry, idx, Tryd.ntmps30, List.length, List.map_cons, List.map_nil, List.append_nil, List.cons_append, List.nil_append, Nat.reduceAdd, Nat.zero_add, List.length_cons, List.length_nil]
  repeat' (first | (refine AC_loop_id ?_; refine AC_loop' [] ([].length) (smI z l l.length) (fun i => l.length - i.val) (⟨0, by omega, fun k h => absurd h (by omega)⟩) rfl (by unfold smI; (try simp only [List.cons_append, List.nil_append]); refine Sub.mk2 ?_; (simp (dsimp := false) (disch := first | exact vD | fail) only [push_cast, simprocAttr, hfb]); (repeat (refine aI ?_)); (first | done | (first | exact vI | fail)); done) ?_; (rintro ⟨i, hi, ho⟩; rcases Nat.lt_or_eq_of_le hi with hil | hil <;> first | (have ei : l.length = i := hil.symm; subst ei; (simp (dsimp := false) (disch := first | exact vD | fail) only [push_cast, simprocAttr, smI])) | (rcases Bool.eq_false_or_eq_true (fewB (l.getD i default)) with hfb | hfb <;> (simp (dsimp := false) (disch := first | exact vD | fail) only [push_cast, simprocAttr, smI])))) | (refine Nxt_id ?_; refine Nxt.mk [] (⟨i + 1, by omega, nx_eq (f := fun i => fewB (l.getD i default)) (g := fun _ => true) ho hfb⟩) rfl (by unfold smI; (try simp only [List.cons_append, List.nil_append]); refine Sub.mk2 ?_; (simp (dsimp := false) (disch := first | exact vD | fail) only [push_cast, simprocAttr, hfb]); (repeat (refine aI ?_)); (first | done | (first | exact vI | fail)); done) (by first | omega | (simp; done) | (simp; omega))) | (refine AC_seq ?_) | (refine AC_region_lit ?_) | ((first | refine AL_go rfl (fun K hK => ?_) | refine AL_go0 (fun K hK => ?_)); (first | refine R_callG (f := 29) [] 0 false ?_); simp (dsimp := false) (disch := first | exact vD | fail) only [push_cast, simprocAttr, hfb]; (repeat (refine aI ?_)); intro G hG; refine hG _ _ ?_; clear hG G; (first | refine ⟨_, _, (hf i (by omega)).down, ?_⟩); simp (dsimp := false) (disch := first | exact vD | fail) only [push_cast, simprocAttr, hfb]; (repeat (refine aI ?_)); (first | refine hK _ _ _ ?_ | refine hK _ _ ?_); clear hK K) | ((first | refine AL_go rfl (fun K hK => ?_) | refine AL_go0 (fun K hK => ?_)); (first | refine R_move _ ?_ | refine R_assign _ ?_ | refine Q_load _ _ ?_ | refine Q_loadAgg _ _ ?_ | refine Q_indexAddr _ _ _ ?_ | refine Q_indexArr _ _ _ ?_ | refine Q_len _ _ ?_ | refine Q_lenStr _ _ ?_ | refine Q_not _ _ ?_ | refine Q_neg _ _ ?_ | refine Q_bin _ _ _ _ _ ?_); simp (dsimp := false) (disch := first | exact vD | fail) only [push_cast, simprocAttr, hfb]; (repeat (refine aI ?_)); (first | refine hK _ _ _ ?_ | refine hK _ _ ?_); clear hK K) | ((first | refine AL_guard rfl rfl (fun K1 K2 h1 h2 => ?_) rfl | refine AC_cond_k (fun K1 K2 h1 h2 => ?_)); simp (dsimp := false) (disch := first | exact vD | fail) only [push_cast, simprocAttr, hfb]; (first | (refine ⟨fun hc => ?_, fun hc => ?_⟩ <;> first | (exfalso; omega) | (exfalso; contradiction) | refine h1 ?_ | refine h2 ?_) | refine h1 ?_ | refine h2 ?_); all_goals clear h1 h2 K1 K2) | (refine AL_nil ?_) | (refine Thn_normal ?_) | (refine Thn_ret ?_) | (refine Thn_exit ?_) | (refine Blk_normal ?_) | (refine Blk_ret ?_) | (refine Blk_here ?_) | (refine Blk_other rfl ?_) | (refine AC_block ?_) | (refine AC_exit ?_) | (refine AC_skip ?_) | (refine AC_ret ?_))
  all_goals first
    | (have e := small_at (l := l) hil hfb; (refine Ends.mk2 (by first | exact .inr rfl | exact .inl rfl) [] ?_; simp (dsimp := false) (disch := first | exact vD | fail) only [push_cast, simprocAttr, Tryd.f30, e]; (repeat (refine aI ?_)); try (first | exact vI | fail)); done)
    | (have e := small_end (l := l) ho; (refine Ends.mk2 (by first | exact .inr rfl | exact .inl rfl) [] ?_; simp (dsimp := false) (disch := first | exact vD | fail) only [push_cast, simprocAttr, Tryd.f30, e]; (repeat (refine aI ?_)); try (first | exact vI | fail)); done)
end Go.Proofs.YtdeligopifoceaaDoor
