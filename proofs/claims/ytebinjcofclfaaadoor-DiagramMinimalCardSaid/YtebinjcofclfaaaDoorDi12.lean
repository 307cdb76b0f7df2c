/- Diagrams: the program's Monotone, joined. No condition. -/
import Derived.Test.YtebinjcofclfaaaDoorDi11
set_option linter.unusedVariables false
set_option linter.unusedSectionVars false
set_option linter.unusedSimpArgs false
set_option maxHeartbeats 4000000
set_option maxRecDepth 20000
namespace Go.Proofs.YtebinjcofclfaaaDoor
open Go Go.Sy Go.Dg
attribute [local irreducible] AO AL AC OpT ACall Ends DGo DRun Thn Blk Nxt
variable {A F F1 F2 G : List Fo} {K K1 K2 K3 : KBl} {n N M k i m r a j w u v by1 ul uh vl vh su sv : Nat} {q : Int} {z : Bool} {b b1 b2 : Bool} {x : Nat × Nat}
def ikI (z zz : Bool) (n : Nat) (F : List Fo) (N : Nat) (q : Int) (r : Int × KBl) (p : {p : Nat × KBl // p.1 ≤ N ∧ wix F n (N - p.1) p.1 p.2 = r}) : St :=
  ⟨19, 3, [(0,.isl z (cR F) N), (1,.fn 65 [.pt 0 0]), (7,.val (.int .i64 N)), (8,.val (.int .i64 p.val.1))], [(0, some (.cells [.fn 62 [.pt 1 0, .ipt [.val (.int .i64 n), .isl z (cR F) N, .val (.int .i64 q)] 0, .pt 0 0]] 98)), (1, some (.cells [.mp 2] 97)), (2, some (.map true 2 (kbM p.val.2)))]⟩
theorem idxK_ok (hg : Go.Dg.Good n F) (hN : F.length = N) (hN2 : N < 2 ^ 40) : ACall Tryd.prog 90 [.isl z (cR F) N, .fn 65 [.pt 0 0]] (wO (dC z n F N q) []) 3 (.val (.int .i64 (wix F n N 0 []).1)) (wO (dC z n F N q) (wix F n N 0 []).2) := by
  obtain ⟨r, hr⟩ : ∃ r, wix F n N 0 [] = r := ⟨_, rfl⟩
  rw [hr]
  have hw := fun (j : Nat) (hj : j < N) (K : KBl) => PLift.up (by
    have ho := hg.ok j (by omega)
    exact w2_ok (a := (F.getD j default).v) (within_ok (z := z) (q := q) hg hN hN2 ((F.getD j default).lo + (F.getD j default).hi + 1) ((F.getD j default).lo, (F.getD j default).hi) K (Nat.lt_succ_self _) (by have := ho.lo; dsimp only; omega) (by have := ho.hi; dsimp only; omega)))
  unfold wO wA dC at *
  have h0 : (0, ([] : KBl)).1 ≤ N ∧ wix F n (N - (0, ([] : KBl)).1) (0, ([] : KBl)).1 (0, ([] : KBl)).2 = r := ⟨Nat.zero_le _, hr⟩
  have hx := dmy_def; have hcl := dmy_def
  refine ACall.enter Tryd.func90 rfl (by simp [Tryd.ntmps90]) (by simp) ?_; simp only [entry, idx, Tryd.ntmps90, List.length, List.map_cons, List.map_nil, List.append_nil, List.cons_append, List.nil_append, Nat.reduceAdd, Nat.zero_add, List.length_cons, List.length_nil]
  repeat' (first | (refine AC_loop_id ?_; refine AC_loop' [0, 1, 2] ([0, 1, 2].length) (ikI z z n F N q r) (fun p => N - p.val.1) (⟨(0, []), h0⟩) rfl (by unfold ikI; (try simp only [List.cons_append, List.nil_append]); refine Sub.mk2 ?_; (simp -dsimp (disch := try exact vD) only [push_cast, simprocAttr, hx, fo_cells, kbM_nil]); (repeat refine aI ?_); first | done | exact vI) ?_; (rintro ⟨⟨j, K⟩, hj, hrr⟩; dsimp only at hj hrr; rcases Nat.lt_or_eq_of_le hj with hjl | hjl <;> first | (have ej : N = j := hjl.symm; subst ej; (simp -dsimp (disch := try exact vD) only [push_cast, simprocAttr, ikI])) | (have hcl := hw j hjl K; obtain ⟨m, hm⟩ : ∃ m, N - j = m + 1 := ⟨N - j - 1, by omega⟩; rw [hm] at hrr; obtain ⟨R, hR⟩ : ∃ R, wgr F n ((F.getD j default).lo + (F.getD j default).hi + 1) ((F.getD j default).lo, (F.getD j default).hi) K = R := ⟨_, rfl⟩; rw [hR] at hcl; obtain ⟨K1, b⟩ := R; cases b <;> (dsimp only at hcl) <;> (simp -dsimp (disch := try exact vD) only [push_cast, simprocAttr, ikI])))) | (refine Nxt_id ?_; refine Nxt.mk [0, 1, 2] (⟨(j + 1, K1), by omega, by rw [wix_t hR] at hrr; rw [show N - (j + 1) = m by omega]; exact hrr⟩) rfl (by unfold ikI; (try simp only [List.cons_append, List.nil_append]); refine Sub.mk2 ?_; (simp -dsimp (disch := try exact vD) only [push_cast, simprocAttr, hx, fo_cells, kbM_nil]); (repeat refine aI ?_); first | done | exact vI) (by first | omega | (dsimp only; omega) | (simp; done) | (simp; omega))) | apply AC_seq | apply AC_region_lit | ((first | refine AL_go rfl (fun K hK => ?_) | refine AL_go0 (fun K hK => ?_)); (first | refine R_callFnG (f := 65) (dst := some 16) [0, 1, 2] 3 false ?_); simp -dsimp (disch := try exact vD) only [push_cast, simprocAttr, hx, fo_cells, kbM_nil]; (repeat refine aI ?_); intro G hG; refine hG _ _ ?_; clear hG G; (first | refine ⟨_, _, hcl.down, ?_⟩); simp -dsimp (disch := try exact vD) only [push_cast, simprocAttr, hx, fo_cells, kbM_nil]; (repeat refine aI ?_); apply hK; clear hK K) | ((first | refine AL_go rfl (fun K hK => ?_) | refine AL_go0 (fun K hK => ?_)); (first | apply R_move | apply R_assign | apply Q_load | apply Q_loadAgg | apply Q_indexAddr | apply Q_indexArr | apply Q_len | apply Q_lenStr | apply Q_bin); simp -dsimp (disch := try exact vD) only [push_cast, simprocAttr, hx, fo_cells, kbM_nil]; (repeat refine aI ?_); apply hK; clear hK K) | ((first | refine AL_guard rfl rfl (fun K1 K2 h1 h2 => ?_) rfl | refine AC_cond_k (fun K1 K2 h1 h2 => ?_)); simp -dsimp (disch := try exact vD) only [push_cast, simprocAttr, hx, fo_cells, kbM_nil]; (first | (refine ⟨fun hc => ?_, fun hc => ?_⟩ <;> first | (exfalso; omega) | (exfalso; contradiction) | refine h1 ?_ | refine h2 ?_) | refine h1 ?_ | refine h2 ?_); all_goals clear h1 h2 K1 K2) | apply AL_nil | apply Thn_normal | apply Thn_ret | apply Thn_exit | apply Blk_normal | apply Blk_ret | apply Blk_here | (refine Blk_other rfl ?_) | apply AC_block | apply AC_exit | apply AC_skip | apply AC_ret)
  all_goals first
    | (rw [Nat.sub_self, wix_0] at hrr; subst hrr; (refine Ends.mk2 (by first | exact .inr rfl | exact .inl rfl) [0, 1, 2] ?_; simp -dsimp (disch := try exact vD) only [push_cast, simprocAttr, Tryd.f90]; (repeat refine aI ?_); try (first | exact vI | fail)); done)
    | (rw [wix_f hR] at hrr; subst hrr; (refine Ends.mk2 (by first | exact .inr rfl | exact .inl rfl) [0, 1, 2] ?_; simp -dsimp (disch := try exact vD) only [push_cast, simprocAttr, Tryd.f90]; (repeat refine aI ?_); try (first | exact vI | fail)); done)
    | trace_state
theorem contK_ok (hg : Go.Dg.Good n F) (hN : F.length = N) (hN2 : N < 2 ^ 40) : ACall Tryd.prog 64 [.isl z (cR F) N, .fn 65 [.pt 0 0]] (wO (dC z n F N q) []) 3 (.val (.bool (decide (0 ≤ (wix F n N 0 []).1)))) (wO (dC z n F N q) (wix F n N 0 []).2) := by
  have h := PLift.up (idxK_ok (z := z) (q := q) hg hN hN2)
  generalize wix F n N 0 [] = r at *
  unfold wO wA dC at *
  refine ACall.enter Tryd.func64 rfl (by simp [Tryd.ntmps64]) (by simp) ?_; simp only [entry, idx, Tryd.ntmps64, List.length, List.map_cons, List.map_nil, List.append_nil, List.cons_append, List.nil_append, Nat.reduceAdd, Nat.zero_add, List.length_cons, List.length_nil]
  repeat' (first | apply AC_seq | apply AC_region_lit | ((first | refine AL_go rfl (fun K hK => ?_) | refine AL_go0 (fun K hK => ?_)); (first | refine R_callG (f := 90) [0, 1, 2] 3 false ?_); simp -dsimp (disch := try exact vD) only [push_cast, simprocAttr, kbM_nil]; (repeat refine aI ?_); intro G hG; refine hG _ _ ?_; clear hG G; (first | refine ⟨_, _, h.down, ?_⟩); simp -dsimp (disch := try exact vD) only [push_cast, simprocAttr, kbM_nil]; (repeat refine aI ?_); apply hK; clear hK K) | ((first | refine AL_go rfl (fun K hK => ?_) | refine AL_go0 (fun K hK => ?_)); (first | apply R_move | apply R_assign | apply Q_bin); simp -dsimp (disch := try exact vD) only [push_cast, simprocAttr, kbM_nil]; (repeat refine aI ?_); apply hK; clear hK K) | ((first | refine AL_guard rfl rfl (fun K1 K2 h1 h2 => ?_) rfl | refine AC_cond_k (fun K1 K2 h1 h2 => ?_)); simp -dsimp (disch := try exact vD) only [push_cast, simprocAttr, kbM_nil]; (first | (refine ⟨fun hc => ?_, fun hc => ?_⟩ <;> first | (exfalso; omega) | (exfalso; contradiction) | refine h1 ?_ | refine h2 ?_) | refine h1 ?_ | refine h2 ?_); all_goals clear h1 h2 K1 K2) | apply AL_nil | apply Thn_normal | apply Thn_ret | apply Thn_exit | apply Blk_normal | apply Blk_ret | apply Blk_here | (refine Blk_other rfl ?_) | apply AC_block | apply AC_exit | apply AC_skip | apply AC_ret)
  all_goals first
    | ((refine Ends.mk2 (by first | exact .inr rfl | exact .inl rfl) [0, 1, 2] ?_; simp -dsimp (disch := try exact vD) only [push_cast, simprocAttr, Tryd.f64]; (repeat refine aI ?_); try (first | exact vI | fail)); done)
    | trace_state
theorem mono_w (h : DOk n F r) (hN : F.length = N) (hb : b = true ↔ ∀ k, k < F.length → Wi n F (F.getD k default).lo (F.getD k default).hi) : ACall Tryd.prog 29 [apD z n F N r] [] 0 (.tup [.val (.bool b), .val (.int .i64 0)]) [] := by
  have hv := PLift.up (valid_0 (z := z) h hN)
  have hN2 : N < 2 ^ 40 := by have := h.few; omega
  have hc := PLift.up (contK_ok (z := z) (q := r) h.good hN hN2)
  have hw := wix_ok h.good N 0 [] (by omega) (fun p hp => by cases hp)
  have e : decide (0 ≤ (wix F n N 0 []).1) = !b := by
    rw [Bool.eq_iff_iff, decide_eq_true_eq, hw, Bool.not_eq_true', ← Bool.not_eq_true, hb]
    exact not_congr ⟨fun h k hk => h k (Nat.zero_le _) hk, fun h k _ hk => h k hk⟩
  rw [e] at hc
  clear h hw e hb
  generalize (wix F n N 0 []).2 = K at hc
  unfold wO wA dC at hc
  unfold apD
  refine ACall.enter Tryd.func29 rfl (by simp [Tryd.ntmps29]) (by simp) ?_; simp only [entry, idx, Tryd.ntmps29, List.length, List.map_cons, List.map_nil, List.append_nil, List.cons_append, List.nil_append, Nat.reduceAdd, Nat.zero_add, List.length_cons, List.length_nil]
  repeat' (first | ((first | refine AC_frzS (r := 7) 0 ?_ | refine AC_frzR (r := 7) 0 ?_); simp -dsimp (disch := try exact vD) only [push_cast, simprocAttr, kbM_nil]; (repeat refine aI ?_); intro K hK; refine hK _ _ ?_; clear hK K) | apply AC_seq | apply AC_region_lit | ((first | refine AL_go rfl (fun K hK => ?_) | refine AL_go0 (fun K hK => ?_)); (first | refine R_callG (f := 19) [] 0 false ?_ | refine R_callG (f := 64) [3, 2, 1] 3 false ?_); simp -dsimp (disch := try exact vD) only [push_cast, simprocAttr, kbM_nil]; (repeat refine aI ?_); intro G hG; refine hG _ _ ?_; clear hG G; (first | refine ⟨_, _, hv.down, ?_⟩ | refine ⟨_, _, hc.down, ?_⟩); simp -dsimp (disch := try exact vD) only [push_cast, simprocAttr, kbM_nil]; (repeat refine aI ?_); apply hK; clear hK K) | ((first | refine AL_go rfl (fun K hK => ?_) | refine AL_go0 (fun K hK => ?_)); (first | apply R_move | apply R_assign | apply Q_load | apply Q_loadAgg | apply Q_fieldAddr | apply Q_not | apply Q_neg | apply Q_box | apply R_alloc | apply Q_store | apply Q_makeFunc | apply Q_makeMap | apply Q_eqAgg | apply Q_neqAgg | apply Q_neqSelf | apply Q_bin); simp -dsimp (disch := try exact vD) only [push_cast, simprocAttr, kbM_nil]; (repeat refine aI ?_); apply hK; clear hK K) | ((first | refine AL_guard rfl rfl (fun K1 K2 h1 h2 => ?_) rfl | refine AC_cond_k (fun K1 K2 h1 h2 => ?_)); simp -dsimp (disch := try exact vD) only [push_cast, simprocAttr, kbM_nil]; (first | (refine ⟨fun hc => ?_, fun hc => ?_⟩ <;> first | (exfalso; omega) | (exfalso; contradiction) | refine h1 ?_ | refine h2 ?_) | refine h1 ?_ | refine h2 ?_); all_goals clear h1 h2 K1 K2) | apply AL_nil | apply Thn_normal | apply Thn_ret | apply Thn_exit | apply Blk_normal | apply Blk_ret | apply Blk_here | (refine Blk_other rfl ?_) | apply AC_block | apply AC_exit | apply AC_skip | apply AC_ret)
  all_goals first
    | ((refine Ends.mk2 (by first | exact .inr rfl | exact .inl rfl) [] ?_; simp -dsimp (disch := try exact vD) only [push_cast, simprocAttr, Tryd.f29]; (repeat refine aI ?_); try (first | exact vI | fail)); done)
    | trace_state
end Go.Proofs.YtebinjcofclfaaaDoor
