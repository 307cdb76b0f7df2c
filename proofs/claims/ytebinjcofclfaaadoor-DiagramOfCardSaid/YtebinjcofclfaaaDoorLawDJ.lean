/- Diagrams: the law of Of. No condition. -/
import Derived.Test.YtebinjcofclfaaaDoorDw2
import Derived.Test.YtebinjcofclfaaaDoorDi21
import Derived.Test.YtebinjcofclfaaaDoorEc2
set_option linter.unusedVariables false
set_option linter.unusedSectionVars false
set_option linter.unusedSimpArgs false
set_option maxHeartbeats 4000000
set_option maxRecDepth 20000
namespace Go.Proofs.YtebinjcofclfaaaDoor
open Go Go.Sy Go.Bp Go.Dg
attribute [local irreducible] AO AL AC OpT ACall Ends DGo DRun Thn Blk Nxt
variable {N M T k i m a b j u v s : Nat} {n r e o : Int} {z z' : Bool} {x : Ex} {F : List Fo}
abbrev big (x : Ex) (j : Nat) : Prop := 8 < (x.nodes.getD j default).server ∧ (x.nodes.getD j default).server < 12
theorem first_big : ∀ N, (∀ j, j < N → ¬ big x j) ∨ ∃ b, b < N ∧ big x b ∧ ∀ i, i < b → ¬ big x i := by
  intro N
  induction N with
  | zero => exact .inl fun j h => absurd h (by omega)
  | succ N ih =>
    rcases ih with ih | ⟨b, h1, h2, h3⟩
    · by_cases h : big x N
      · exact .inr ⟨N, by omega, h, ih⟩
      · refine .inl fun j hj => ?_
        rcases Nat.lt_or_eq_of_le (show j ≤ N by omega) with hl | rfl
        · exact ih j hl
        · exact h
    · exact .inr ⟨b, by omega, h2, h3⟩
def loI (x : Ex) (N B : Nat) (j : {j : Nat // j ≤ B}) : St :=
  ⟨51, 0, [(1,.pt 0 0), (18,.isl x.nz (cR x.nodes) N), (19,.val (.int .i64 N)), (20,.val (.int .i64 j.val))], [(0, some (.cells (Cells.cells x) 64))]⟩
theorem lawOf_b (hx : Short x) (hf : fewB x = true) (hN : x.nodes.length = N) (hN2 : N ≤ 70) (hb : b < N) (hbb : big x b) (hbf : ∀ i, i < b → ¬ big x i) : ACall Tryd.prog 10 [.agg (Cells.cells x)] [] 0 (.val (.bool true)) [] := by
  have hfw := few_ok hx
  rw [hf] at hfw
  have hfw := PLift.up hfw
  clear hf hx
  refine ACall.enter Tryd.func10 rfl (by simp [Tryd.ntmps10]) (by simp) ?_; simp only [entry, idx, Tryd.ntmps10, List.length, List.map_cons, List.map_nil, List.append_nil, List.cons_append, List.nil_append, Nat.reduceAdd, Nat.zero_add, List.length_cons, List.length_nil]
  repeat' (first | (refine AC_loop_id ?_; refine AC_loop' [0] ([0].length) (loI x N b) (fun j => b - j.val) (⟨0, by omega⟩) rfl (by unfold loI; (try simp only [List.cons_append, List.nil_append]); refine Sub.mk2 ?_; (simp -dsimp (disch := try exact vD) only [push_cast, simprocAttr, hN]); (repeat refine aI ?_); first | done | exact vI) ?_; (rintro ⟨j, hj⟩; rcases Nat.lt_or_eq_of_le hj with hjl | hjl <;> first | (have ej : b = j := hjl.symm; subst ej; obtain ⟨hs1, hs2⟩ := hbb; (simp -dsimp (disch := try exact vD) only [push_cast, simprocAttr, loI])) | (have hjn := hbf j hjl; rcases Int.lt_or_le 8 (x.nodes.getD j default).server with hs1 | hs1 <;> first | (have hs2 : 12 ≤ (x.nodes.getD j default).server := (by unfold big at hjn; omega); (simp -dsimp (disch := try exact vD) only [push_cast, simprocAttr, loI])) | (simp -dsimp (disch := try exact vD) only [push_cast, simprocAttr, loI])))) | (refine Nxt_id ?_; refine Nxt.mk [0] (⟨j + 1, by omega⟩) rfl (by unfold loI; (try simp only [List.cons_append, List.nil_append]); refine Sub.mk2 ?_; (simp -dsimp (disch := try exact vD) only [push_cast, simprocAttr, hN]); (repeat refine aI ?_); first | done | exact vI) (by first | omega | (dsimp only; omega) | (simp; done) | (simp; omega))) | apply AC_seq | apply AC_region_lit | ((first | refine AL_go rfl (fun K hK => ?_) | refine AL_go0 (fun K hK => ?_)); (first | refine R_callG (f := 12) [] 0 false ?_ | refine R_callG (f := 35) [] 0 false ?_); simp -dsimp (disch := try exact vD) only [push_cast, simprocAttr, hN]; (repeat refine aI ?_); intro G hG; refine hG _ _ ?_; clear hG G; (first | refine ⟨_, _, awake_ok, ?_⟩ | refine ⟨_, _, hfw.down, ?_⟩); simp -dsimp (disch := try exact vD) only [push_cast, simprocAttr, hN]; (repeat refine aI ?_); apply hK; clear hK K) | ((first | refine AL_go rfl (fun K hK => ?_) | refine AL_go0 (fun K hK => ?_)); (first | apply R_move | apply R_assign | apply Q_load | apply Q_loadAgg | apply Q_fieldAddr | apply Q_indexAddr | apply Q_indexArr | apply Q_len | apply Q_lenStr | apply Q_pick | apply Q_not | apply Q_neg | apply Q_extract | apply Q_box | apply R_alloc | apply Q_store | apply Q_eqAgg | apply Q_neqAgg | apply Q_neqSelf | apply Q_bin); simp -dsimp (disch := try exact vD) only [push_cast, simprocAttr, hN]; (repeat refine aI ?_); apply hK; clear hK K) | ((first | refine AL_guard rfl rfl (fun K1 K2 h1 h2 => ?_) rfl | refine AC_cond_k (fun K1 K2 h1 h2 => ?_)); simp -dsimp (disch := try exact vD) only [push_cast, simprocAttr, hN]; (first | (refine ⟨fun hc => ?_, fun hc => ?_⟩ <;> first | (exfalso; omega) | (exfalso; contradiction) | refine h1 ?_ | refine h2 ?_) | refine h1 ?_ | refine h2 ?_); all_goals clear h1 h2 K1 K2) | apply AL_nil | apply Thn_normal | apply Thn_ret | apply Thn_exit | apply Blk_normal | apply Blk_ret | apply Blk_here | (refine Blk_other rfl ?_) | apply AC_block | apply AC_exit | apply AC_skip | apply AC_ret)
  all_goals first
    | ((refine Ends.mk2 (by first | exact .inr rfl | exact .inl rfl) [] ?_; simp -dsimp (disch := try exact vD) only [push_cast, simprocAttr, Tryd.f10]; (repeat refine aI ?_); try (first | exact vI | fail)); done)
    | trace_state
theorem lawOf_c (hx : Short x) (hf : fewB x = true) (hN : x.nodes.length = N) (hN2 : N ≤ 70) (hbf : ∀ i, i < N → ¬ big x i)
    (ho : ACall Tryd.prog 36 [.agg (Cells.cells x)] [] 0 (.tup [.agg [.val (.int .i64 n), .isl z (cR F) M, .val (.int .i64 r)], .val (.int .i64 e)]) [])
    (hr : ACall Tryd.prog 37 [.agg (Cells.cells x)] [] 0 (.tup [.agg [.val (.int .i64 n), .isl z (cR F) M, .val (.int .i64 r)], .val (.int .i64 e)]) [])
    (hq : ACall Tryd.prog 24 [.agg [.val (.int .i64 n), .isl z (cR F) M, .val (.int .i64 r)], .agg [.val (.int .i64 n), .isl z (cR F) M, .val (.int .i64 r)]] [] 0 (.val (.bool true)) []) :
    ACall Tryd.prog 10 [.agg (Cells.cells x)] [] 0 (.val (.bool true)) [] := by
  have hfw := few_ok hx
  rw [hf] at hfw
  have hfw := PLift.up hfw; have ho := PLift.up ho; have hr := PLift.up hr; have hq := PLift.up hq
  clear hf hx
  refine ACall.enter Tryd.func10 rfl (by simp [Tryd.ntmps10]) (by simp) ?_; simp only [entry, idx, Tryd.ntmps10, List.length, List.map_cons, List.map_nil, List.append_nil, List.cons_append, List.nil_append, Nat.reduceAdd, Nat.zero_add, List.length_cons, List.length_nil]
  repeat' (first | (refine AC_loop_id ?_; refine AC_loop' [0] ([0].length) (loI x N N) (fun j => N - j.val) (⟨0, by omega⟩) rfl (by unfold loI; (try simp only [List.cons_append, List.nil_append]); refine Sub.mk2 ?_; (simp -dsimp (disch := try exact vD) only [push_cast, simprocAttr, hN]); (repeat refine aI ?_); first | done | exact vI) ?_; (rintro ⟨j, hj⟩; rcases Nat.lt_or_eq_of_le hj with hjl | hjl <;> first | (have ej : N = j := hjl.symm; subst ej; (simp -dsimp (disch := try exact vD) only [push_cast, simprocAttr, loI])) | (have hjn := hbf j hjl; rcases Int.lt_or_le 8 (x.nodes.getD j default).server with hs1 | hs1 <;> first | (have hs2 : 12 ≤ (x.nodes.getD j default).server := (by unfold big at hjn; omega); (simp -dsimp (disch := try exact vD) only [push_cast, simprocAttr, loI])) | (simp -dsimp (disch := try exact vD) only [push_cast, simprocAttr, loI])))) | (refine Nxt_id ?_; refine Nxt.mk [0] (⟨j + 1, by omega⟩) rfl (by unfold loI; (try simp only [List.cons_append, List.nil_append]); refine Sub.mk2 ?_; (simp -dsimp (disch := try exact vD) only [push_cast, simprocAttr, hN]); (repeat refine aI ?_); first | done | exact vI) (by first | omega | (dsimp only; omega) | (simp; done) | (simp; omega))) | apply AC_seq | apply AC_region_lit | ((first | refine AL_go rfl (fun K hK => ?_) | refine AL_go0 (fun K hK => ?_)); (first | refine R_callG (f := 12) [] 0 false ?_ | refine R_callG (f := 35) [] 0 false ?_ | refine R_callG (f := 36) [] 0 false ?_ | refine R_callG (f := 37) [] 0 false ?_ | refine R_callG (f := 24) [] 0 false ?_); simp -dsimp (disch := try exact vD) only [push_cast, simprocAttr, hN]; (repeat refine aI ?_); intro G hG; refine hG _ _ ?_; clear hG G; (first | refine ⟨_, _, awake_ok, ?_⟩ | refine ⟨_, _, hfw.down, ?_⟩ | refine ⟨_, _, ho.down, ?_⟩ | refine ⟨_, _, hr.down, ?_⟩ | refine ⟨_, _, hq.down, ?_⟩); simp -dsimp (disch := try exact vD) only [push_cast, simprocAttr, hN]; (repeat refine aI ?_); apply hK; clear hK K) | ((first | refine AL_go rfl (fun K hK => ?_) | refine AL_go0 (fun K hK => ?_)); (first | apply R_move | apply R_assign | apply Q_load | apply Q_loadAgg | apply Q_fieldAddr | apply Q_indexAddr | apply Q_indexArr | apply Q_len | apply Q_lenStr | apply Q_pick | apply Q_not | apply Q_neg | apply Q_extract | apply Q_box | apply R_alloc | apply Q_store | apply Q_eqAgg | apply Q_neqAgg | apply Q_neqSelf | apply Q_bin); simp -dsimp (disch := try exact vD) only [push_cast, simprocAttr, hN]; (repeat refine aI ?_); apply hK; clear hK K) | ((first | refine AL_guard rfl rfl (fun K1 K2 h1 h2 => ?_) rfl | refine AC_cond_k (fun K1 K2 h1 h2 => ?_)); simp -dsimp (disch := try exact vD) only [push_cast, simprocAttr, hN]; (first | (refine ⟨fun hc => ?_, fun hc => ?_⟩ <;> first | (exfalso; omega) | (exfalso; contradiction) | refine h1 ?_ | refine h2 ?_) | refine h1 ?_ | refine h2 ?_); all_goals clear h1 h2 K1 K2) | apply AL_nil | apply Thn_normal | apply Thn_ret | apply Thn_exit | apply Blk_normal | apply Blk_ret | apply Blk_here | (refine Blk_other rfl ?_) | apply AC_block | apply AC_exit | apply AC_skip | apply AC_ret)
  all_goals first
    | ((refine Ends.mk2 (by first | exact .inr rfl | exact .inl rfl) [] ?_; simp -dsimp (disch := try exact vD) only [push_cast, simprocAttr, Tryd.f10]; (repeat refine aI ?_); try (first | exact vI | fail)); done)
    | trace_state
theorem lawOf (hx : Short x) : ACall Tryd.prog 10 [.agg (Cells.cells x)] [] 0 (.val (.bool true)) [] := by
  cases hf : fewB x with
  | false =>
    have hfw := few_ok hx
    rw [hf] at hfw
    have hfw := PLift.up hfw
    clear hf hx
    refine ACall.enter Tryd.func10 rfl (by simp [Tryd.ntmps10]) (by simp) ?_; simp only [entry, idx, Tryd.ntmps10, List.length, List.map_cons, List.map_nil, List.append_nil, List.cons_append, List.nil_append, Nat.reduceAdd, Nat.zero_add, List.length_cons, List.length_nil]
    repeat' (first | apply AC_seq | apply AC_region_lit | ((first | refine AL_go rfl (fun K hK => ?_) | refine AL_go0 (fun K hK => ?_)); (first | refine R_callG (f := 12) [] 0 false ?_ | refine R_callG (f := 35) [] 0 false ?_); simp -dsimp (disch := try exact vD) only [push_cast, simprocAttr]; (repeat refine aI ?_); intro G hG; refine hG _ _ ?_; clear hG G; (first | refine ⟨_, _, awake_ok, ?_⟩ | refine ⟨_, _, hfw.down, ?_⟩); simp -dsimp (disch := try exact vD) only [push_cast, simprocAttr]; (repeat refine aI ?_); apply hK; clear hK K) | ((first | refine AL_go rfl (fun K hK => ?_) | refine AL_go0 (fun K hK => ?_)); (first | apply R_move | apply R_assign | apply Q_load | apply Q_loadAgg | apply Q_fieldAddr | apply Q_indexAddr | apply Q_indexArr | apply Q_len | apply Q_lenStr | apply Q_pick | apply Q_not | apply Q_neg | apply Q_extract | apply Q_box | apply R_alloc | apply Q_store | apply Q_eqAgg | apply Q_neqAgg | apply Q_neqSelf | apply Q_bin); simp -dsimp (disch := try exact vD) only [push_cast, simprocAttr]; (repeat refine aI ?_); apply hK; clear hK K) | ((first | refine AL_guard rfl rfl (fun K1 K2 h1 h2 => ?_) rfl | refine AC_cond_k (fun K1 K2 h1 h2 => ?_)); simp -dsimp (disch := try exact vD) only [push_cast, simprocAttr]; (first | (refine ⟨fun hc => ?_, fun hc => ?_⟩ <;> first | (exfalso; omega) | (exfalso; contradiction) | refine h1 ?_ | refine h2 ?_) | refine h1 ?_ | refine h2 ?_); all_goals clear h1 h2 K1 K2) | apply AL_nil | apply Thn_normal | apply Thn_ret | apply Thn_exit | apply Blk_normal | apply Blk_ret | apply Blk_here | (refine Blk_other rfl ?_) | apply AC_block | apply AC_exit | apply AC_skip | apply AC_ret)
    all_goals first
      | ((refine Ends.mk2 (by first | exact .inr rfl | exact .inl rfl) [] ?_; simp -dsimp (disch := try exact vD) only [push_cast, simprocAttr, Tryd.f10]; (repeat refine aI ?_); try (first | exact vI | fail)); done)
      | trace_state
  | true =>
    obtain ⟨h70, hkw⟩ := few_of hx hf
    have hks : KS x := fun j hj => by have := (hkw j hj).1; omega
    rcases first_big (x := x) x.nodes.length with hall | ⟨b, h1, h2, h3⟩
    · by_cases he : validE x = 0
      · have hok := validE_ok he
        have hmx := mxS_le (x := x) (B := 9) (N := x.nodes.length) (j := x.nodes.length) (by decide) (fun i hi => by have := hall i hi; have := (hok.node i hi).srv; unfold big at *; omega) (Nat.le_refl _)
        obtain ⟨n, hn⟩ := Int.eq_ofNat_of_zero_le hmx.1
        have h12 : n ≤ 9 := by omega
        have ho := of_ok hx he hks hn (by omega)
        have hr := rof_ok hx he hks hn (by omega)
        have hd := from_DOk (n := n) (tab := holdT x) h12
        have hfw := hd.few
        unfold dgV at ho hr
        exact lawOf_c hx hf rfl h70 hall ho hr (eq_dg rfl (by omega))
      · have ho := of_err hx rfl he
        have hr := rof_err hx rfl he
        unfold zDg rgV at ho hr
        exact lawOf_c (F := []) hx hf rfl h70 hall ho hr (eq_dg (F := []) rfl (by decide))
    · exact lawOf_b hx hf rfl h70 h1 h2 h3
end Go.Proofs.YtebinjcofclfaaaDoor
