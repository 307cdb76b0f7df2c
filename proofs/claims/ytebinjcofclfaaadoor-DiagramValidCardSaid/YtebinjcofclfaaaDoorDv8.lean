/- Diagrams: the reference's Apply. No condition. -/
import Derived.Test.YtebinjcofclfaaaDoorDv5
import Derived.Test.YtebinjcofclfaaaDoorDv6
import Derived.Test.YtebinjcofclfaaaDoorDv7
set_option linter.unusedVariables false
set_option linter.unusedSectionVars false
set_option linter.unusedSimpArgs false
set_option maxHeartbeats 4000000
set_option maxRecDepth 20000
namespace Go.Proofs.YtebinjcofclfaaaDoor
open Go Go.Sy Go.Dg
attribute [local irreducible] AO AL AC OpT ACall Ends DGo DRun Thn Blk Nxt
variable {N N' M T na nb n op : Nat} {F G A B : List Fo} {L L' : List Fk} {k i m s t a j r r' R : Nat} {z z' b : Bool} {p f g : Nat → Bool}
theorem rapply_w (hA : DOk na A r) (hB : DOk nb B r') (hN : A.length = N) (hM : B.length = M) (hmx : max na nb = n) (h1 : 1 ≤ op) (h4 : op ≤ 4) :
    ACall Tryd.prog 34 [.val (.int .i64 op), apD z na A N r, apD z' nb B M r'] [] 0 (.tup [dgV ((fromT n fun t => opB op (valN A t r) (valN B t r')).1.length == 0) n (fromT n fun t => opB op (valN A t r) (valN B t r')).1 (fromT n fun t => opB op (valN A t r) (valN B t r')).2, .val (.int .i64 0)]) [] := by
  have ho : op = 1 ∨ op = 2 ∨ op = 3 ∨ op = 4 := by omega
  rcases ho with rfl | rfl | rfl | rfl
  · exact rapply_1 hA hB hN hM hmx
  · exact rapply_2 hA hB hN hM hmx
  · exact rapply_3 hA hB hN hM hmx
  · exact rapply_4 hA hB hN hM hmx
theorem rapply_range {o : Int} (hA : DOk na A r) (hB : DOk nb B r') (hN : A.length = N) (hM : B.length = M) (ho : o < 1 ∨ 4 < o) :
    ACall Tryd.prog 34 [.val (.int .i64 o), apD z na A N r, apD z' nb B M r'] [] 0 (.tup [.agg [.val (.int .i64 0), .isl true [] 0, .val (.int .i64 0)], .val (.int .i64 7)]) [] := by
  have hv1 := PLift.up (rvalidI_0 (z := z) (N := N) ⟨A, r, rfl, rfl, hA⟩ (by rw [List.length_map, hN]) hA.n12)
  have hv2 := PLift.up (rvalidI_0 (z := z') (N := M) ⟨B, r', rfl, rfl, hB⟩ (by rw [List.length_map, hM]) hB.n12)
  unfold dI at hv1 hv2
  rw [cR_fk] at hv1 hv2
  clear hA hB
  unfold apD
  rcases ho with ho | ho
  all_goals (refine ACall.enter Tryd.func34 rfl (by simp [Tryd.ntmps34]) (by simp) ?_; simp only [entry, idx, Tryd.ntmps34, List.length, List.map_cons, List.map_nil, List.append_nil, List.cons_append, List.nil_append, Nat.reduceAdd, Nat.zero_add, List.length_cons, List.length_nil])
  all_goals repeat' (first | apply AC_seq | apply AC_region_lit | ((first | refine AL_go rfl (fun K hK => ?_) | refine AL_go0 (fun K hK => ?_) | refine DG_run (fun K hK => ?_)); (first | refine R_callG (f := 38) (dst := some 16) [] 0 false ?_ | refine R_callG (f := 38) (dst := some 22) [] 0 false ?_); simp -dsimp (disch := try exact vD) only [push_cast, simprocAttr]; (repeat refine aI ?_); intro G hG; refine hG _ _ ?_; clear hG G; (first | refine ⟨_, _, hv1.down, ?_⟩ | refine ⟨_, _, hv2.down, ?_⟩); simp -dsimp (disch := try exact vD) only [push_cast, simprocAttr]; (repeat refine aI ?_); apply hK; clear hK K) | ((first | refine AL_go rfl (fun K hK => ?_) | refine AL_go0 (fun K hK => ?_) | refine DG_run (fun K hK => ?_)); (first | apply R_move | apply R_assign | apply Q_load | apply Q_loadAgg | apply Q_fieldAddr | apply Q_indexAddr | apply Q_indexArr | apply Q_pick | apply Q_not | apply Q_neg | apply Q_box | apply R_alloc | apply Q_store | apply Q_build | apply Q_buildArr | apply Q_buildSlice | apply Q_convert | apply Q_max | apply Q_eqAgg | apply Q_neqAgg | apply Q_neqSelf | apply Q_bin | apply Q_appendNil); simp -dsimp (disch := try exact vD) only [push_cast, simprocAttr]; (repeat refine aI ?_); apply hK; clear hK K) | ((first | refine AL_go rfl (fun K hK => ?_) | refine AL_go0 (fun K hK => ?_) | refine DG_run (fun K hK => ?_)); (first | apply Q_append); simp -dsimp (disch := try exact vD) only [push_cast, simprocAttr]; (repeat refine aI ?_); apply hK; clear hK K) | ((first | refine AL_go rfl (fun K hK => ?_) | refine AL_go0 (fun K hK => ?_) | refine DG_run (fun K hK => ?_)); (first | apply Q_append00); simp -dsimp (disch := try exact vD) only [push_cast, simprocAttr]; (repeat refine aI ?_); apply hK; clear hK K) | ((first | refine AL_go rfl (fun K hK => ?_) | refine AL_go0 (fun K hK => ?_) | refine DG_run (fun K hK => ?_)); (first | apply Q_appendIn); simp -dsimp (disch := try exact vD) only [push_cast, simprocAttr]; (repeat refine aI ?_); apply hK; clear hK K) | ((first | refine AL_guard rfl rfl (fun K1 K2 h1 h2 => ?_) rfl | refine AC_cond_k (fun K1 K2 h1 h2 => ?_) | refine DG_guard rfl rfl (fun K1 K2 h1 h2 => ?_)); simp -dsimp (disch := try exact vD) only [push_cast, simprocAttr]; (first | (refine ⟨fun hc => ?_, fun hc => ?_⟩ <;> first | (exfalso; omega) | (exfalso; contradiction) | refine h1 ?_ | refine h2 ?_) | refine h1 ?_ | refine h2 ?_); all_goals clear h1 h2 K1 K2) | (refine AC_draw (id := 14) (by kernel_rfl) [⟨0, [], [46, 47, 48, 49, 51, 52, 53, 54, 55], [], [], 0⟩, ⟨1, [], [45, 48, 49, 51, 52, 53, 54, 55], [], [], 0⟩, ⟨2, [1], [45, 48, 49, 51, 52, 53, 54, 55], [], [], 0⟩, ⟨3, [], [45, 46, 47, 51, 52, 53, 54, 55], [], [], 0⟩, ⟨4, [3], [45, 46, 47, 51, 52, 53, 54, 55], [], [], 0⟩, ⟨5, [0, 1, 2, 3, 4], [51, 52, 53, 54, 55], [], [], 0⟩, ⟨6, [], [45, 46, 47, 48, 49, 50, 52, 53, 54, 55], [], [], 0⟩, ⟨7, [], [45, 46, 47, 48, 49, 50, 51, 54, 55], [], [], 0⟩, ⟨8, [7], [45, 46, 47, 48, 49, 50, 51, 54, 55], [], [], 0⟩, ⟨9, [], [45, 46, 47, 48, 49, 50, 51, 52, 53], [], [], 0⟩, ⟨10, [9], [45, 46, 47, 48, 49, 50, 51, 52, 53], [], [], 0⟩, ⟨11, [0, 1, 2, 3, 4, 5, 6, 7, 8, 9, 10], [], [], [], 0⟩, ⟨12, [0, 1, 2, 3, 4, 5, 6, 7, 8, 9, 10, 11], [], [], [], 0⟩, ⟨13, [0, 1, 2, 3, 4, 5, 6, 7, 8, 9, 10, 11, 12], [], [], [], 0⟩] (by kernel_rfl) (by kernel_rfl) (by kernel_rfl) ?_) | ((first | refine DG_next' (by kernel_rfl) (fun K hK => ?_) | refine DG_nil (by kernel_rfl) (fun K hK => ?_)); simp only [↓Go.Sy.dsnE_some, ↓Go.Sy.dsnE_none, ↓Go.Sy.dsnE_nil, ↓Go.Sy.dsnO_snoc, ↓Go.Sy.dsnO_nil, ↓Go.Sy.nidAt_snoc, ↓Go.Sy.nidAt_nil, push_cast, Nat.reduceLeDiff, Nat.reduceSub, Nat.reduceBEq, Nat.reduceEqDiff, Nat.reduceAdd, Nat.reduceLT, ↓reduceIte, reduceCtorEq]; refine hK _ _ _ ?_; clear hK K) | apply DG_go | apply AL_nil | apply Thn_normal | apply Thn_ret | apply Thn_exit | apply Blk_normal | apply Blk_ret | apply Blk_here | (refine Blk_other rfl ?_) | apply AC_block | apply AC_exit | apply AC_skip | apply AC_ret)
  all_goals first
    | ((refine Ends.mk2 (by first | exact .inr rfl | exact .inl rfl) [] ?_; simp -dsimp (disch := try exact vD) only [push_cast, simprocAttr, Tryd.f34]; (repeat refine aI ?_); try (first | exact vI | fail)); done)
    | trace_state
end Go.Proofs.YtebinjcofclfaaaDoor
