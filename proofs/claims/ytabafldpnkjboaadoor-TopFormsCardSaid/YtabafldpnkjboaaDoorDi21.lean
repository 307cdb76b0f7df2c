/- Diagrams: the same lists, the diagram of the examples, the laws' look at themselves: sederuntlaw11.awake. No condition. -/
import Derived.Test.YtabafldpnkjboaaDoorDi20
import Derived.Test.YtabafldpnkjboaaDoorDi14
import Derived.Test.YtabafldpnkjboaaDoorDi16
import Derived.Test.YtabafldpnkjboaaDoorDi8
set_option linter.unusedVariables false
set_option linter.unusedSectionVars false
set_option linter.unusedSimpArgs false
set_option maxHeartbeats 4000000
set_option maxRecDepth 20000
namespace Go.Proofs.YtabafldpnkjboaaDoor
open Go Go.Sy Go.Bp Go.Dg
attribute [local irreducible] AO AL AC OpT ACall Ends DGo DRun Thn Blk Nxt
variable {n N M T L k i m r a b j w u v s q x y d : Nat} {z zl zr up : Bool} {xs qs B : List Nat} {l : List Int}
def s7I (zl zr : Bool) (qs : List Nat) (n : Nat) (i : {i : Nat // i ≤ n}) : St :=
  ⟨26, 0, [(0,.isl zl (cX qs) n), (1,.isl zr (cX qs) n), (5,.val (.int .i64 i.val))], []⟩
theorem same7_ok (hl : qs.length = n) (hn : n < 2^47) : ACall Tryd.prog 11 [.isl zl (cX qs) n, .isl zr (cX qs) n] [] 0 (.val (.bool true)) [] := by
  refine ACall.enter Tryd.func11 rfl (by simp [Tryd.ntmps11]) (by simp) ?_; simp only [entry, idx, Tryd.ntmps11, List.length, List.map_cons, List.map_nil, List.append_nil, List.cons_append, List.nil_append, Nat.reduceAdd, Nat.zero_add, List.length_cons, List.length_nil]
  repeat' (first | (refine AC_loop_id ?_; refine AC_loop' [] ([].length) (s7I zl zr qs n) (fun i => n - i.val) (⟨0, by omega⟩) rfl (by unfold s7I; (try simp only [List.cons_append, List.nil_append]); refine Sub.mk2 ?_; (simp -dsimp (disch := try exact vD) only [push_cast, simprocAttr, c_Nat]); (repeat refine aI ?_); first | done | exact vI) ?_; (rintro ⟨i, hi⟩; (simp -dsimp (disch := try exact vD) only [push_cast, simprocAttr, s7I]))) | (refine Nxt_id ?_; refine Nxt.mk [] (⟨i + 1, by omega⟩) rfl (by unfold s7I; (try simp only [List.cons_append, List.nil_append]); refine Sub.mk2 ?_; (simp -dsimp (disch := try exact vD) only [push_cast, simprocAttr, c_Nat]); (repeat refine aI ?_); first | done | exact vI) (by first | omega | (dsimp only; omega) | (simp; done) | (simp; omega))) | apply AC_seq | apply AC_region_lit | ((first | refine AL_go rfl (fun K hK => ?_) | refine AL_go0 (fun K hK => ?_) | refine DG_run (fun K hK => ?_)); (first | apply R_move | apply R_assign | apply Q_load | apply Q_loadAgg | apply Q_indexAddr | apply Q_indexArr | apply Q_len | apply Q_lenStr | apply Q_eqAgg | apply Q_neqAgg | apply Q_neqSelf | apply Q_bin); simp -dsimp (disch := try exact vD) only [push_cast, simprocAttr, c_Nat]; (repeat refine aI ?_); apply hK; clear hK K) | ((first | refine AL_guard rfl rfl (fun K1 K2 h1 h2 => ?_) rfl | refine AC_cond_k (fun K1 K2 h1 h2 => ?_) | refine DG_guard rfl rfl (fun K1 K2 h1 h2 => ?_)); simp -dsimp (disch := try exact vD) only [push_cast, simprocAttr, c_Nat]; (first | (refine ⟨fun hc => ?_, fun hc => ?_⟩ <;> first | (exfalso; omega) | (exfalso; contradiction) | refine h1 ?_ | refine h2 ?_) | refine h1 ?_ | refine h2 ?_); all_goals clear h1 h2 K1 K2) | (refine AC_draw (id := 6) (by kernel_rfl) [⟨0, [], [18, 21, 22, 23, 24], [], [], 0⟩, ⟨1, [], [17, 21, 22, 23, 24], [], [], 0⟩, ⟨2, [0, 1], [21, 22, 23, 24], [], [], 0⟩, ⟨3, [0, 1, 2], [21, 22, 23, 24], [], [], 0⟩, ⟨4, [], [17, 18, 19, 20, 22], [], [], 0⟩, ⟨5, [], [17, 18, 19, 20, 21], [], [], 0⟩, ⟨6, [4, 5], [17, 18, 19, 20], [], [], 0⟩, ⟨7, [4, 5, 6], [17, 18, 19, 20], [], [], 0⟩, ⟨8, [0, 1, 2, 3, 4, 5, 6, 7], [], [], [], 0⟩] (by kernel_rfl) (by kernel_rfl) (by kernel_rfl) ?_) | ((first | refine DG_next' (by kernel_rfl) (fun K hK => ?_) | refine DG_nil (by kernel_rfl) (fun K hK => ?_)); simp only [↓Go.Sy.dsnE_some, ↓Go.Sy.dsnE_none, ↓Go.Sy.dsnE_nil, ↓Go.Sy.dsnO_snoc, ↓Go.Sy.dsnO_nil, ↓Go.Sy.nidAt_snoc, ↓Go.Sy.nidAt_nil, push_cast, Nat.reduceLeDiff, Nat.reduceSub, Nat.reduceBEq, Nat.reduceEqDiff, Nat.reduceAdd, Nat.reduceLT, ↓reduceIte, reduceCtorEq]; refine hK _ _ _ ?_; clear hK K) | apply DG_go | apply AL_nil | apply Thn_normal | apply Thn_ret | apply Thn_exit | apply Blk_normal | apply Blk_ret | apply Blk_here | (refine Blk_other rfl ?_) | apply AC_block | apply AC_exit | apply AC_skip | apply AC_ret)
  all_goals first
    | ((refine Ends.mk2 (by first | exact .inr rfl | exact .inl rfl) [] ?_; simp -dsimp (disch := try exact vD) only [push_cast, simprocAttr, Tryd.f11]; (repeat refine aI ?_); try (first | exact vI | fail)); done)
    | trace_state
def twoF : List Fo := [⟨2, 0, 1⟩, ⟨1, 0, 2⟩, ⟨1, 2, 1⟩, ⟨0, 3, 4⟩]
abbrev i6v (x : Int) : AV := .val (.int .i64 x)
abbrev u6v (x : Int) : AV := .val (.int .u16 x)
theorem two_from : fromT 3 (hasA [3, 5, 6]) = (twoF, 5) := by decide +kernel
theorem two_DOk : DOk 3 twoF 5 := by
  have := from_DOk (n := 3) (tab := hasA [3, 5, 6]) (by omega)
  rw [two_from] at this; exact this
theorem two_counts : widN (srvF 3 twoF 5) (cAt 3 twoF 5) = [0, 0, 3, 1] := by decide +kernel
theorem two_fam : famE [3, 5, 6] = 0 ∧ supA [3, 5, 6] 3 % 65536 < 2 ^ 3 := by decide +kernel
theorem a_counts : ACall Tryd.prog 19 [.agg [i6v 3, .isl false (cR twoF) 4, i6v 5]] [] 0 (.tup [.isl false (cI .i64 [0, 0, 3, 1]) 4, i6v 0]) [] := by
  have := counts_w (z := false) (N := 4) two_DOk rfl two_counts
  exact this
theorem a_same7 : ACall Tryd.prog 11 [.isl false [u6v 3, u6v 5, u6v 6] 3, .isl false [u6v 3, u6v 5, u6v 6] 3] [] 0 (.val (.bool true)) [] := same7_ok (qs := [3, 5, 6]) rfl (by decide)
theorem cI0031 : cI .i64 [0, 0, 3, 1] = [i6v 0, i6v 0, i6v 3, i6v 1] := rfl
section
variable {F : List Fo} {z z' : Bool}
end
end Go.Proofs.YtabafldpnkjboaaDoor
