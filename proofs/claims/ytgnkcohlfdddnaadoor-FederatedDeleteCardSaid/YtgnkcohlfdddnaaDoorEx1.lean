/- Nodes and expressions in cells; slices.Clone at numbers. No condition. -/
import Derived.Test.YtgnkcohlfdddnaaDoorTy
import Derived.Test.YtgnkcohlfdddnaaDoorProg
import Derived.Test.YtgnkcohlfdddnaaDoorSymC
import Derived.Test.YtgnkcohlfdddnaaDoorBpA
set_option linter.unusedVariables false
set_option linter.unusedSectionVars false
set_option linter.unusedSimpArgs false
set_option maxHeartbeats 1000000
set_option maxRecDepth 20000
namespace Go.Proofs.YtgnkcohlfdddnaaDoor
open Go Go.Sy Go.Bp
attribute [local irreducible] AO AL AC OpT ACall Ends DGo DRun Thn Blk Nxt

instance : Cells Nd 5 := ⟨fun n => [.val (.int .i64 n.kind), .val (.int .i64 n.server), .val (.int .i64 n.need), .isl n.wz (cI .i64 n.w) n.w.length, .isl n.kz (cI .i64 n.k) n.k.length], fun _ => rfl, fun _ => rfl, fun _ => rfl⟩
instance : Cells Ex 2 := ⟨fun x => [.isl x.nz (cR x.nodes) x.nodes.length, .val (.int .i64 x.root)], fun _ => rfl, fun _ => rfl, fun _ => rfl⟩
theorem nd_cells (n : Nd) : Cells.cells n = [.val (.int .i64 n.kind), .val (.int .i64 n.server), .val (.int .i64 n.need), .isl n.wz (cI .i64 n.w) n.w.length, .isl n.kz (cI .i64 n.k) n.k.length] := rfl
theorem ex_cells (x : Ex) : Cells.cells x = [.isl x.nz (cR x.nodes) x.nodes.length, .val (.int .i64 x.root)] := rfl
theorem ex_0 (x : Ex) : (Cells.cells x)[0]? = some (.isl x.nz (cR x.nodes) x.nodes.length) := rfl
theorem ex_1 (x : Ex) : (Cells.cells x)[1]? = some (.val (.int .i64 x.root)) := rfl
theorem nd_snoc {l : List Nd} {a b c : Int} {wz kz : Bool} {w k : List Int} {n m : Nat} (hn : n = w.length) (hm : m = k.length) :
    cR l ++ [.val (.int .i64 a), .val (.int .i64 b), .val (.int .i64 c), .isl wz (cI .i64 w) n, .isl kz (cI .i64 k) m] = cR (l ++ [⟨a, b, c, wz, w, kz, k⟩]) := by
  subst hn; subst hm; exact cR_snoc' (a := (⟨a, b, c, wz, w, kz, k⟩ : Nd))
theorem nd_snoc_z {l : List Nd} {a b c : Int} {wz kz : Bool} {w : List Int} {n : Nat} (hn : n = w.length) :
    cR l ++ [.val (.int .i64 a), .val (.int .i64 b), .val (.int .i64 c), .isl wz (cI .i64 w) n, .isl kz [] 0] = cR (l ++ [⟨a, b, c, wz, w, kz, []⟩]) := by
  subst hn; exact cR_snoc' (a := (⟨a, b, c, wz, w, kz, []⟩ : Nd))
theorem nd_snoc_wz {l : List Nd} {a b c : Int} {wz kz : Bool} :
    cR l ++ [.val (.int .i64 a), .val (.int .i64 b), .val (.int .i64 c), .isl wz [] 0, .isl kz [] 0] = cR (l ++ [⟨a, b, c, wz, [], kz, []⟩]) := cR_snoc' (a := (⟨a, b, c, wz, [], kz, []⟩ : Nd))
attribute [push_cast] nd_cells ex_0 ex_1 nd_snoc
variable {l : List Int} {z : Bool} {n : Nat}
theorem clone_z : ACall Tryd.prog 94 [.isl true [] 0] [] 0 (.isl true [] 0) [] := by
  refine ACall.enter Tryd.func94 rfl (by simp [Tryd.ntmps94]) (by simp) ?_; simp only [entry, idx, Tryd.ntmps94, List.length, List.map_cons, List.map_nil, List.append_nil, List.cons_append, List.nil_append, Nat.reduceAdd, Nat.zero_add, List.length_cons, List.length_nil]
  repeat' (first | (refine AC_seq ?_) | (refine AC_region_lit ?_) | ((first | refine AL_go rfl (fun K hK => ?_) | refine AL_go0 (fun K hK => ?_)); (first | refine R_move _ ?_ | refine R_assign _ ?_ | refine Q_buildSlice _ _ _ ?_ | refine Q_eqAgg _ _ _ _ ?_ | refine Q_neqAgg _ _ _ _ ?_ | refine Q_neqSelf _ _ _ _ ?_ | refine Q_bin _ _ _ _ _ ?_ | refine Q_appendNil _ _ _ ?_); simp -dsimp (disch := first | exact vD | fail) only [push_cast, simprocAttr]; (repeat (refine aI ?_)); (first | refine hK _ _ _ ?_ | refine hK _ _ ?_); clear hK K) | ((first | refine AL_go rfl (fun K hK => ?_) | refine AL_go0 (fun K hK => ?_)); (first | refine Q_eqnil _ _ _ _ ?_ | refine Q_neqnil _ _ _ _ ?_ | refine Q_append _ _ _ ?_); simp -dsimp (disch := first | exact vD | fail) only [push_cast, simprocAttr]; (repeat (refine aI ?_)); (first | refine hK _ _ _ ?_ | refine hK _ _ ?_); clear hK K) | ((first | refine AL_go rfl (fun K hK => ?_) | refine AL_go0 (fun K hK => ?_)); (first | refine Q_append00 _ _ _ ?_); simp -dsimp (disch := first | exact vD | fail) only [push_cast, simprocAttr]; (repeat (refine aI ?_)); (first | refine hK _ _ _ ?_ | refine hK _ _ ?_); clear hK K) | ((first | refine AL_go rfl (fun K hK => ?_) | refine AL_go0 (fun K hK => ?_)); (first | refine Q_appendIn _ _ _ ?_); simp -dsimp (disch := first | exact vD | fail) only [push_cast, simprocAttr]; (repeat (refine aI ?_)); (first | refine hK _ _ _ ?_ | refine hK _ _ ?_); clear hK K) | ((first | refine AL_guard rfl rfl (fun K1 K2 h1 h2 => ?_) rfl | refine AC_cond_k (fun K1 K2 h1 h2 => ?_)); simp -dsimp (disch := first | exact vD | fail) only [push_cast, simprocAttr]; (first | (refine ⟨fun hc => ?_, fun hc => ?_⟩ <;> first | (exfalso; omega) | (exfalso; contradiction) | refine h1 ?_ | refine h2 ?_) | refine h1 ?_ | refine h2 ?_); all_goals clear h1 h2 K1 K2) | (refine AL_nil ?_) | (refine Thn_normal ?_) | (refine Thn_ret ?_) | (refine Thn_exit ?_) | (refine Blk_normal ?_) | (refine Blk_ret ?_) | (refine Blk_here ?_) | (refine Blk_other rfl ?_) | (refine AC_block ?_) | (refine AC_exit ?_) | (refine AC_skip ?_) | (refine AC_ret ?_))
  all_goals (refine Ends.mk2 (by first | exact .inr rfl | exact .inl rfl) [] ?_; simp -dsimp (disch := first | exact vD | fail) only [push_cast, simprocAttr, Tryd.f94]; (repeat (refine aI ?_)); try (first | exact vI | fail))
theorem clone_sf (hn : l.length = n) (hb : n ≤ 100000) : ACall Tryd.prog 94 [.isl false (cI .i64 l) n] [] 0 (.isl false (cI .i64 l) n) [] := by
  refine ACall.enter Tryd.func94 rfl (by simp [Tryd.ntmps94]) (by simp) ?_; simp only [entry, idx, Tryd.ntmps94, List.length, List.map_cons, List.map_nil, List.append_nil, List.cons_append, List.nil_append, Nat.reduceAdd, Nat.zero_add, List.length_cons, List.length_nil]
  repeat' (first | (refine AC_seq ?_) | (refine AC_region_lit ?_) | ((first | refine AL_go rfl (fun K hK => ?_) | refine AL_go0 (fun K hK => ?_)); (first | refine R_move _ ?_ | refine R_assign _ ?_ | refine Q_buildSlice _ _ _ ?_ | refine Q_eqAgg _ _ _ _ ?_ | refine Q_neqAgg _ _ _ _ ?_ | refine Q_neqSelf _ _ _ _ ?_ | refine Q_bin _ _ _ _ _ ?_ | refine Q_appendNil _ _ _ ?_); simp -dsimp (disch := first | exact vD | fail) only [push_cast, simprocAttr]; (repeat (refine aI ?_)); (first | refine hK _ _ _ ?_ | refine hK _ _ ?_); clear hK K) | ((first | refine AL_go rfl (fun K hK => ?_) | refine AL_go0 (fun K hK => ?_)); (first | refine Q_eqnil _ _ _ _ ?_ | refine Q_neqnil _ _ _ _ ?_ | refine Q_append _ _ _ ?_); simp -dsimp (disch := first | exact vD | fail) only [push_cast, simprocAttr]; (repeat (refine aI ?_)); (first | refine hK _ _ _ ?_ | refine hK _ _ ?_); clear hK K) | ((first | refine AL_go rfl (fun K hK => ?_) | refine AL_go0 (fun K hK => ?_)); (first | refine Q_append00 _ _ _ ?_); simp -dsimp (disch := first | exact vD | fail) only [push_cast, simprocAttr]; (repeat (refine aI ?_)); (first | refine hK _ _ _ ?_ | refine hK _ _ ?_); clear hK K) | ((first | refine AL_go rfl (fun K hK => ?_) | refine AL_go0 (fun K hK => ?_)); (first | refine Q_appendIn _ _ _ ?_); simp -dsimp (disch := first | exact vD | fail) only [push_cast, simprocAttr]; (repeat (refine aI ?_)); (first | refine hK _ _ _ ?_ | refine hK _ _ ?_); clear hK K) | ((first | refine AL_guard rfl rfl (fun K1 K2 h1 h2 => ?_) rfl | refine AC_cond_k (fun K1 K2 h1 h2 => ?_)); simp -dsimp (disch := first | exact vD | fail) only [push_cast, simprocAttr]; (first | (refine ⟨fun hc => ?_, fun hc => ?_⟩ <;> first | (exfalso; omega) | (exfalso; contradiction) | refine h1 ?_ | refine h2 ?_) | refine h1 ?_ | refine h2 ?_); all_goals clear h1 h2 K1 K2) | (refine AL_nil ?_) | (refine Thn_normal ?_) | (refine Thn_ret ?_) | (refine Thn_exit ?_) | (refine Blk_normal ?_) | (refine Blk_ret ?_) | (refine Blk_here ?_) | (refine Blk_other rfl ?_) | (refine AC_block ?_) | (refine AC_exit ?_) | (refine AC_skip ?_) | (refine AC_ret ?_))
  all_goals ((refine Ends.frz 1 ?_; simp -dsimp (disch := first | exact vD | fail) only [push_cast, simprocAttr, Tryd.f94]; (repeat (refine aI ?_)); intro K hK; refine hK _ _ ?_; clear hK K); refine Ends.mk2 (by first | exact .inr rfl | exact .inl rfl) [] ?_; simp -dsimp (disch := first | exact vD | fail) only [push_cast, simprocAttr, Tryd.f94]; (repeat (refine aI ?_)); try (first | exact vI | fail))
theorem clone_f (hn : l.length = n) (hb : n ≤ 100000) (hz : z = true → l = []) : ACall Tryd.prog 94 [.isl z (cI .i64 l) n] [] 0 (.isl z (cI .i64 l) n) [] := by
  cases z with
  | false => exact clone_sf hn hb
  | true =>
    have e := hz rfl
    subst e; subst hn; exact clone_z
end Go.Proofs.YtgnkcohlfdddnaaDoor
