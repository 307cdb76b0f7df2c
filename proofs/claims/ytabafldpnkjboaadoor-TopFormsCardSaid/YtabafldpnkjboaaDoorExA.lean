/- ExA: Ex1 Ex2 Ex3, merged. No condition. -/
import Derived.Test.YtabafldpnkjboaaDoorTy
import Derived.Test.YtabafldpnkjboaaDoorProg
import Derived.Test.YtabafldpnkjboaaDoorSymC
import Derived.Test.YtabafldpnkjboaaDoorBpA
/- Ex1. -/
set_option linter.unusedVariables false
set_option linter.unusedSectionVars false
set_option linter.unusedSimpArgs false
set_option maxHeartbeats 1000000
set_option maxRecDepth 20000
namespace Go.Proofs.YtabafldpnkjboaaDoor
open Go Go.Sy Go.Bp
attribute [local irreducible] AO AL AC OpT ACall Ends DGo DRun Thn Blk Nxt

instance : Cells Nd 5 := ⟨fun n => [.val (.int .i64 n.kind), .val (.int .i64 n.server), .val (.int .i64 n.need), .isl n.wz (cI .i64 n.w) n.w.length, .isl n.kz (cI .i64 n.k) n.k.length], fun _ => rfl, fun _ => rfl, fun _ => rfl⟩
instance : Cells Ex 2 := ⟨fun x => [.isl x.nz (cR x.nodes) x.nodes.length, .val (.int .i64 x.root)], fun _ => rfl, fun _ => rfl, fun _ => rfl⟩
theorem nd_cells (n : Nd) : Cells.cells n = [.val (.int .i64 n.kind), .val (.int .i64 n.server), .val (.int .i64 n.need), .isl n.wz (cI .i64 n.w) n.w.length, .isl n.kz (cI .i64 n.k) n.k.length] := rfl
theorem ex_cells (x : Ex) : Cells.cells x = [.isl x.nz (cR x.nodes) x.nodes.length, .val (.int .i64 x.root)] := rfl
theorem ex_0 (x : Ex) : (Cells.cells x)[0]? = some (.isl x.nz (cR x.nodes) x.nodes.length) := rfl
theorem ex_1 (x : Ex) : (Cells.cells x)[1]? = some (.val (.int .i64 x.root)) := rfl
theorem nd_snoc {l : List Nd} {a b c : Int} {wz kz : Bool} {w k : List Int} {n m : Nat} (hn : n = w.length) (hm : m = k.length) :
    cR l ++ [.val (.int .i64 a), .val (.int .i64 b), .val (.int .i64 c), .isl wz (cI .i64 w) n, .isl kz (cI .i64 k) m] = cR (l ++ [⟨a, b, c, wz, w, kz, k⟩]) := by
  subst hn; subst hm; exact cR_snoc' (a := (⟨a, b, c, wz, w, kz, k⟩ : Nd))
theorem nd_snoc_z {l : List Nd} {a b c : Int} {wz kz : Bool} {w : List Int} {n : Nat} (hn : n = w.length) :
    cR l ++ [.val (.int .i64 a), .val (.int .i64 b), .val (.int .i64 c), .isl wz (cI .i64 w) n, .isl kz [] 0] = cR (l ++ [⟨a, b, c, wz, w, kz, []⟩]) := by
  subst hn; exact cR_snoc' (a := (⟨a, b, c, wz, w, kz, []⟩ : Nd))
theorem nd_snoc_w {l : List Nd} {a b c : Int} {wz kz : Bool} {k : List Int} {n : Nat} (hn : n = k.length) :
    cR l ++ [.val (.int .i64 a), .val (.int .i64 b), .val (.int .i64 c), .isl wz [] 0, .isl kz (cI .i64 k) n] = cR (l ++ [⟨a, b, c, wz, [], kz, k⟩]) := by
  subst hn; exact cR_snoc' (a := (⟨a, b, c, wz, [], kz, k⟩ : Nd))
theorem nd_snoc_wz {l : List Nd} {a b c : Int} {wz kz : Bool} :
    cR l ++ [.val (.int .i64 a), .val (.int .i64 b), .val (.int .i64 c), .isl wz [] 0, .isl kz [] 0] = cR (l ++ [⟨a, b, c, wz, [], kz, []⟩]) := cR_snoc' (a := (⟨a, b, c, wz, [], kz, []⟩ : Nd))
attribute [push_cast] nd_cells ex_0 ex_1 nd_snoc
end Go.Proofs.YtabafldpnkjboaaDoor
/- Ex2. -/
set_option linter.unusedVariables false
set_option linter.unusedSectionVars false
set_option linter.unusedSimpArgs false
set_option maxHeartbeats 1000000
set_option maxRecDepth 20000
namespace Go.Proofs.YtabafldpnkjboaaDoor
open Go Go.Sy Go.Bp
attribute [local irreducible] AO AL AC OpT ACall Ends DGo DRun Thn Blk Nxt
variable {l : List Int} {z : Bool} {n : Nat}
theorem clone_z : ACall Tryd.prog 36 [.isl true [] 0] [] 0 (.isl true [] 0) [] := by
  refine ACall.enter Tryd.func36 rfl (by simp [Tryd.ntmps36]) (by simp) ?_; simp only [entry, idx, Tryd.ntmps36, List.length, List.map_cons, List.map_nil, List.append_nil, List.cons_append, List.nil_append, Nat.reduceAdd, Nat.zero_add, List.length_cons, List.length_nil]
  repeat' (first | apply AC_seq | apply AC_region_lit | ((first | refine AL_go rfl (fun K hK => ?_) | refine AL_go0 (fun K hK => ?_)); (first | apply R_move | apply R_assign | apply Q_buildSlice | apply Q_eqAgg | apply Q_neqAgg | apply Q_neqSelf | apply Q_bin | apply Q_appendNil); simp -dsimp (disch := try exact vD) only [push_cast, simprocAttr]; (repeat refine aI ?_); apply hK; clear hK K) | ((first | refine AL_go rfl (fun K hK => ?_) | refine AL_go0 (fun K hK => ?_)); (first | apply Q_eqnil | apply Q_neqnil | apply Q_append); simp -dsimp (disch := try exact vD) only [push_cast, simprocAttr]; (repeat refine aI ?_); apply hK; clear hK K) | ((first | refine AL_go rfl (fun K hK => ?_) | refine AL_go0 (fun K hK => ?_)); (first | apply Q_append00); simp -dsimp (disch := try exact vD) only [push_cast, simprocAttr]; (repeat refine aI ?_); apply hK; clear hK K) | ((first | refine AL_go rfl (fun K hK => ?_) | refine AL_go0 (fun K hK => ?_)); (first | apply Q_appendIn); simp -dsimp (disch := try exact vD) only [push_cast, simprocAttr]; (repeat refine aI ?_); apply hK; clear hK K) | ((first | refine AL_guard rfl rfl (fun K1 K2 h1 h2 => ?_) rfl | refine AC_cond_k (fun K1 K2 h1 h2 => ?_)); simp -dsimp (disch := try exact vD) only [push_cast, simprocAttr]; (first | (refine ⟨fun hc => ?_, fun hc => ?_⟩ <;> first | (exfalso; omega) | (exfalso; contradiction) | refine h1 ?_ | refine h2 ?_) | refine h1 ?_ | refine h2 ?_); all_goals clear h1 h2 K1 K2) | apply AL_nil | apply Thn_normal | apply Thn_ret | apply Thn_exit | apply Blk_normal | apply Blk_ret | apply Blk_here | (refine Blk_other rfl ?_) | apply AC_block | apply AC_exit | apply AC_skip | apply AC_ret)
  all_goals (refine Ends.mk2 (by first | exact .inr rfl | exact .inl rfl) [] ?_; simp -dsimp (disch := try exact vD) only [push_cast, simprocAttr, Tryd.f36]; (repeat refine aI ?_); try (first | exact vI | fail))
theorem clone_s (hn : l.length = n) (hb : n ≤ 100000) : ACall Tryd.prog 36 [.isl false (cI .i64 l) n] [] 0 (.sl 0 0 n 1) [.cells (cI .i64 l) 3] := by
  refine ACall.enter Tryd.func36 rfl (by simp [Tryd.ntmps36]) (by simp) ?_; simp only [entry, idx, Tryd.ntmps36, List.length, List.map_cons, List.map_nil, List.append_nil, List.cons_append, List.nil_append, Nat.reduceAdd, Nat.zero_add, List.length_cons, List.length_nil]
  repeat' (first | apply AC_seq | apply AC_region_lit | ((first | refine AL_go rfl (fun K hK => ?_) | refine AL_go0 (fun K hK => ?_)); (first | apply R_move | apply R_assign | apply Q_buildSlice | apply Q_eqAgg | apply Q_neqAgg | apply Q_neqSelf | apply Q_bin | apply Q_appendNil); simp -dsimp (disch := try exact vD) only [push_cast, simprocAttr]; (repeat refine aI ?_); apply hK; clear hK K) | ((first | refine AL_go rfl (fun K hK => ?_) | refine AL_go0 (fun K hK => ?_)); (first | apply Q_eqnil | apply Q_neqnil | apply Q_append); simp -dsimp (disch := try exact vD) only [push_cast, simprocAttr]; (repeat refine aI ?_); apply hK; clear hK K) | ((first | refine AL_go rfl (fun K hK => ?_) | refine AL_go0 (fun K hK => ?_)); (first | apply Q_append00); simp -dsimp (disch := try exact vD) only [push_cast, simprocAttr]; (repeat refine aI ?_); apply hK; clear hK K) | ((first | refine AL_go rfl (fun K hK => ?_) | refine AL_go0 (fun K hK => ?_)); (first | apply Q_appendIn); simp -dsimp (disch := try exact vD) only [push_cast, simprocAttr]; (repeat refine aI ?_); apply hK; clear hK K) | ((first | refine AL_guard rfl rfl (fun K1 K2 h1 h2 => ?_) rfl | refine AC_cond_k (fun K1 K2 h1 h2 => ?_)); simp -dsimp (disch := try exact vD) only [push_cast, simprocAttr]; (first | (refine ⟨fun hc => ?_, fun hc => ?_⟩ <;> first | (exfalso; omega) | (exfalso; contradiction) | refine h1 ?_ | refine h2 ?_) | refine h1 ?_ | refine h2 ?_); all_goals clear h1 h2 K1 K2) | apply AL_nil | apply Thn_normal | apply Thn_ret | apply Thn_exit | apply Blk_normal | apply Blk_ret | apply Blk_here | (refine Blk_other rfl ?_) | apply AC_block | apply AC_exit | apply AC_skip | apply AC_ret)
  all_goals (refine Ends.mk2 (by first | exact .inr rfl | exact .inl rfl) [1] ?_; simp -dsimp (disch := try exact vD) only [push_cast, simprocAttr, Tryd.f36]; (repeat refine aI ?_); try (first | exact vI | fail))
theorem clone_sf (hn : l.length = n) (hb : n ≤ 100000) : ACall Tryd.prog 36 [.isl false (cI .i64 l) n] [] 0 (.isl false (cI .i64 l) n) [] := by
  refine ACall.enter Tryd.func36 rfl (by simp [Tryd.ntmps36]) (by simp) ?_; simp only [entry, idx, Tryd.ntmps36, List.length, List.map_cons, List.map_nil, List.append_nil, List.cons_append, List.nil_append, Nat.reduceAdd, Nat.zero_add, List.length_cons, List.length_nil]
  repeat' (first | apply AC_seq | apply AC_region_lit | ((first | refine AL_go rfl (fun K hK => ?_) | refine AL_go0 (fun K hK => ?_)); (first | apply R_move | apply R_assign | apply Q_buildSlice | apply Q_eqAgg | apply Q_neqAgg | apply Q_neqSelf | apply Q_bin | apply Q_appendNil); simp -dsimp (disch := try exact vD) only [push_cast, simprocAttr]; (repeat refine aI ?_); apply hK; clear hK K) | ((first | refine AL_go rfl (fun K hK => ?_) | refine AL_go0 (fun K hK => ?_)); (first | apply Q_eqnil | apply Q_neqnil | apply Q_append); simp -dsimp (disch := try exact vD) only [push_cast, simprocAttr]; (repeat refine aI ?_); apply hK; clear hK K) | ((first | refine AL_go rfl (fun K hK => ?_) | refine AL_go0 (fun K hK => ?_)); (first | apply Q_append00); simp -dsimp (disch := try exact vD) only [push_cast, simprocAttr]; (repeat refine aI ?_); apply hK; clear hK K) | ((first | refine AL_go rfl (fun K hK => ?_) | refine AL_go0 (fun K hK => ?_)); (first | apply Q_appendIn); simp -dsimp (disch := try exact vD) only [push_cast, simprocAttr]; (repeat refine aI ?_); apply hK; clear hK K) | ((first | refine AL_guard rfl rfl (fun K1 K2 h1 h2 => ?_) rfl | refine AC_cond_k (fun K1 K2 h1 h2 => ?_)); simp -dsimp (disch := try exact vD) only [push_cast, simprocAttr]; (first | (refine ⟨fun hc => ?_, fun hc => ?_⟩ <;> first | (exfalso; omega) | (exfalso; contradiction) | refine h1 ?_ | refine h2 ?_) | refine h1 ?_ | refine h2 ?_); all_goals clear h1 h2 K1 K2) | apply AL_nil | apply Thn_normal | apply Thn_ret | apply Thn_exit | apply Blk_normal | apply Blk_ret | apply Blk_here | (refine Blk_other rfl ?_) | apply AC_block | apply AC_exit | apply AC_skip | apply AC_ret)
  all_goals ((refine Ends.frz 1 ?_; simp -dsimp (disch := try exact vD) only [push_cast, simprocAttr, Tryd.f36]; (repeat refine aI ?_); intro K hK; refine hK _ _ ?_; clear hK K); refine Ends.mk2 (by first | exact .inr rfl | exact .inl rfl) [] ?_; simp -dsimp (disch := try exact vD) only [push_cast, simprocAttr, Tryd.f36]; (repeat refine aI ?_); try (first | exact vI | fail))
theorem clone_f (hn : l.length = n) (hb : n ≤ 100000) (hz : z = true → l = []) : ACall Tryd.prog 36 [.isl z (cI .i64 l) n] [] 0 (.isl z (cI .i64 l) n) [] := by
  cases z with
  | false => exact clone_sf hn hb
  | true =>
    have e := hz rfl
    subst e; subst hn; exact clone_z
end Go.Proofs.YtabafldpnkjboaaDoor
/- Ex3. -/

set_option linter.unusedVariables false
set_option linter.unusedSectionVars false
set_option linter.unusedSimpArgs false
set_option maxHeartbeats 1000000
set_option maxRecDepth 20000
namespace Go.Proofs.YtabafldpnkjboaaDoor
open Go Go.Sy Go.Bp
def Short (x : Ex) : Prop := x.nodes.length < 2^42 ∧ ∀ j, j < x.nodes.length → (x.nodes.getD j default).w.length < 2^47 ∧ (x.nodes.getD j default).k.length < 2^47
end Go.Proofs.YtabafldpnkjboaaDoor
