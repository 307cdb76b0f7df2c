/- The thresholds, where the caller gives up its own list of kids. No condition. -/
import Derived.Test.YtdeligopifoceaaDoorSymC
import Derived.Test.YtdeligopifoceaaDoorBu6
set_option linter.unusedVariables false
set_option linter.unusedSectionVars false
set_option linter.unusedSimpArgs false
set_option maxHeartbeats 2000000
set_option maxRecDepth 20000
namespace Go.Proofs.YtdeligopifoceaaDoor
open Go Go.Sy Go.Bp
attribute [local irreducible] AO AL AC OpT ACall Ends DGo DRun Thn Blk Nxt
variable {K : Nat} {kids : List Ex} {need : Int} {e : TypeId}
theorem own_cs (hK : kids.length = K) : (cR kids).take (K * 2) = cR kids := List.take_of_length_le (by rw [cR_len]; omega)
theorem thr_nO (hk : KOk kids) (hK : kids.length = K) : ACall Tryd.prog 47 [.val (.int .i64 need), .sl 0 0 K 2, .isl true [] 0] [.cells (cR kids) e] 0 (.agg (Cells.cells (thr need kids true []))) [] :=
  ACall.own (args' := [.val (.int .i64 need), .isl false (cR kids) K, .isl true [] 0]) (by rw [cR_bnd]; trivial) (by simp [frzV, own_cs hK]) (by simp [bnd]) (thr_n hk hK)
theorem rthr_okO (hk : KOkR kids) (hK : kids.length = K) : ACall Tryd.prog 50 [.val (.int .i64 need), .sl 0 0 K 2] [.cells (cR kids) e] 0 (.agg (Cells.cells (thr need kids true []))) [] :=
  ACall.own (args' := [.val (.int .i64 need), .isl false (cR kids) K]) (by rw [cR_bnd]; trivial) (by simp [frzV, own_cs hK]) (by simp [bnd]) (rthr_ok hk hK)
theorem all_okO (hk : KOk kids) (hL : kids.length = K) (hK2 : K ≤ 1000) : ACall Tryd.prog 53 [.sl 0 0 K 2] [.cells (cR kids) e] 0 (.agg (Cells.cells (thr K kids true []))) [] :=
  ACall.own (args' := [.isl false (cR kids) K]) (by rw [cR_bnd]; trivial) (by simp [frzV, own_cs hL]) (by simp [bnd]) (all_ok hk hL hK2)
theorem rall_okO (hk : KOkR kids) (hL : kids.length = K) (hK2 : K ≤ 1000) : ACall Tryd.prog 56 [.sl 0 0 K 2] [.cells (cR kids) e] 0 (.agg (Cells.cells (thr K kids true []))) [] :=
  ACall.own (args' := [.isl false (cR kids) K]) (by rw [cR_bnd]; trivial) (by simp [frzV, own_cs hL]) (by simp [bnd]) (rall_ok hk hL hK2)
end Go.Proofs.YtdeligopifoceaaDoor
