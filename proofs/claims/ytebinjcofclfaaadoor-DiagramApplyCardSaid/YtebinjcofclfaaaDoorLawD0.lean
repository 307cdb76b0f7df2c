/- Diagrams: what the laws' drafts make. No condition. -/
import Derived.Test.YtebinjcofclfaaaDoorDi23
import Derived.Test.YtebinjcofclfaaaDoorLawD1
set_option linter.unusedVariables false
set_option linter.unusedSectionVars false
set_option linter.unusedSimpArgs false
set_option maxHeartbeats 4000000
set_option maxRecDepth 20000
namespace Go.Proofs.YtebinjcofclfaaaDoor
open Go Go.Sy Go.Bp Go.Dg
attribute [local irreducible] AO AL AC OpT ACall Ends DGo DRun Thn Blk Nxt
variable {n N M T L k i m r a b j w u v s q x y d : Nat} {z z' up up' : Bool} {B B' : List Nat} {F : List Fo} {p f g : Nat → Bool}
theorem made_M (h : DrOk N B L) (h16 : L ≤ 16) : ∃ F r, DOk (N % 7) F r ∧ ACall Tryd.prog 13 [.agg (drC N z B L up)] [] 0 (.agg [.val (.int .i64 (N % 7 : Nat)), .isl (F.length == 0) (cR F) F.length, .val (.int .i64 r)]) [] := by
  cases up with
  | false => exact ⟨_, _, from_DOk (by omega), made_f h.n h.len h16 rfl rfl h.b⟩
  | true => exact ⟨_, _, from_DOk (by omega), made_t h.n h.len h16 rfl rfl h.b⟩
end Go.Proofs.YtebinjcofclfaaaDoor
