/- Diagrams: what a table grows. No condition. -/
import Derived.Test.YtebinjcofclfaaaDoorDi21
set_option linter.unusedVariables false
set_option linter.unusedSectionVars false
set_option linter.unusedSimpArgs false
set_option maxHeartbeats 4000000
set_option maxRecDepth 20000
namespace Go.Proofs.YtebinjcofclfaaaDoor
open Go Go.Sy Go.Bp Go.Dg
attribute [local irreducible] AO AL AC OpT ACall Ends DGo DRun Thn Blk Nxt
variable {n N M T L k i m r a b j w u v s q x y d : Nat} {z z' up up' : Bool} {B B' : List Nat} {F : List Fo} {p f g : Nat → Bool}
theorem DOk.of {D : List Fo} {tab : Nat → Bool} (h : fromT n tab = (D, w)) (h9 : n ≤ 9) : DOk n D w := by
  have := from_DOk (n := n) (tab := tab) h9
  rw [h] at this; exact this
end Go.Proofs.YtebinjcofclfaaaDoor
