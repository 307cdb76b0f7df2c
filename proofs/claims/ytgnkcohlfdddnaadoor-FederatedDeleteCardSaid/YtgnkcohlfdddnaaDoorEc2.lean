/- Whether an expression is small. No condition. -/
import Derived.Test.YtgnkcohlfdddnaaDoorBu7
set_option linter.unusedVariables false
set_option linter.unusedSectionVars false
set_option linter.unusedSimpArgs false
set_option maxHeartbeats 2000000
set_option maxRecDepth 20000
namespace Go.Proofs.YtgnkcohlfdddnaaDoor
open Go Go.Sy Go.Bp
attribute [local irreducible] AO AL AC OpT ACall Ends DGo DRun Thn Blk Nxt
variable {z zl : Bool} {n i j m q s b : Nat} {a : Int} {x : Ex} {t : Nd} {l : List Ex} {p r : Bool}
def fsJ (x : Ex) : Nat → Int
  | 0 => 0
  | i + 1 => IntKind.i64.wrap (IntKind.i64.wrap (fsJ x i + (x.nodes.getD i default).k.length) + (x.nodes.getD i default).w.length)
def fewB (x : Ex) : Bool := decide (x.nodes.length ≤ 70) && decide (fsJ x x.nodes.length ≤ 400)
def feI (x : Ex) (i : {i : Nat // i ≤ x.nodes.length}) : St :=
  ⟨37, 0, [(1,.pt 0 0), (3,.val (.int .i64 (fsJ x i.val))), (4,.val (.int .i64 i.val))], [(0, some (.cells (Cells.cells x) 50))]⟩
end Go.Proofs.YtgnkcohlfdddnaaDoor
