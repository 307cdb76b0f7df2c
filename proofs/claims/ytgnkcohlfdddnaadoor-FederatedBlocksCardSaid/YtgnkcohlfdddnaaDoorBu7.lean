/- Equal expressions. No condition. -/
import Derived.Test.YtgnkcohlfdddnaaDoorEx1
import Derived.Test.YtgnkcohlfdddnaaDoorBpA

set_option linter.unusedVariables false
set_option linter.unusedSectionVars false
set_option linter.unusedSimpArgs false
set_option maxHeartbeats 1000000
set_option maxRecDepth 20000
namespace Go.Proofs.YtgnkcohlfdddnaaDoor
open Go Go.Sy Go.Bp
attribute [local irreducible] AO AL AC OpT ACall Ends DGo DRun Thn Blk Nxt
variable {l m : List Int} {z z2 : Bool} {n k i j : Nat} {x y : Ex} {a b : Int}
def slI (z z2 : Bool) (l m : List Int) (n : Nat) (j : {j : Nat // j ≤ n ∧ ∀ k, k < j → l.getD k default = m.getD k default}) : St :=
  ⟨26, 0, [(0,.isl z (cI .i64 l) n), (1,.isl z2 (cI .i64 m) n), (5,.val (.int .i64 j.val))], []⟩
def Short (x : Ex) : Prop := x.nodes.length < 2^42 ∧ ∀ j, j < x.nodes.length → (x.nodes.getD j default).w.length < 2^47 ∧ (x.nodes.getD j default).k.length < 2^47
def saI (x y : Ex) (j : {j : Nat // j ≤ x.nodes.length ∧ ∀ i, i < j → core (x.nodes.getD i default) = core (y.nodes.getD i default)}) : St :=
  ⟨74, 0, [(2,.pt 0 0), (3,.pt 1 0), (5,.val (.int .i64 j.val))], [(0, some (.cells (Cells.cells x) 50)), (1, some (.cells (Cells.cells y) 50))]⟩
end Go.Proofs.YtgnkcohlfdddnaaDoor
