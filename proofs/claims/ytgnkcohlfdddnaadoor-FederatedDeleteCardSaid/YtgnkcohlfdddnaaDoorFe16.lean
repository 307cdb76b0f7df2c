/- The reference's subsets and minimal quorums. No condition. -/
import Derived.Test.YtgnkcohlfdddnaaDoorFe15
import Derived.Test.YtgnkcohlfdddnaaDoorBpB
set_option linter.unusedVariables false
set_option linter.unusedSectionVars false
set_option linter.unusedSimpArgs false
set_option maxHeartbeats 2000000
set_option maxRecDepth 20000
namespace Go.Proofs.YtgnkcohlfdddnaaDoor
open Go Go.Sy Go.Bp
attribute [local irreducible] AO AL AC OpT ACall Ends DGo DRun Thn Blk Nxt
variable {z zl : Bool} {n i j k m q s d x L N T : Nat} {l : List Ex} {qs : List Nat}
attribute [local irreducible] memL mem chA chN sbA sbN
def rcI (s k : Nat) (x : {x : Nat // (x : Int) ≤ 65536}) : St :=
  ⟨28, 0, [(0,.val (.int .u16 (U s))), (1,.val (.int .i64 k)), (5,nilOr (chN s k x.val) 0 1), (6,.val (.int .i64 x.val))], nilOb (chN s k x.val) 0 (cX (chA s k x.val)) 33⟩
end Go.Proofs.YtgnkcohlfdddnaaDoor
