/- Diagrams: the reference's Table and From. No condition. -/
import Derived.Test.YtabafldpnkjboaaDoorDi4
set_option linter.unusedVariables false
set_option linter.unusedSectionVars false
set_option linter.unusedSimpArgs false
set_option maxHeartbeats 4000000
set_option maxRecDepth 20000
namespace Go.Proofs.YtabafldpnkjboaaDoor
open Go Go.Sy Go.Dg
attribute [local irreducible] AO AL AC OpT ACall Ends DGo DRun Thn Blk Nxt
variable {N N' N1 N2 T : Nat} {F F1 F2 G : List Fo} {L L' : List Fk} {v lo hi n k k1 k2 k' i m s t a b r : Nat} {p q p' q' : Int} {z z' : Bool} {x y : Fk}
theorem cB_len {l : List Bool} : (cB l).length = l.length := by simp [cB]
end Go.Proofs.YtabafldpnkjboaaDoor
