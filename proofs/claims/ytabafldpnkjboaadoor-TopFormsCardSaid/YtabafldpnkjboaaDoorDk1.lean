/- Diagrams: two nodes at a server. No condition. -/
import Derived.Test.YtabafldpnkjboaaDoorDi7
import Derived.Test.YtabafldpnkjboaaDoorDgA
set_option linter.unusedVariables false
set_option linter.unusedSectionVars false
set_option linter.unusedSimpArgs false
set_option maxHeartbeats 4000000
set_option maxRecDepth 20000
namespace Go.Proofs.YtabafldpnkjboaaDoor
open Go Go.Sy Go.Dg
attribute [local irreducible] AO AL AC OpT ACall Ends DGo DRun Thn Blk Nxt
variable {A B F F1 F2 G : List Fo} {K K1 K2 K3 : List ((Nat × Nat) × Nat)} {n na nb N M k k1 k2 k' i m r a b j w u v x1 by1 ul uh vl vh su sv op t : Nat} {q q' : Int} {z z' : Bool} {ba bb : Bool}
abbrev apD (z : Bool) (n : Nat) (A : List Fo) (N : Nat) (q : Int) : AV := .agg [.val (.int .i64 n), .isl z (cR A) N, .val (.int .i64 q)]
abbrev dC (z : Bool) (n : Nat) (A : List Fo) (N : Nat) (q : Int) : List AV := [.val (.int .i64 n), .isl z (cR A) N, .val (.int .i64 q)]
end Go.Proofs.YtabafldpnkjboaaDoor
