/- Diagrams: the reference's Minimal. No condition. -/
import Derived.Test.YtabafldpnkjboaaDoorDi20
import Derived.Test.YtabafldpnkjboaaDoorDi15
import Derived.Test.YtabafldpnkjboaaDoorDi16
import Derived.Test.YtabafldpnkjboaaDoorExA
import Derived.Test.YtabafldpnkjboaaDoorEcA
import Derived.Test.YtabafldpnkjboaaDoorSymC
import Derived.Test.YtabafldpnkjboaaDoorBpA
set_option linter.unusedVariables false
set_option linter.unusedSectionVars false
set_option linter.unusedSimpArgs false
set_option maxHeartbeats 4000000
set_option maxRecDepth 20000
namespace Go.Proofs.YtabafldpnkjboaaDoor
open Go Go.Sy Go.Bp Go.Dg
attribute [local irreducible] AO AL AC OpT ACall Ends DGo DRun Thn Blk Nxt
variable {n N M T k i m r a b j w u v s q x y d : Nat} {z : Bool} {F : List Fo} {p f g : Nat → Bool} {ms : List Nat}
def qM (p : Nat → Bool) (k s : Nat) : Bool := decide (memL s 16 = k) && isM p s
def oM (p : Nat → Bool) (T k s : Nat) : List Nat := ((List.range k).flatMap fun j => (List.range T).filter (qM p j)) ++ (List.range s).filter (qM p k)
def oL (p : Nat → Bool) (T k s : Nat) : Nat := (oM p T k s).length
attribute [local irreducible] oM oL isM memL
end Go.Proofs.YtabafldpnkjboaaDoor
