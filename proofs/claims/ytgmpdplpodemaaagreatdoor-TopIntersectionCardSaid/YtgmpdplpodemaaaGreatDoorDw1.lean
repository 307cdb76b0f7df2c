/- Dw1. No condition. -/
import Derived.Test.YtgmpdplpodemaaaGreatDoorDiG4
import Derived.Test.YtgmpdplpodemaaaGreatDoorEv0
set_option linter.all false
set_option maxHeartbeats 4000000
set_option maxRecDepth 20000
namespace Go.Proofs.YtgmpdplpodemaaaGreatDoor
open Go Go.Sy Go.Bp Go.Dg
attribute [local irreducible] AO AL AC OpT ACall Ends DGo aN Thn Blk Nxt
variable {n N M T k i m r a b j w u v s q y d:Nat} {z:Bool} {x:Ex} {e:Int} {p:Nat→Bool}
abbrev kL(x:Ex)(s:Nat):Bool:=hold (aeF (s%65536)) x
