/- Dv2. No condition. -/
import Derived.Test.YtcbginhpibfgaaaGreatDoorDiG7
set_option linter.all false
set_option maxHeartbeats 4000000
set_option maxRecDepth 20000
namespace Go.Proofs.YtcbginhpibfgaaaGreatDoor
open Go Go.Sy Go.Dg
attribute [local irreducible] AO AL AC OpT ACall Ends DGo bK Thn Blk Nxt
variable {N N' M T:Nat} {F G:List Fo} {L L':List Fk} {k i m s t a j R:Nat} {p q n r e n' r' o:Int} {z z' b nb:Bool} {x y:Fk}
abbrev dI(z:Bool)(n:Int)(L:List Fk)(N:Nat)(r:Int):AV:= .agg [.val (.int .i64 n),.isl z (cR L) N,.val (.int .i64 r)]
def VOk(m:Nat)(L:List Fk)(r:Int):Prop:=∃F R,L=F.map fk∧r=((R:Nat):Int)∧DOk m F R
