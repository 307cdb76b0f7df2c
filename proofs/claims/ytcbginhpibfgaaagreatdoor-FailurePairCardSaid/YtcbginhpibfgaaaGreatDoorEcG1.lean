/- Ec1 Ec3. No condition. -/
import Derived.Test.YtcbginhpibfgaaaGreatDoorEx1
set_option linter.all false
set_option maxHeartbeats 1000000
set_option maxRecDepth 20000
namespace Go.Proofs.YtcbginhpibfgaaaGreatDoor
open Go Go.Sy Go.Bp
attribute [local irreducible] AO AL AC OpT ACall Ends DGo bK Thn Blk Nxt
variable {l k w:List Int} {z zk wz:Bool} {n K i j m b c:Nat} {a x:Int}
def dmy:Nat:=0
theorem ae:dmy=0:=rfl
end Go.Proofs.YtcbginhpibfgaaaGreatDoor
set_option maxHeartbeats 2000000
namespace Go.Proofs.YtcbginhpibfgaaaGreatDoor
open Go Go.Sy Go.Bp
attribute [local irreducible] AO AL AC OpT ACall Ends DGo bK Thn Blk Nxt
variable {z:Bool} {n i j m q s d L:Nat} {qs:List Nat}
instance:sF Nat:=⟨fun x=> .val (.int .u16 (U x)),fun _=>rfl,fun _=>rfl⟩
theorem jH(x:Nat):sF.c x=AV.val (.int .u16 (U x)):=rfl
theorem WX(x:Nat):cX qs++[AV.val (.int .u16 (U x))]=cX (qs++[x]):=by simp[cX,jH]
