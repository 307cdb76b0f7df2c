/- Ec1. No condition. -/
import Derived.Test.YtgmpdplpodemaaaGreatDoorTy
import Derived.Test.YtgmpdplpodemaaaGreatDoorBpG1
set_option linter.all false
set_option maxHeartbeats 1000000
set_option maxRecDepth 20000
namespace Go.Proofs.YtgmpdplpodemaaaGreatDoor
open Go Go.Sy Go.Bp
attribute [local irreducible] AO AL AC OpT ACall Ends DGo aN Thn Blk Nxt
variable {l k w:List Int} {z zk wz:Bool} {n K i j m b c:Nat} {a x:Int}
def dmy:Nat:=0
theorem ae:dmy=0:=rfl
theorem iR{α:Type} {l:List α} {d:α} {i:Nat}(h:i<l.length):l.getD i d∈l:=by rw[List.getD_eq_getElem?_getD,List.getElem?_eq_getElem h,Option.getD_some];exact List.getElem_mem h
theorem zB(h:0<n):(n==0)=false:=by simp;omega
