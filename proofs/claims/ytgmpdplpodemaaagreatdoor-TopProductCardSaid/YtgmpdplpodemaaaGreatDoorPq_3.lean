/- Pq_3. No condition. -/
import Derived.Test.YtgmpdplpodemaaaGreatDoorSxG2
set_option linter.all false
set_option maxRecDepth 100000
namespace Go.Proofs.YtgmpdplpodemaaaGreatDoor
open Go Go.Sy Go.Bp Go.Dg Go.Sx Go.Rt
theorem pq12:nM (okP [6]) FL [1,1,4,1,1,4,4,8,4,1,4,1,1,4,2,2,8,1]=true:=by decide+kernel
theorem pq13:nM (okP [1,6]) FL [2,2,6,2,2,6,6,11,6,2,6,2,2,6,4,4,11,2]=true:=by decide+kernel
theorem pq14:nM (okP [3,6]) FL [2,2,5,2,2,5,5,9,4,2,4,2,2,4,4,4,9,2]=true:=by decide+kernel
theorem pq15:nM (okP [5,6]) FL [2,2,5,2,2,5,5,9,5,2,5,2,2,5,4,4,8,2]=true:=by decide+kernel
