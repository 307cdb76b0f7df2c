/- Pq_0. No condition. -/
import Derived.Test.YtgmpdplpodemaaaGreatDoorSxG2
set_option linter.all false
set_option maxRecDepth 100000
namespace Go.Proofs.YtgmpdplpodemaaaGreatDoor
open Go Go.Sy Go.Bp Go.Dg Go.Sx Go.Rt
theorem pq0:nM (okP [1]) FL [1,1,2,1,1,2,2,3,2,1,2,1,1,2,2,2,3,1]=true:=by decide+kernel
theorem pq1:nM (okP [2]) FL [1,1,2,1,1,2,2,3,2,1,2,1,1,2,2,2,3,1]=true:=by decide+kernel
theorem pq2:nM (okP [1,2]) FL [2,2,4,2,2,4,4,6,4,2,4,2,2,4,4,4,6,2]=true:=by decide+kernel
theorem pq3:nM (okP [3]) FL [1,1,4,1,1,4,4,8,4,1,4,1,1,4,2,2,8,1]=true:=by decide+kernel
