/- Pq_2. No condition. -/
import Derived.Test.YtgmpdplpodemaaaGreatDoorSxG2
set_option linter.all false
set_option maxRecDepth 100000
namespace Go.Proofs.YtgmpdplpodemaaaGreatDoor
open Go Go.Sy Go.Bp Go.Dg Go.Sx Go.Rt
theorem pq8:nM (okP [4,3]) FL [2,2,6,2,2,6,6,11,6,2,6,2,2,6,4,4,11,2]=true:=by decide+kernel
theorem pq9:nM (okP [5]) FL [1,1,4,1,1,4,4,8,4,1,4,1,1,4,2,2,8,1]=true:=by decide+kernel
theorem pq10:nM (okP [2,5]) FL [2,2,6,2,2,6,6,11,6,2,6,2,2,6,4,4,11,2]=true:=by decide+kernel
theorem pq11:nM (okP [3,5]) FL [1,1,4,1,1,4,4,8,4,1,4,1,1,4,2,2,8,1]=true:=by decide+kernel
