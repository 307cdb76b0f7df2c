/- Pq_1. No condition. -/
import Derived.Test.YtgmpdplpodemaaaGreatDoorSxG2
set_option linter.all false
set_option maxRecDepth 100000
namespace Go.Proofs.YtgmpdplpodemaaaGreatDoor
open Go Go.Sy Go.Bp Go.Dg Go.Sx Go.Rt
theorem pq4:nM (okP [4]) FL [1,1,2,1,1,2,2,3,2,1,2,1,1,2,2,2,3,1]=true:=by decide+kernel
theorem pq5:nM (okP [1,4]) FL [2,2,4,2,2,4,4,6,4,2,4,2,2,4,4,4,6,2]=true:=by decide+kernel
theorem pq6:nM (okP [2,4]) FL [2,2,4,2,2,4,4,6,4,2,4,2,2,4,4,4,6,2]=true:=by decide+kernel
theorem pq7:nM (okP [1,2,4]) FL [3,3,6,3,3,6,6,9,6,3,6,3,3,6,6,6,9,3]=true:=by decide+kernel
