/- Pq_4. No condition. -/
import Derived.Test.YtgmpdplpodemaaaGreatDoorSxG2
set_option linter.all false
set_option maxRecDepth 100000
namespace Go.Proofs.YtgmpdplpodemaaaGreatDoor
open Go Go.Sy Go.Bp Go.Dg Go.Sx Go.Rt
theorem pq16:nM (okP [3,5,6]) FL [3,3,11,3,3,11,11,18,10,3,11,3,3,11,6,6,0,3]=true:=by decide+kernel
