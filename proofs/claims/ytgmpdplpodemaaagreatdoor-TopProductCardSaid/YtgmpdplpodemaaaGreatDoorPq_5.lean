/- Pq_5. No condition. -/
import Derived.Test.YtgmpdplpodemaaaGreatDoorSxG2
set_option linter.all false
set_option maxRecDepth 100000
namespace Go.Proofs.YtgmpdplpodemaaaGreatDoor
open Go Go.Sy Go.Bp Go.Dg Go.Sx Go.Rt
theorem pq17:nM (okP [7]) FL [1,1,7,1,1,7,7,20,7,1,7,1,1,7,2,2,20,1]=true:=by decide+kernel
