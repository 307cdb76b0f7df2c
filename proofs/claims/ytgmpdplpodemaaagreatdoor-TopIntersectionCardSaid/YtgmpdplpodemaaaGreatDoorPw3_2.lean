/- Pw3_2. No condition. -/
import Derived.Test.YtgmpdplpodemaaaGreatDoorPwG3
set_option linter.all false
set_option maxHeartbeats 20000000
set_option maxRecDepth 20000
namespace Go.Proofs.YtgmpdplpodemaaaGreatDoor
open Go Go.Sy Go.Bp Go.Lm Go.Rt
attribute [local irreducible] AO AL AC OpT ACall Ends DGo aN Thn Blk Nxt
theorem ahH:∀I q,I=2→q=0→aeL I q:=by exact afg
theorem ahI:∀I q,I=2→q=1→aeL I q:=by exact afg
theorem ahJ:∀I q,I=2→q=3→aeL I q:=by exact afg
