/- Pw9_12. No condition. -/
import Derived.Test.YtgmpdplpodemaaaGreatDoorLaG1
set_option linter.all false
set_option maxHeartbeats 20000000
set_option maxRecDepth 20000
namespace Go.Proofs.YtgmpdplpodemaaaGreatDoor
open Go Go.Sy Go.Bp Go.Lm Go.Rt
attribute [local irreducible] AO AL AC OpT ACall Ends DGo aK Thn Blk Nxt
def abB:∀I q,I=6->q=7->bL I q:=by exact bU
def abC:∀I q,I=6->q=8->bL I q:=by exact bU
def abD:∀I q,I=6->q=9->bL I q:=by exact bU
def abE:∀I q,I=7->q=0->bL I q:=by exact bU
def abF:∀I q,I=7->q=1->bL I q:=by exact bU
