/- Pw9_14. No condition. -/
import Derived.Test.YtgmpdplpodemaaaGreatDoorLaG1
set_option linter.all false
set_option maxHeartbeats 20000000
set_option maxRecDepth 20000
namespace Go.Proofs.YtgmpdplpodemaaaGreatDoor
open Go Go.Sy Go.Bp Go.Lm Go.Rt
attribute [local irreducible] AO AL AC OpT ACall Ends DGo aK Thn Blk Nxt
def abL:∀I q,I=7->q=8->bL I q:=by exact bU
def abM:∀I q,I=7->q=9->bL I q:=by exact bU
def abN:∀I q,I=8->q=0->bL I q:=by exact bU
def abO:∀I q,I=8->q=1->bL I q:=by exact bU
def abP:∀I q,I=8->q=2->bL I q:=by exact bU
