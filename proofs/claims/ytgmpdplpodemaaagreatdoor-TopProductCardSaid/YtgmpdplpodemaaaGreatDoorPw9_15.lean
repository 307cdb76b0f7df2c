/- Pw9_15. No condition. -/
import Derived.Test.YtgmpdplpodemaaaGreatDoorLaG1
set_option linter.all false
set_option maxHeartbeats 20000000
set_option maxRecDepth 20000
namespace Go.Proofs.YtgmpdplpodemaaaGreatDoor
open Go Go.Sy Go.Bp Go.Lm Go.Rt
attribute [local irreducible] AO AL AC OpT ACall Ends DGo aK Thn Blk Nxt
def abQ:∀I q,I=8->q=3->bL I q:=by exact bU
def abR:∀I q,I=8->q=4->bL I q:=by exact bU
def abS:∀I q,I=8->q=5->bL I q:=by exact bU
def abT:∀I q,I=8->q=6->bL I q:=by exact bU
def abU:∀I q,I=8->q=7->bL I q:=by exact bU
