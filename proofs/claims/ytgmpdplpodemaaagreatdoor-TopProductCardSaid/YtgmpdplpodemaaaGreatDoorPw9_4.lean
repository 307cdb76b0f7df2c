/- Pw9_4. No condition. -/
import Derived.Test.YtgmpdplpodemaaaGreatDoorLaG1
set_option linter.all false
set_option maxHeartbeats 20000000
set_option maxRecDepth 20000
namespace Go.Proofs.YtgmpdplpodemaaaGreatDoor
open Go Go.Sy Go.Bp Go.Lm Go.Rt
attribute [local irreducible] AO AL AC OpT ACall Ends DGo aK Thn Blk Nxt
def aaU:∀I q,I=2->q=3->bL I q:=by exact bU
def aaV:∀I q,I=2->q=4->bL I q:=by exact bU
def aaW:∀I q,I=2->q=5->bL I q:=by exact bU
def aaX:∀I q,I=2->q=6->bL I q:=by exact bU
def aaY:∀I q,I=2->q=7->bL I q:=by exact bU
