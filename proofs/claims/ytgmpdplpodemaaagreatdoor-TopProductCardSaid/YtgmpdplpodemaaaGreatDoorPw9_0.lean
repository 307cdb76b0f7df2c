/- Pw9_0. No condition. -/
import Derived.Test.YtgmpdplpodemaaaGreatDoorLaG1
set_option linter.all false
set_option maxHeartbeats 20000000
set_option maxRecDepth 20000
namespace Go.Proofs.YtgmpdplpodemaaaGreatDoor
open Go Go.Sy Go.Bp Go.Lm Go.Rt
attribute [local irreducible] AO AL AC OpT ACall Ends DGo aK Thn Blk Nxt
def aaA:∀I q,I=0->q=1->bL I q:=by exact bU
def aaB:∀I q,I=0->q=2->bL I q:=by exact bU
def aaC:∀I q,I=0->q=3->bL I q:=by exact bU
def aaD:∀I q,I=0->q=4->bL I q:=by exact bU
def aaE:∀I q,I=0->q=5->bL I q:=by exact bU
