/- Pw9_11. No condition. -/
import Derived.Test.YtgmpdplpodemaaaGreatDoorLaG1
set_option linter.all false
set_option maxHeartbeats 20000000
set_option maxRecDepth 20000
namespace Go.Proofs.YtgmpdplpodemaaaGreatDoor
open Go Go.Sy Go.Bp Go.Lm Go.Rt
attribute [local irreducible] AO AL AC OpT ACall Ends DGo aK Thn Blk Nxt
def abw:∀I q,I=6->q=1->bL I q:=by exact bU
def abx:∀I q,I=6->q=2->bL I q:=by exact bU
def aby:∀I q,I=6->q=3->bL I q:=by exact bU
def abz:∀I q,I=6->q=4->bL I q:=by exact bU
def abA:∀I q,I=6->q=5->bL I q:=by exact bU
