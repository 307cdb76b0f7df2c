/- Pw9_5. No condition. -/
import Derived.Test.YtgmpdplpodemaaaGreatDoorLaG1
set_option linter.all false
set_option maxHeartbeats 20000000
set_option maxRecDepth 20000
namespace Go.Proofs.YtgmpdplpodemaaaGreatDoor
open Go Go.Sy Go.Bp Go.Lm Go.Rt
attribute [local irreducible] AO AL AC OpT ACall Ends DGo aK Thn Blk Nxt
def aaZ:∀I q,I=2->q=8->bL I q:=by exact bU
def aa0:∀I q,I=2->q=9->bL I q:=by exact bU
def aa1:∀I q,I=3->q=0->bL I q:=by exact bU
def aa2:∀I q,I=3->q=1->bL I q:=by exact bU
def aa3:∀I q,I=3->q=2->bL I q:=by exact bU
