/- Pw9_6. No condition. -/
import Derived.Test.YtgmpdplpodemaaaGreatDoorLaG1
set_option linter.all false
set_option maxHeartbeats 20000000
set_option maxRecDepth 20000
namespace Go.Proofs.YtgmpdplpodemaaaGreatDoor
open Go Go.Sy Go.Bp Go.Lm Go.Rt
attribute [local irreducible] AO AL AC OpT ACall Ends DGo aK Thn Blk Nxt
def aa4:∀I q,I=3->q=4->bL I q:=by exact bU
def aa5:∀I q,I=3->q=5->bL I q:=by exact bU
def aa6:∀I q,I=3->q=6->bL I q:=by exact bU
def aa7:∀I q,I=3->q=7->bL I q:=by exact bU
def aa8:∀I q,I=3->q=8->bL I q:=by exact bU
