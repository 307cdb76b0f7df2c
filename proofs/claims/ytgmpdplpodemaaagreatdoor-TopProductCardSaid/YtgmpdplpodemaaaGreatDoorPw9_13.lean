/- Pw9_13. No condition. -/
import Derived.Test.YtgmpdplpodemaaaGreatDoorLaG1
set_option linter.all false
set_option maxHeartbeats 20000000
set_option maxRecDepth 20000
namespace Go.Proofs.YtgmpdplpodemaaaGreatDoor
open Go Go.Sy Go.Bp Go.Lm Go.Rt
attribute [local irreducible] AO AL AC OpT ACall Ends DGo aK Thn Blk Nxt
def abG:∀I q,I=7->q=2->bL I q:=by exact bU
def abH:∀I q,I=7->q=3->bL I q:=by exact bU
def abI:∀I q,I=7->q=4->bL I q:=by exact bU
def abJ:∀I q,I=7->q=5->bL I q:=by exact bU
def abK:∀I q,I=7->q=6->bL I q:=by exact bU
