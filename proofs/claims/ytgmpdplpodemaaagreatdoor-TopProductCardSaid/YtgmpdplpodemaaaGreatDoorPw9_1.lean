/- Pw9_1. No condition. -/
import Derived.Test.YtgmpdplpodemaaaGreatDoorLaG1
set_option linter.all false
set_option maxHeartbeats 20000000
set_option maxRecDepth 20000
namespace Go.Proofs.YtgmpdplpodemaaaGreatDoor
open Go Go.Sy Go.Bp Go.Lm Go.Rt
attribute [local irreducible] AO AL AC OpT ACall Ends DGo aK Thn Blk Nxt
def aaF:∀I q,I=0->q=6->bL I q:=by exact bU
def aaG:∀I q,I=0->q=7->bL I q:=by exact bU
def aaH:∀I q,I=0->q=8->bL I q:=by exact bU
def aaI:∀I q,I=0->q=9->bL I q:=by exact bU
def aaJ:∀I q,I=1->q=0->bL I q:=by exact bU
