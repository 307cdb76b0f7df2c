/- Pw9_3. No condition. -/
import Derived.Test.YtgmpdplpodemaaaGreatDoorLaG1
set_option linter.all false
set_option maxHeartbeats 20000000
set_option maxRecDepth 20000
namespace Go.Proofs.YtgmpdplpodemaaaGreatDoor
open Go Go.Sy Go.Bp Go.Lm Go.Rt
attribute [local irreducible] AO AL AC OpT ACall Ends DGo aK Thn Blk Nxt
def aaP:∀I q,I=1->q=7->bL I q:=by exact bU
def aaQ:∀I q,I=1->q=8->bL I q:=by exact bU
def aaR:∀I q,I=1->q=9->bL I q:=by exact bU
def aaS:∀I q,I=2->q=0->bL I q:=by exact bU
def aaT:∀I q,I=2->q=1->bL I q:=by exact bU
