/- Pw9_9. No condition. -/
import Derived.Test.YtgmpdplpodemaaaGreatDoorLaG1
set_option linter.all false
set_option maxHeartbeats 20000000
set_option maxRecDepth 20000
namespace Go.Proofs.YtgmpdplpodemaaaGreatDoor
open Go Go.Sy Go.Bp Go.Lm Go.Rt
attribute [local irreducible] AO AL AC OpT ACall Ends DGo aK Thn Blk Nxt
def abl:∀I q,I=5->q=0->bL I q:=by exact bU
def abm:∀I q,I=5->q=1->bL I q:=by exact bU
def abn:∀I q,I=5->q=2->bL I q:=by exact bU
def abo:∀I q,I=5->q=3->bL I q:=by exact bU
def abp:∀I q,I=5->q=4->bL I q:=by exact bU
