/- Pw9_8. No condition. -/
import Derived.Test.YtgmpdplpodemaaaGreatDoorLaG1
set_option linter.all false
set_option maxHeartbeats 20000000
set_option maxRecDepth 20000
namespace Go.Proofs.YtgmpdplpodemaaaGreatDoor
open Go Go.Sy Go.Bp Go.Lm Go.Rt
attribute [local irreducible] AO AL AC OpT ACall Ends DGo aK Thn Blk Nxt
def abf:∀I q,I=4->q=5->bL I q:=by exact bU
def abg:∀I q,I=4->q=6->bL I q:=by exact bU
def abh:∀I q,I=4->q=7->bL I q:=by exact bU
def abj:∀I q,I=4->q=8->bL I q:=by exact bU
def abk:∀I q,I=4->q=9->bL I q:=by exact bU
