/- Pw9_10. No condition. -/
import Derived.Test.YtgmpdplpodemaaaGreatDoorLaG1
set_option linter.all false
set_option maxHeartbeats 20000000
set_option maxRecDepth 20000
namespace Go.Proofs.YtgmpdplpodemaaaGreatDoor
open Go Go.Sy Go.Bp Go.Lm Go.Rt
attribute [local irreducible] AO AL AC OpT ACall Ends DGo aK Thn Blk Nxt
def abq:∀I q,I=5->q=6->bL I q:=by exact bU
def abr:∀I q,I=5->q=7->bL I q:=by exact bU
def abt:∀I q,I=5->q=8->bL I q:=by exact bU
def abu:∀I q,I=5->q=9->bL I q:=by exact bU
def abv:∀I q,I=6->q=0->bL I q:=by exact bU
