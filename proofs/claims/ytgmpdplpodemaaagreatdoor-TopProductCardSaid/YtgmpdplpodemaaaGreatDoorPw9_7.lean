/- Pw9_7. No condition. -/
import Derived.Test.YtgmpdplpodemaaaGreatDoorLaG1
set_option linter.all false
set_option maxHeartbeats 20000000
set_option maxRecDepth 20000
namespace Go.Proofs.YtgmpdplpodemaaaGreatDoor
open Go Go.Sy Go.Bp Go.Lm Go.Rt
attribute [local irreducible] AO AL AC OpT ACall Ends DGo aK Thn Blk Nxt
def aa9:∀I q,I=3->q=9->bL I q:=by exact bU
def aba:∀I q,I=4->q=0->bL I q:=by exact bU
def abb:∀I q,I=4->q=1->bL I q:=by exact bU
def abd:∀I q,I=4->q=2->bL I q:=by exact bU
def abe:∀I q,I=4->q=3->bL I q:=by exact bU
