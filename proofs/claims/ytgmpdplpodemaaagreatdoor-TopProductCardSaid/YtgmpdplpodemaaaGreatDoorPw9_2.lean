/- Pw9_2. No condition. -/
import Derived.Test.YtgmpdplpodemaaaGreatDoorLaG1
set_option linter.all false
set_option maxHeartbeats 20000000
set_option maxRecDepth 20000
namespace Go.Proofs.YtgmpdplpodemaaaGreatDoor
open Go Go.Sy Go.Bp Go.Lm Go.Rt
attribute [local irreducible] AO AL AC OpT ACall Ends DGo aK Thn Blk Nxt
def aaK:∀I q,I=1->q=2->bL I q:=by exact bU
def aaL:∀I q,I=1->q=3->bL I q:=by exact bU
def aaM:∀I q,I=1->q=4->bL I q:=by exact bU
def aaN:∀I q,I=1->q=5->bL I q:=by exact bU
def aaO:∀I q,I=1->q=6->bL I q:=by exact bU
