/- Pw9v2. No condition. -/
import Derived.Test.YtgmpdplpodemaaaGreatDoorLaG1
set_option linter.all false
set_option maxHeartbeats 20000000
set_option maxRecDepth 20000
namespace Go.Proofs.YtgmpdplpodemaaaGreatDoor
open Go Go.Sy Go.Bp Go.Lm Go.Rt
attribute [local irreducible] AO AL AC OpT ACall Ends DGo aK Thn Blk Nxt
theorem ahM:∀I,I=6->(∀q,q<=9->¬q=I->bL I q)->Bn I:=by exact Ej
theorem ahN:∀I,I=7->(∀q,q<=9->¬q=I->bL I q)->Bn I:=by exact Ej
theorem ahO:∀I,I=8->(∀q,q<=9->¬q=I->bL I q)->Bn I:=by exact Ej
