/- Pw3_0 Pw3_1 Pw3_2. No condition. -/
import Derived.Test.YtgmpdplpodemaaaGreatDoorLaG1
set_option linter.all false
set_option maxHeartbeats 20000000
set_option maxRecDepth 20000
namespace Go.Proofs.YtgmpdplpodemaaaGreatDoor
section
open Go Go.Sy Go.Bp Go.Lm Go.Rt
attribute [local irreducible] AO AL AC OpT ACall Ends DGo aK Thn Blk Nxt
theorem aaq:∀I q,I=0->q=1->xm I q:=by exact Eb
theorem aar:∀I q,I=0->q=2->xm I q:=by exact Eb
theorem aas:∀I q,I=0->q=3->xm I q:=by exact Eb
end
section
open Go Go.Sy Go.Bp Go.Lm Go.Rt
attribute [local irreducible] AO AL AC OpT ACall Ends DGo aK Thn Blk Nxt
theorem aat:∀I q,I=1->q=0->xm I q:=by exact Eb
theorem aau:∀I q,I=1->q=2->xm I q:=by exact Eb
theorem aav:∀I q,I=1->q=3->xm I q:=by exact Eb
end
section
open Go Go.Sy Go.Bp Go.Lm Go.Rt
attribute [local irreducible] AO AL AC OpT ACall Ends DGo aK Thn Blk Nxt
theorem aaw:∀I q,I=2->q=0->xm I q:=by exact Eb
theorem aax:∀I q,I=2->q=1->xm I q:=by exact Eb
theorem aay:∀I q,I=2->q=3->xm I q:=by exact Eb
end
