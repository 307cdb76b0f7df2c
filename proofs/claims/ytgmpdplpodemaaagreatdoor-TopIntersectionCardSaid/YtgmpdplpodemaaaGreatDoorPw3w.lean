/- Pw3w. No condition. -/
import Derived.Test.YtgmpdplpodemaaaGreatDoorPw3_1
import Derived.Test.YtgmpdplpodemaaaGreatDoorPw3_2
set_option linter.all false
set_option maxHeartbeats 20000000
set_option maxRecDepth 20000
namespace Go.Proofs.YtgmpdplpodemaaaGreatDoor
open Go Go.Sy Go.Bp Go.Lm Go.Rt
attribute [local irreducible] AO AL AC OpT ACall Ends DGo aN Thn Blk Nxt
theorem aid:∀I,I=0→(∀q,q≤3→¬q=I→aeL I q)→ahA I:=by exact aic
theorem aie:∀I,I=1→(∀q,q≤3→¬q=I→aeL I q)→ahA I:=by exact aic
theorem aif:∀I,I=2→(∀q,q≤3→¬q=I→aeL I q)→ahA I:=by exact aic
theorem pwW3{I:Nat}(hI:I<3):ahA I:=by
 have h:I=0∨I=1∨I=2:=by omega
 rcases h with h|h|h
 ·refine @aid _ h fun q h1 h2=>?_
  have h3:q=1∨q=2∨q=3:=by omega
  rcases h3 with h3|h3|h3
  ·exact @ahB _ _ h h3
  ·exact @ahC _ _ h h3
  ·exact @ahD _ _ h h3
 ·refine @aie _ h fun q h1 h2=>?_
  have h3:q=0∨q=2∨q=3:=by omega
  rcases h3 with h3|h3|h3
  ·exact @ahE _ _ h h3
  ·exact @ahF _ _ h h3
  ·exact @ahG _ _ h h3
 ·refine @aif _ h fun q h1 h2=>?_
  have h3:q=0∨q=1∨q=3:=by omega
  rcases h3 with h3|h3|h3
  ·exact @ahH _ _ h h3
  ·exact @ahI _ _ h h3
  ·exact @ahJ _ _ h h3
