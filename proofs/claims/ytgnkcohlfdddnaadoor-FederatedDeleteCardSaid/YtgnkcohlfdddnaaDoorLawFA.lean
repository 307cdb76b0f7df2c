/- Federated: the laws of Minimal, Blocks, Split. No condition. -/
import Derived.Test.YtgnkcohlfdddnaaDoorFe28
import Derived.Test.YtgnkcohlfdddnaaDoorFeM
import Derived.Test.YtgnkcohlfdddnaaDoorFe23
import Derived.Test.YtgnkcohlfdddnaaDoorBpB
set_option linter.unusedVariables false
set_option linter.unusedSectionVars false
set_option linter.unusedSimpArgs false
set_option maxHeartbeats 4000000
set_option maxRecDepth 20000
namespace Go.Proofs.YtgnkcohlfdddnaaDoor
open Go Go.Sy Go.Bp
attribute [local irreducible] AO AL AC OpT ACall Ends DGo DRun Thn Blk Nxt
variable {z zl : Bool} {n i j m q s D : Nat} {a : Int} {d : List Sli} {l : List Ex}
structure Slis (d : List Sli) (D : Nat) : Prop where
  len : d.length = D
  lt : D < 2^47
  u8 : ∀ i, i < D → (d.getD i default).a < 256 ∧ (d.getD i default).m < 256
theorem made_M (h : Slis d D) : ∃ l n, FOk l n ∧ ACall Tryd.prog 12 [.isl z (cR d) D] [] 0 (.isl false (cR l) n) [] :=
  ⟨made d, (made d).length, made_F, made_ok h.len h.lt h.u8⟩
end Go.Proofs.YtgnkcohlfdddnaaDoor
