/- What, once deleted, leaves two quorums apart: the reference's Splitting. No condition. -/
import Derived.Test.YtgnkcohlfdddnaaDoorFe22
set_option linter.unusedVariables false
set_option linter.unusedSectionVars false
set_option linter.unusedSimpArgs false
set_option maxHeartbeats 2000000
set_option maxRecDepth 20000
namespace Go.Proofs.YtgnkcohlfdddnaaDoor
open Go Go.Sy Go.Bp
attribute [local irreducible] AO AL AC OpT ACall Ends DGo DRun Thn Blk Nxt
variable {z zl : Bool} {n i j m q s d L N : Nat} {l : List Ex} {xs : List Nat} {F : Nat → Bool}
attribute [local irreducible] subs minQ dsj memL mem delR foundF delL delT
def rgA (zl : Bool) (l : List Ex) (L : Nat) (xs : List Nat) (N : Nat) (j : {j : Nat // j = 0}) : St :=
  ⟨51, 0, [(0,.isl zl (cR l) L), (5,.isl (N == 0) (cX xs) N), (6,.val (.int .i64 j.val))], []⟩
def rgB (zl : Bool) (l : List Ex) (L : Nat) (xs : List Nat) (N : Nat) (F : Nat → Bool) (j : {j : Nat // j ≤ N ∧ ∀ i, i < j → F i = false}) : St :=
  ⟨51, 0, [(0,.isl zl (cR l) L), (5,.isl (N == 0) (cX xs) N), (6,.val (.int .i64 j.val))], []⟩
end Go.Proofs.YtgnkcohlfdddnaaDoor
