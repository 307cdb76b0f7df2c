/- Diagrams: the reference's Dual. No condition. -/
import Derived.Test.YtebinjcofclfaaaDoorDi20
import Derived.Test.YtebinjcofclfaaaDoorDi15
set_option linter.unusedVariables false
set_option linter.unusedSectionVars false
set_option linter.unusedSimpArgs false
set_option maxHeartbeats 4000000
set_option maxRecDepth 20000
namespace Go.Proofs.YtebinjcofclfaaaDoor
open Go Go.Sy Go.Bp Go.Dg
attribute [local irreducible] AO AL AC OpT ACall Ends DGo DRun Thn Blk Nxt
variable {n N M T k i m r a b j w u v s q x y d : Nat} {z : Bool} {F : List Fo} {p f g : Nat → Bool}
theorem tblP_l : tblP p s ++ [p s] = tblP p (s + 1) := by unfold tblP; rw [List.range_succ]; simp
def dlP (p : Nat → Bool) (T k : Nat) : Bool := !p (T - 1 - k)
def ddI (z : Bool) (n : Nat) (F : List Fo) (N r T : Nat) (p : Nat → Bool) (j : {j : Nat // j ≤ T}) : St :=
  ⟨27, 0, [(1,.pt 0 0), (2,.pt 1 0), (3,nilOr j.val 2 1), (4,.isl false (cB (tblP p T)) T), (5,.val (.int .i64 ((T : Int) - 1 - (j.val : Int))))], [(0, some (.cells [.val (.int .i64 n), .isl z (cR F) N, .val (.int .i64 r)] 28)), (1, some zDO)] ++ nilOb j.val 2 (cB (tblP (dlP p T) j.val)) 4⟩
end Go.Proofs.YtebinjcofclfaaaDoor
