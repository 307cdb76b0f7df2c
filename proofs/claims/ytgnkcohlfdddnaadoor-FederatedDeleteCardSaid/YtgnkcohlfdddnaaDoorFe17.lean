/- The reference's subsets and minimal quorums, two that share nothing. No condition. -/
import Derived.Test.YtgnkcohlfdddnaaDoorFe16
set_option linter.unusedVariables false
set_option linter.unusedSectionVars false
set_option linter.unusedSimpArgs false
set_option maxHeartbeats 2000000
set_option maxRecDepth 20000
namespace Go.Proofs.YtgnkcohlfdddnaaDoor
open Go Go.Sy Go.Bp
attribute [local irreducible] AO AL AC OpT ACall Ends DGo DRun Thn Blk Nxt
variable {z zl : Bool} {n i j k m q s d x L N T C : Nat} {l : List Ex} {qs xs : List Nat} {p : Nat → Bool}
attribute [local irreducible] memL mem sbA sbN hasA minA minL minQ minR dsj subs
def rbI (s c : Nat) (k : {k : Nat // k ≤ c + 1}) : St :=
  ⟨17, 0, [(0,.val (.int .u16 (U s))), (3,nilOr (sbN s k.val) 0 1), (4,.val (.int .i64 k.val))], nilOb (sbN s k.val) 0 (cX (sbA s k.val)) 33⟩
def acI (z : Bool) (qs : List Nat) (n q : Nat) (j : {j : Nat // j ≤ n ∧ ∀ i, i < j → decide (sdif (qs.getD i default) q % 65536 = 0) = false}) : St :=
  ⟨18, 0, [(0,.isl z (cX qs) n), (1,.val (.int .u16 (U q))), (5,.val (.int .i64 j.val))], []⟩
def rminQ (l : List Ex) : List Nat := minW (isQ l) (subs (fullS l.length))
attribute [local irreducible] isQ
def alI (zl zx : Bool) (l : List Ex) (L : Nat) (p : Nat → Bool) (xs : List Nat) (N : Nat) (j : {j : Nat // j ≤ N}) : St :=
  ⟨39, 0, [(0,.isl zl (cR l) L), (3,nilOr (minL p xs j.val) 0 1), (4,.isl zx (cX xs) N), (5,.val (.int .i64 j.val))], nilOb (minL p xs j.val) 0 (cX (minA p xs j.val)) 33⟩
end Go.Proofs.YtgnkcohlfdddnaaDoor
