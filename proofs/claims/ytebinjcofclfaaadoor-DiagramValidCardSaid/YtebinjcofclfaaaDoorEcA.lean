/- EcA: Ec1, merged. No condition. -/
import Derived.Test.YtebinjcofclfaaaDoorExA
import Derived.Test.YtebinjcofclfaaaDoorBpA
/- Ec1. -/
set_option linter.unusedVariables false
set_option linter.unusedSectionVars false
set_option linter.unusedSimpArgs false
set_option maxHeartbeats 1000000
set_option maxRecDepth 20000
namespace Go.Proofs.YtebinjcofclfaaaDoor
open Go Go.Sy Go.Bp
attribute [local irreducible] AO AL AC OpT ACall Ends DGo DRun Thn Blk Nxt
variable {l k w : List Int} {z zk wz : Bool} {n K i j m b c : Nat} {a x : Int}
def dmy : Nat := 0
theorem dmy_def : dmy = 0 := rfl
theorem getD_mem {α : Type} {l : List α} {d : α} {i : Nat} (h : i < l.length) : l.getD i d ∈ l := by rw [List.getD_eq_getElem?_getD, List.getElem?_eq_getElem h, Option.getD_some]; exact List.getElem_mem h
theorem beq_s (h : 0 < n) : (n == 0) = false := by simp; omega
def ifI (z : Bool) (F : Nat) (p : Int → Bool) (l : List Int) (n : Nat) (j : {j : Nat // j ≤ n ∧ ∀ i, i < j → p (l.getD i default) = false}) : St :=
  ⟨19, 0, [(0,.isl z (cI .i64 l) n), (1,.fn F []), (7,.val (.int .i64 n)), (8,.val (.int .i64 j.val))], []⟩
end Go.Proofs.YtebinjcofclfaaaDoor
