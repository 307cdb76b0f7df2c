/- ExA: Ex1 Ex3, merged. No condition. -/
import Derived.Test.YtebinjcofclfaaaDoorTy
import Derived.Test.YtebinjcofclfaaaDoorProg
import Derived.Test.YtebinjcofclfaaaDoorSymC
import Derived.Test.YtebinjcofclfaaaDoorBpA
/- Ex1. -/
set_option linter.unusedVariables false
set_option linter.unusedSectionVars false
set_option linter.unusedSimpArgs false
set_option maxHeartbeats 1000000
set_option maxRecDepth 20000
namespace Go.Proofs.YtebinjcofclfaaaDoor
open Go Go.Sy Go.Bp
attribute [local irreducible] AO AL AC OpT ACall Ends DGo DRun Thn Blk Nxt

instance : Cells Nd 5 := ⟨fun n => [.val (.int .i64 n.kind), .val (.int .i64 n.server), .val (.int .i64 n.need), .isl n.wz (cI .i64 n.w) n.w.length, .isl n.kz (cI .i64 n.k) n.k.length], fun _ => rfl, fun _ => rfl, fun _ => rfl⟩
instance : Cells Ex 2 := ⟨fun x => [.isl x.nz (cR x.nodes) x.nodes.length, .val (.int .i64 x.root)], fun _ => rfl, fun _ => rfl, fun _ => rfl⟩
theorem nd_cells (n : Nd) : Cells.cells n = [.val (.int .i64 n.kind), .val (.int .i64 n.server), .val (.int .i64 n.need), .isl n.wz (cI .i64 n.w) n.w.length, .isl n.kz (cI .i64 n.k) n.k.length] := rfl
theorem ex_0 (x : Ex) : (Cells.cells x)[0]? = some (.isl x.nz (cR x.nodes) x.nodes.length) := rfl
theorem ex_1 (x : Ex) : (Cells.cells x)[1]? = some (.val (.int .i64 x.root)) := rfl
theorem nd_snoc {l : List Nd} {a b c : Int} {wz kz : Bool} {w k : List Int} {n m : Nat} (hn : n = w.length) (hm : m = k.length) :
    cR l ++ [.val (.int .i64 a), .val (.int .i64 b), .val (.int .i64 c), .isl wz (cI .i64 w) n, .isl kz (cI .i64 k) m] = cR (l ++ [⟨a, b, c, wz, w, kz, k⟩]) := by
  subst hn; subst hm; exact cR_snoc' (a := (⟨a, b, c, wz, w, kz, k⟩ : Nd))
attribute [push_cast] nd_cells ex_0 ex_1 nd_snoc
end Go.Proofs.YtebinjcofclfaaaDoor
/- Ex3. -/

set_option linter.unusedVariables false
set_option linter.unusedSectionVars false
set_option linter.unusedSimpArgs false
set_option maxHeartbeats 1000000
set_option maxRecDepth 20000
namespace Go.Proofs.YtebinjcofclfaaaDoor
open Go Go.Sy Go.Bp
def Short (x : Ex) : Prop := x.nodes.length < 2^42 ∧ ∀ j, j < x.nodes.length → (x.nodes.getD j default).w.length < 2^47 ∧ (x.nodes.getD j default).k.length < 2^47
end Go.Proofs.YtebinjcofclfaaaDoor
