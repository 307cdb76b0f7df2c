/- Diagrams: duals of both sides. No condition. -/
import Derived.Test.YtebinjcofclfaaaDoorLawD0
import Derived.Test.YtebinjcofclfaaaDoorDi24
set_option linter.unusedVariables false
set_option linter.unusedSectionVars false
set_option linter.unusedSimpArgs false
set_option maxHeartbeats 4000000
set_option maxRecDepth 20000
namespace Go.Proofs.YtebinjcofclfaaaDoor
open Go Go.Sy Go.Bp Go.Dg
attribute [local irreducible] AO AL AC OpT ACall Ends DGo DRun Thn Blk Nxt
variable {n N M T L k i m r a b j w u v s q x y d : Nat} {z z' up up' : Bool} {B B' : List Nat} {F : List Fo} {p f g : Nat → Bool}
theorem dual_dg {D : List Fo} (hD : DOk n F r) (hM : F.length = M) (he : (fromT n fun t => !valN F (cpl n t) r) = (D, w)) : ACall Tryd.prog 26 [.agg [.val (.int .i64 n), .isl z (cR F) M, .val (.int .i64 r)]] [] 0 (.tup [.agg [.val (.int .i64 n), .isl (D.length == 0) (cR D) D.length, .val (.int .i64 w)], .val (.int .i64 0)]) [] := by
  subst hM
  have := dual_ok (z := z) hD
  rw [he, ← rgV_dg] at this; exact this
theorem rdual_dg {D : List Fo} (hD : DOk n F r) (hM : F.length = M) (he : (fromT n fun t => !valN F (cpl n t) r) = (D, w)) : ACall Tryd.prog 15 [.agg [.val (.int .i64 n), .isl z (cR F) M, .val (.int .i64 r)]] [] 0 (.agg [.val (.int .i64 n), .isl (D.length == 0) (cR D) D.length, .val (.int .i64 w)]) [] := by
  have hf := hD.few; have hl := hD.lt
  have := rdual_w (z := z) hD.n12 hD.bnd hD.v16 hM (by omega) (show r < 2 ^ 50 by omega) rfl
  rw [he] at this; exact this
end Go.Proofs.YtebinjcofclfaaaDoor
