/- Diagrams: Apply of both sides, as the laws call it. No condition. -/
import Derived.Test.YtebinjcofclfaaaDoorLawD1
import Derived.Test.YtebinjcofclfaaaDoorDi10
import Derived.Test.YtebinjcofclfaaaDoorDv8
set_option linter.unusedVariables false
set_option linter.unusedSectionVars false
set_option linter.unusedSimpArgs false
set_option maxHeartbeats 4000000
set_option maxRecDepth 20000
namespace Go.Proofs.YtebinjcofclfaaaDoor
open Go Go.Sy Go.Bp Go.Dg
attribute [local irreducible] AO AL AC OpT ACall Ends DGo DRun Thn Blk Nxt
variable {n na nb N M T L k i m r a b j w u v s q x y d : Nat} {z z' up up' : Bool} {B B' : List Nat} {F : List Fo} {p f g : Nat → Bool}
theorem apply_dg2 {D G : List Fo} {op : Nat} (hD : DOk na F r) (hE : DOk nb G u) (hM : F.length = M) (hN : G.length = N) (hmx : max na nb = n) (h1 : 1 ≤ op) (h4 : op ≤ 4) (he : (fromT n fun t => opB op (valN F t r) (valN G t u)) = (D, w)) : ACall Tryd.prog 33 [.val (.int .i64 op), .agg [.val (.int .i64 na), .isl z (cR F) M, .val (.int .i64 r)], .agg [.val (.int .i64 nb), .isl z' (cR G) N, .val (.int .i64 u)]] [] 0 (.tup [.agg [.val (.int .i64 n), .isl (D.length == 0) (cR D) D.length, .val (.int .i64 w)], .val (.int .i64 0)]) [] := by
  subst hM; subst hN
  have := apply_ok (z := z) (z' := z') hD hE hmx h1 h4
  rw [he, ← rgV_dg, ← rgV_dg] at this; exact this
theorem apply_rg2 {G : List Fo} {o : Int} (hD : DOk na F r) (hE : DOk nb G u) (hM : F.length = M) (hN : G.length = N) (ho : o < 1 ∨ 4 < o) : ACall Tryd.prog 33 [.val (.int .i64 o), .agg [.val (.int .i64 na), .isl z (cR F) M, .val (.int .i64 r)], .agg [.val (.int .i64 nb), .isl z' (cR G) N, .val (.int .i64 u)]] [] 0 (.tup [rgV true 0 [] 0, .val (.int .i64 7)]) [] := by
  subst hM; subst hN
  have := apply_range (z := z) (z' := z') hD hE ho
  rw [← rgV_dg, ← rgV_dg] at this; exact this
theorem rapply_dg {D G : List Fo} {op : Nat} (hD : DOk na F r) (hE : DOk nb G u) (hM : F.length = M) (hN : G.length = N) (hmx : max na nb = n) (h1 : 1 ≤ op) (h4 : op ≤ 4) (he : (fromT n fun t => opB op (valN F t r) (valN G t u)) = (D, w)) : ACall Tryd.prog 34 [.val (.int .i64 op), .agg [.val (.int .i64 na), .isl z (cR F) M, .val (.int .i64 r)], .agg [.val (.int .i64 nb), .isl z' (cR G) N, .val (.int .i64 u)]] [] 0 (.tup [.agg [.val (.int .i64 n), .isl (D.length == 0) (cR D) D.length, .val (.int .i64 w)], .val (.int .i64 0)]) [] := by
  have := rapply_w (z := z) (z' := z') hD hE hM hN hmx h1 h4
  rw [he] at this; exact this
end Go.Proofs.YtebinjcofclfaaaDoor
