/- Diagrams: the reference's Equal, value, Table, From. No condition. -/
import Derived.Test.YtabafldpnkjboaaDoorDi3
import Derived.Test.YtabafldpnkjboaaDoorDgA
import Derived.Test.YtabafldpnkjboaaDoorEcA
set_option linter.unusedVariables false
set_option linter.unusedSectionVars false
set_option linter.unusedSimpArgs false
set_option maxHeartbeats 4000000
set_option maxRecDepth 20000
namespace Go.Proofs.YtabafldpnkjboaaDoor
open Go Go.Sy Go.Dg
attribute [local irreducible] AO AL AC OpT ACall Ends DGo DRun Thn Blk Nxt
structure Fk where
  v : Int
  lo : Int
  hi : Int
deriving DecidableEq
instance : Inhabited Fk := ⟨⟨0, 0, 0⟩⟩
instance : Cells Fk 3 := ⟨fun x => [.val (.int .i64 x.v), .val (.int .i64 x.lo), .val (.int .i64 x.hi)], fun _ => rfl, fun _ => rfl, fun _ => rfl⟩
def fk (f : Fo) : Fk := ⟨f.v, f.lo, f.hi⟩
theorem cR_fk {F : List Fo} : cR (F.map fk) = cR F := by
  induction F with
  | nil => rfl
  | cons f F ih => rw [List.map_cons, cR_cons, cR_cons, ih]; rfl
variable {N N' : Nat} {F F1 F2 G : List Fo} {L L' : List Fk} {v lo hi n k k1 k2 k' i m s t a b r : Nat} {p q p' q' : Int} {z z' : Bool} {x y : Fk}
theorem fo_cells (x : Fo) : Cells.cells x = [.val (.int .i64 x.v), .val (.int .i64 x.lo), .val (.int .i64 x.hi)] := rfl
def rgV (z : Bool) (n : Int) (L : List Fk) (r : Int) : AV := .agg [.val (.int .i64 n), .isl z (cR L) L.length, .val (.int .i64 r)]
theorem rgV_dg : dgV z n F r = rgV z n (F.map fk) r := by unfold dgV rgV; rw [cR_fk, List.length_map]
theorem bit_tb (h : s < 65536) : bit s n = s.testBit n := by unfold bit; rw [Nat.mod_eq_of_lt h]
theorem sub12 (x : Int) : x + 1 + 1 - 2 = x := by omega
theorem ne12 (x : Nat) : ((x : Int) + 1 + 1 = 1) = False := eq_false (by omega)
end Go.Proofs.YtabafldpnkjboaaDoor
