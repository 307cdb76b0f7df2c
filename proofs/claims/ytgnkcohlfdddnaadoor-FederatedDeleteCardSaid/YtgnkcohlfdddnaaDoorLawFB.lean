/- Federated: the laws of Spread, Quorum, Union. No condition. -/
import Derived.Test.YtgnkcohlfdddnaaDoorLawFA
set_option linter.unusedVariables false
set_option linter.unusedSectionVars false
set_option linter.unusedSimpArgs false
set_option maxHeartbeats 4000000
set_option maxRecDepth 20000
namespace Go.Proofs.YtgnkcohlfdddnaaDoor
open Go Go.Sy Go.Bp
attribute [local irreducible] AO AL AC OpT ACall Ends DGo DRun Thn Blk Nxt
variable {z zl : Bool} {n i j m q s t D : Nat} {a b : Nat} {d : List Sli} {l : List Ex}
theorem FOk.quo (h : FOk l n) (hs : ∀ i, bit s i = true → i < n) : ACall Tryd.prog 28 [.isl zl (cR l) n, .val (.int .u16 (U s))] [] 0 (.tup [.val (.bool (isQ l s)), .val (.int .i64 0)]) [] := by
  have h1 := quorum_ok (zl := zl) (s := s) h.ok h.len
  rw [h.ch hs, if_pos rfl] at h1; exact h1
theorem FOk.grt (h : FOk l n) (hs : ∀ i, bit s i = true → i < n) : ACall Tryd.prog 24 [.isl zl (cR l) n, .val (.int .u16 (U s))] [] 0 (.tup [.val (.int .u16 (U (grt l s))), .val (.int .i64 0)]) [] := by
  have h1 := great_ok (zl := zl) (s := s) h.ok h.len
  rw [h.ch hs, if_pos rfl] at h1; exact h1
theorem sand_n (hn : n ≤ 6) : ∀ i, bit (sand s (2 ^ n - 1)) i = true → i < n := sand_fulln (by omega)
end Go.Proofs.YtgnkcohlfdddnaaDoor
