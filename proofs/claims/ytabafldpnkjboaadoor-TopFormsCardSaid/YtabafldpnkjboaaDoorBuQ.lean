/- BuQ: Bu3 Bu4, merged. No condition. -/
import Derived.Test.YtabafldpnkjboaaDoorBu2
import Derived.Test.YtabafldpnkjboaaDoorBpA
/- Bu3. -/
set_option linter.unusedVariables false
set_option linter.unusedSectionVars false
set_option linter.unusedSimpArgs false
set_option maxHeartbeats 2000000
set_option maxRecDepth 20000
namespace Go.Proofs.YtabafldpnkjboaaDoor
open Go Go.Sy Go.Bp
attribute [local irreducible] AO AL AC OpT ACall Ends DGo DRun Thn Blk Nxt
variable {l k w : List Int} {z zk wz : Bool} {n K i j m : Nat} {a b : Int} {kids : List Ex} {need : Int} {t : Nd} {L : List Nd}
structure KOkR (kids : List Ex) : Prop extends KOk kids where
  last : ∀ x ∈ kids, x.root = (x.nodes.length : Int) - 1
  kzz : ∀ x ∈ kids, ∀ n ∈ x.nodes, n.kz = n.k.isEmpty
end Go.Proofs.YtabafldpnkjboaaDoor
/- Bu4. -/
set_option linter.unusedVariables false
set_option linter.unusedSectionVars false
set_option linter.unusedSimpArgs false
set_option maxHeartbeats 1000000
set_option maxRecDepth 20000
namespace Go.Proofs.YtabafldpnkjboaaDoor
open Go Go.Sy Go.Bp
attribute [local irreducible] AO AL AC OpT ACall Ends DGo DRun Thn Blk Nxt
variable {l k w : List Int} {z zk wz : Bool} {n K i j m b c : Nat} {a : Int} {kids : List Ex} {need : Int}
theorem KOkR_of (h : ∀ x ∈ kids, XF b x) (hc : kids.length ≤ c) (hc2 : c ≤ 1000) (hb : c * b ≤ 10000) : KOkR kids := by
  have hl := nodesA_few b [] kids h
  have hm := Nat.mul_le_mul_right b hc
  have hb2 : ∀ x ∈ kids, x.nodes.length ≤ 10000 := fun x hx => by
    have h1 := (h x hx).few
    have h2 : 1 ≤ kids.length := List.length_pos_iff.2 (by intro e; subst e; simp at hx)
    have := Nat.mul_le_mul_right b h2
    omega
  refine ⟨⟨fun x hx => (h x hx).ne, fun x hx n hn => ?_, fun x hx => ?_, by simp at hl; omega, by omega⟩, fun x hx => (h x hx).root, fun x hx n hn => ((h x hx).nd n hn).kzz⟩
  · have g := (h x hx).nd n hn
    have := hb2 x hx
    refine ⟨g.wz, fun hz => ?_, g.wl, g.kl, fun y hy => by have := g.ky y hy; omega⟩
    rw [g.kzz] at hz; exact List.isEmpty_iff.1 hz
  · have := (h x hx).root
    have h0 : 0 < x.nodes.length := List.length_pos_iff.2 (h x hx).ne
    have := hb2 x hx
    omega
theorem thr_eq (hK : kids.length = K) : (AV.agg [.isl false (cR (NJ kids K ++ [⟨2, 0, need, wz, w, K == 0, RJ kids K⟩])) ((NJ kids K).length + 1), .val (.int .i64 (NJ kids K).length)]) = .agg (Cells.cells (thr need kids wz w)) := by
  rw [NJ_all hK.symm, RJ_all hK.symm, ex_cells]
  have e : (K == 0) = (rootsA 0 kids).isEmpty := by
    subst hK; cases kids <;> rfl
  rw [e]
  simp [thr, topN]
theorem thr_ok (hk : KOk kids) (hK : kids.length = K) (hw : w.length = n) (hn : n ≤ 1000) (hz : wz = true → w = []) :
    ACall Tryd.prog 47 [.val (.int .i64 need), .isl zk (cR kids) K, .isl wz (cI .i64 w) n] [] 0 (.agg (Cells.cells (thr need kids wz w))) [] := by
  rw [← thr_eq hK]; exact thr_raw hk hK hw hn hz
theorem thr_n (hk : KOk kids) (hK : kids.length = K) : ACall Tryd.prog 47 [.val (.int .i64 need), .isl zk (cR kids) K, .isl true [] 0] [] 0 (.agg (Cells.cells (thr need kids true []))) [] :=
  thr_ok (w := []) (wz := true) hk hK rfl (by omega) (fun _ => rfl)
end Go.Proofs.YtabafldpnkjboaaDoor
