/-
  The symbolic walk: from a contract over abstract values to a call in the form in which the statements' rows want it. No condition.
-/
import Derived.Test.YtphpjgfhdoobjaaSym15
import Derived.WalkKit
import Derived.ProofKit
import Derived.OpenShut
set_option linter.unusedVariables false
set_option linter.unusedSectionVars false
set_option linter.unusedSimpArgs false
namespace Go.Sy
open Go.ChangeShapes Go.WideShapes Go.ChangeAt Go.RowKit

/-- A world with more blocks at most. -/
def More (W W' : World) : Prop := W'.os = W.os ∧ W'.output = W.output ∧ W.heap.size ≤ W'.heap.size ∧ ∀ b, b < W.heap.size → W'.heap[b]? = W.heap[b]?

theorem More.kept {W W' : World} (h : More W W') (may : MemPlace → Prop) : W.keptBut W' may := by
  refine ⟨h.1, h.2.1, fun i hi => ?_⟩
  rw [h.2.2.2 i hi]
  cases W.heap[i]? with
  | none => rfl
  | some o => cases o <;> simp

/-- A function that hands back true, called with arguments of which it owns nothing. -/
theorem ACall.law {P : Program} {f : FuncId} {args : List AV} {vs : Array Value} (h : ACall P f args [] 0 (.val (.bool true)) []) (w : World) (hs : vs.size = args.length)
    (hr : ∀ j (h : j < args.length), Rep w (fun b => b < w.heap.size) (fun _ => none) (vs.getD j undef) args[j]) :
    Calls P f vs w fun e w' => e = .returned (.bool true) ∧ More w w' := by
  have := h w (fun b => b < w.heap.size) (fun _ => False) (fun _ => none) vs hs hr (fun b hb => ⟨hb, id⟩) (fun b hb => hb.elim) (fun j h => by simp at h) (fun j p h => by cases h) (fun i j b s s' h => by cases h)
  refine this.mono fun e w' => ?_
  rintro ⟨v, ρ', J', rfl, hv, _, hk, _⟩
  refine ⟨?_, hk.os, hk.output, hk.size, fun b hb => hk.block b hb id⟩
  cases hv; rfl

/-- What a row asks behind such a call. -/
theorem law_post {H : Type} {enc : TypeId × Value → H} {P : Program} {f : Func} {s : ChangeSpec} {apart fresh handsOn : Bool} {W W' : World} {args : Array Value} {v : Value} {ds gs : List (DataW H)} {before pa pv : List MemPlace}
    (hW : DataW.Whole enc P f.params.toList s.vars apart W args.toList ds gs before)
    (hres : ∀ (b : Nat) (sp : Nat → Bool) (hd : Bool), DataW.TrodAll enc P W' b sp hd f.resultTypes.toList (v.resultList f.resultTypes.size) (s.fn H (ds ++ gs)).results [])
    (hargs : ∀ sp : Nat → Bool, (∀ p ∈ before, sp p.block = true) → DataW.TrodAll enc P W' 0 sp true f.params.toList args.toList (s.fn H (ds ++ gs)).args pa)
    (hvars : ∀ sp : Nat → Bool, (∀ p ∈ before, sp p.block = true) → DataW.TrodVars enc P W' sp s.vars (s.fn H (ds ++ gs)).vars pv)
    (hm : More W W') : s.post enc P f apart fresh handsOn false W args v W' := by
  have hold : ∀ p ∈ before, (fun b => decide (b < W.heap.size)) p.block = true := fun p hp => by simpa using hW.lt p hp
  exact ⟨ds, gs, before, [], pa, pv, hW, hres _ _ _, hargs _ hold, hvars _ hold, hm.kept _, fun h => by cases h⟩
end Go.Sy
