/- Do a family, an expression and a diagram accept the same sets: forms12Agree. No condition. -/
import Derived.Test.YtabafldpnkjboaaDoorTm1
import Derived.Test.YtabafldpnkjboaaDoorDw1
set_option linter.unusedVariables false
set_option linter.unusedSectionVars false
set_option linter.unusedSimpArgs false
set_option maxHeartbeats 4000000
set_option maxRecDepth 20000
namespace Go.Proofs.YtabafldpnkjboaaDoor
open Go Go.Sy Go.Bp Go.Dg
attribute [local irreducible] AO AL AC OpT ACall Ends DGo DRun Thn Blk Nxt
variable {n N M r s : Nat} {z zd : Bool} {x : Ex} {f : List Nat} {F : List Fo} {tab : Nat → Bool}
def agI (z : Bool) (f : List Nat) (M n : Nat) (x : Ex) (zd : Bool) (F : List Fo) (N r : Nat) (s : {s : Nat // s ≤ 2 ^ n}) : St :=
  ⟨50, 0, [(0,.isl z (cX f) M), (5,.pt 0 0), (6,.pt 1 0), (8,.val (.bool false)), (15,.val (.int .u16 (U (2 ^ n)))), (16,.val (.int .u16 (U s.val)))],
   [(0, some (.cells (Cells.cells x) 31)), (1, some (.cells [.val (.int .i64 n), .isl zd (cR F) N, .val (.int .i64 r)] 37))]⟩
theorem agree_ok (hn : n ≤ 6)
    (hE : ∀ t, t < 2 ^ n → ACall Tryd.prog 25 [.agg (Cells.cells x), .val (.int .u16 (U t))] [] 0 (.tup [.val (.bool (tab t)), .val (.int .i64 0)]) [])
    (hD : ∀ t, t < 2 ^ n → ACall Tryd.prog 26 [.agg [.val (.int .i64 n), .isl zd (cR F) N, .val (.int .i64 r)], .val (.int .u16 (U t))] [] 0 (.tup [.val (.bool (tab t)), .val (.int .i64 0)]) [])
    (hA : ∀ t, t < 2 ^ n → ACall Tryd.prog 15 [.isl z (cX f) M, .val (.int .u16 (U t))] [] 0 (.val (.bool (tab t))) []) :
    ACall Tryd.prog 8 [.isl z (cX f) M, .agg (Cells.cells x), .agg [.val (.int .i64 n), .isl zd (cR F) N, .val (.int .i64 r)], .val (.int .i64 n)] [] 0 (.val (.bool true)) [] := by
  have hp : 2 ^ n ≤ 2 ^ 6 := Nat.pow_le_pow_right (by omega) hn
  have hc := fun (t : Nat) (h : t < 2 ^ n) => PLift.up (And.intro (hE t h) (And.intro (hD t h) (hA t h)))
  clear hE hD hA
  have hb := dmy_def
  refine ACall.enter Tryd.func8 rfl (by simp [Tryd.ntmps8]) (by simp) ?_; simp only [entry, idx, Tryd.ntmps8, List.length, List.map_cons, List.map_nil, List.append_nil, List.cons_append, List.nil_append, Nat.reduceAdd, Nat.zero_add, List.length_cons, List.length_nil]
  repeat' (first | (refine AC_loop_id ?_; refine AC_loop' [0, 1] ([0, 1].length) (agI z f M n x zd F N r) (fun s => 2 ^ n - s.val) (⟨0, Nat.zero_le _⟩) rfl (by unfold agI; (try simp only [List.cons_append, List.nil_append]); refine Sub.mk2 ?_; (simp -dsimp (disch := try exact vD) only [push_cast, simprocAttr, hb]); (repeat refine aI ?_); first | done | exact vI) ?_; (rintro ⟨s, hs⟩; rcases Nat.lt_or_eq_of_le hs with hsl | hsl <;> first | (have es : 2 ^ n = s := hsl.symm; (simp -dsimp (disch := try exact vD) only [push_cast, simprocAttr, agI])) | (have hcs := hc s hsl; rcases Bool.eq_false_or_eq_true (tab s) with hb | hb <;> rw [hb] at hcs <;> (simp -dsimp (disch := try exact vD) only [push_cast, simprocAttr, agI])))) | (refine Nxt_id ?_; refine Nxt.mk [0, 1] (⟨s + 1, by omega⟩) rfl (by unfold agI; (try simp only [List.cons_append, List.nil_append]); refine Sub.mk2 ?_; (simp -dsimp (disch := try exact vD) only [push_cast, simprocAttr, hb]); (repeat refine aI ?_); first | done | exact vI) (by first | omega | (dsimp only; omega) | (simp; done) | (simp; omega))) | apply AC_seq | apply AC_region_lit | ((first | refine AL_go rfl (fun K hK => ?_) | refine AL_go0 (fun K hK => ?_)); (first | refine R_callG (f := 25) [] 0 false ?_ | refine R_callG (f := 26) [] 0 false ?_ | refine R_callG (f := 15) [] 0 false ?_); simp -dsimp (disch := try exact vD) only [push_cast, simprocAttr, hb]; (repeat refine aI ?_); intro G hG; refine hG _ _ ?_; clear hG G; (first | refine ⟨_, _, hcs.down.1, ?_⟩ | refine ⟨_, _, hcs.down.2.1, ?_⟩ | refine ⟨_, _, hcs.down.2.2, ?_⟩); simp -dsimp (disch := try exact vD) only [push_cast, simprocAttr, hb]; (repeat refine aI ?_); apply hK; clear hK K) | ((first | refine AL_go rfl (fun K hK => ?_) | refine AL_go0 (fun K hK => ?_)); (first | apply R_move | apply R_assign | apply Q_load | apply Q_loadAgg | apply Q_pick | apply Q_extract | apply Q_box | apply Q_eqAgg | apply Q_neqAgg | apply Q_neqSelf | apply Q_bin); simp -dsimp (disch := try exact vD) only [push_cast, simprocAttr, hb]; (repeat refine aI ?_); apply hK; clear hK K) | ((first | refine AL_guard rfl rfl (fun K1 K2 h1 h2 => ?_) rfl | refine AC_cond_k (fun K1 K2 h1 h2 => ?_)); simp -dsimp (disch := try exact vD) only [push_cast, simprocAttr, hb]; (first | (refine ⟨fun hc => ?_, fun hc => ?_⟩ <;> first | (exfalso; omega) | (exfalso; contradiction) | refine h1 ?_ | refine h2 ?_) | refine h1 ?_ | refine h2 ?_); all_goals clear h1 h2 K1 K2) | apply AL_nil | apply Thn_normal | apply Thn_ret | apply Thn_exit | apply Blk_normal | apply Blk_ret | apply Blk_here | (refine Blk_other rfl ?_) | apply AC_block | apply AC_exit | apply AC_skip | apply AC_ret)
  all_goals first
    | ((refine Ends.mk2 (by first | exact .inr rfl | exact .inl rfl) [] ?_; simp -dsimp (disch := try exact vD) only [push_cast, simprocAttr, Tryd.f8]; (repeat refine aI ?_); try (first | exact vI | fail)); done)
    | trace_state
end Go.Proofs.YtabafldpnkjboaaDoor
