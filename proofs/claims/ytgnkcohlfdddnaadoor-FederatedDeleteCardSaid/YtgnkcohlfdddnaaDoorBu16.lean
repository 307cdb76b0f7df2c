/- Trees written out: the reference, joined. No condition. -/
import Derived.Test.YtgnkcohlfdddnaaDoorBu15
set_option linter.unusedVariables false
set_option linter.unusedSectionVars false
set_option linter.unusedSimpArgs false
set_option maxHeartbeats 2000000
set_option maxRecDepth 20000
namespace Go.Proofs.YtgnkcohlfdddnaaDoor
open Go Go.Sy Go.Bp
attribute [local irreducible] AO AL AC OpT ACall Ends DGo DRun Thn Blk Nxt
variable {z zl : Bool} {n i j m r L f q : Nat} {a y : Int} {x : Ex} {l : List Ex} {t : Nd} {out : List Nd}
theorem grow_sub_z (hi : i < x.nodes.length) (hfew : x.nodes.length ≤ 60) (ht : x.nodes.getD i default = t) (hk : t.kind = 1) (hs : t.server < l.length) (h0 : 0 ≤ t.server) (hL : l.length = L) (hL2 : L < 2^40) (hw0 : t.w = []) (hk0 : t.k = [])
    (hw : GOk (l.getD t.server.toNat default) (l.getD t.server.toNat default).root [] true 0 (grow0 mkR (l.getD t.server.toNat default))) (hfin : (grow0 mkR (l.getD t.server.toNat default) []).length ≤ 1000) :
    ACall Tryd.prog 81 [.isl true [] 0, .agg (Cells.cells x), .val (.int .i64 i), .isl zl (cR l) L] [] 0 (.sl 0 0 (grow0 mkR (l.getD t.server.toNat default) []).length 5) [.cells (cR (grow0 mkR (l.getD t.server.toNat default) [])) 59] := by
  have hw1 := PLift.up (hw.z hfin)
  simp only [cR_nil] at hw1 ⊢
  refine ACall.enter Tryd.func81 rfl (by simp [Tryd.ntmps81]) (by simp) ?_; simp only [entry, idx, Tryd.ntmps81, List.length, List.map_cons, List.map_nil, List.append_nil, List.cons_append, List.nil_append, Nat.reduceAdd, Nat.zero_add, List.length_cons, List.length_nil]
  repeat' (first | (refine AC_seq ?_) | (refine AC_region_lit ?_) | ((first | refine AL_go rfl (fun K hK => ?_) | refine AL_go0 (fun K hK => ?_) | refine DG_run (fun K hK => ?_)); (first | refine R_callG (f := 95) [] 0 false ?_ | refine R_callG (f := 81) (dst := some 39) [] 0 false ?_); simp -dsimp (disch := first | exact vD | fail) only [push_cast, simprocAttr, ht]; (repeat (refine aI ?_)); intro G hG; refine hG _ _ ?_; clear hG G; (first | refine ⟨_, _, copied_ok (t := t) (by rw [hw0]; simp) (by rw [hk0]; simp), ?_⟩ | refine ⟨_, _, hw1.down, ?_⟩); simp -dsimp (disch := first | exact vD | fail) only [push_cast, simprocAttr, ht]; (repeat (refine aI ?_)); (first | refine hK _ _ _ ?_ | refine hK _ _ ?_); clear hK K) | ((first | refine AL_go rfl (fun K hK => ?_) | refine AL_go0 (fun K hK => ?_) | refine DG_run (fun K hK => ?_)); (first | refine R_move _ ?_ | refine R_assign _ ?_ | refine Q_load _ _ ?_ | refine Q_loadAgg _ _ ?_ | refine Q_fieldAddr _ _ _ ?_ | refine Q_indexAddr _ _ _ ?_ | refine Q_indexArr _ _ _ ?_ | refine Q_len _ _ ?_ | refine Q_lenStr _ _ ?_ | refine Q_pick _ _ _ ?_ | refine Q_box _ _ ?_ | refine R_alloc _ ?_ | refine Q_store _ _ _ ?_ | refine Q_buildSlice _ _ _ ?_ | refine Q_eqAgg _ _ _ _ ?_ | refine Q_neqAgg _ _ _ _ ?_ | refine Q_neqSelf _ _ _ _ ?_ | refine Q_bin _ _ _ _ _ ?_ | refine Q_appendNil _ _ _ ?_); simp -dsimp (disch := first | exact vD | fail) only [push_cast, simprocAttr, ht]; (repeat (refine aI ?_)); (first | refine hK _ _ _ ?_ | refine hK _ _ ?_); clear hK K) | ((first | refine AL_go rfl (fun K hK => ?_) | refine AL_go0 (fun K hK => ?_) | refine DG_run (fun K hK => ?_)); (first | refine Q_append _ _ _ ?_); simp -dsimp (disch := first | exact vD | fail) only [push_cast, simprocAttr, ht]; (repeat (refine aI ?_)); (first | refine hK _ _ _ ?_ | refine hK _ _ ?_); clear hK K) | ((first | refine AL_go rfl (fun K hK => ?_) | refine AL_go0 (fun K hK => ?_) | refine DG_run (fun K hK => ?_)); (first | refine Q_append00 _ _ _ ?_); simp -dsimp (disch := first | exact vD | fail) only [push_cast, simprocAttr, ht]; (repeat (refine aI ?_)); (first | refine hK _ _ _ ?_ | refine hK _ _ ?_); clear hK K) | ((first | refine AL_go rfl (fun K hK => ?_) | refine AL_go0 (fun K hK => ?_) | refine DG_run (fun K hK => ?_)); (first | refine Q_appendIn _ _ _ ?_); simp -dsimp (disch := first | exact vD | fail) only [push_cast, simprocAttr, ht]; (repeat (refine aI ?_)); (first | refine hK _ _ _ ?_ | refine hK _ _ ?_); clear hK K) | ((first | refine AL_guard rfl rfl (fun K1 K2 h1 h2 => ?_) rfl | refine AC_cond_k (fun K1 K2 h1 h2 => ?_) | refine DG_guard rfl rfl (fun K1 K2 h1 h2 => ?_)); simp -dsimp (disch := first | exact vD | fail) only [push_cast, simprocAttr, ht]; (first | (refine ⟨fun hc => ?_, fun hc => ?_⟩ <;> first | (exfalso; omega) | (exfalso; contradiction) | refine h1 ?_ | refine h2 ?_) | refine h1 ?_ | refine h2 ?_); all_goals clear h1 h2 K1 K2) | (refine AC_draw (id := 3) (by kernel_rfl) [⟨0, [], [28, 29, 30, 31, 32, 33, 34, 35, 36, 37, 38], [], [], 0⟩, ⟨1, [], [27, 29, 30, 33, 34, 35, 36, 37, 38], [], [], 0⟩, ⟨2, [], [27, 28, 33, 34, 35, 36, 37, 38], [], [], 0⟩, ⟨3, [2], [27, 28, 33, 34, 35, 36, 37, 38], [], [], 0⟩, ⟨4, [1, 2, 3], [27, 33, 34, 35, 36, 37, 38], [], [], 0⟩, ⟨5, [1, 2, 3, 4], [27, 33, 34, 35, 36, 37, 38], [], [], 0⟩, ⟨6, [], [27, 28, 29, 30, 31, 32, 34, 35], [], [], 0⟩, ⟨7, [], [27, 28, 29, 30, 31, 32, 33], [], [], 0⟩, ⟨8, [7], [27, 28, 29, 30, 31, 32, 33], [], [], 0⟩, ⟨9, [6, 7, 8], [27, 28, 29, 30, 31, 32], [], [], 0⟩, ⟨10, [6, 7, 8, 9], [27, 28, 29, 30, 31, 32], [], [], 0⟩, ⟨11, [6, 7, 8, 9, 10], [27, 28, 29, 30, 31, 32], [], [], 0⟩, ⟨12, [0, 1, 2, 3, 4, 5, 6, 7, 8, 9, 10, 11], [], [], [2], 1⟩, ⟨13, [0, 1, 2, 3, 4, 5, 6, 7, 8, 9, 10, 11, 12], [], [], [], 0⟩] (by kernel_rfl) (by kernel_rfl) (by kernel_rfl) ?_) | (refine AC_draw (id := 7) (by kernel_rfl) [⟨0, [], [48, 49, 50, 51, 52, 53, 54], [], [], 0⟩, ⟨1, [], [47, 49, 50, 51, 52, 53, 54], [], [], 0⟩, ⟨2, [], [47, 48, 51, 54], [], [], 0⟩, ⟨3, [2], [47, 48, 51, 54], [], [], 0⟩, ⟨4, [], [47, 48, 49, 50, 54], [], [], 0⟩, ⟨5, [2, 3, 4], [47, 48, 54], [], [], 0⟩, ⟨6, [2, 3, 4, 5], [47, 48, 54], [], [], 0⟩, ⟨7, [], [47, 48, 49, 50, 51, 52, 53], [], [], 0⟩, ⟨8, [0, 1, 2, 3, 4, 5, 6, 7], [], [], [2], 1⟩, ⟨9, [0, 1, 2, 3, 4, 5, 6, 7, 8], [], [], [], 0⟩] (by kernel_rfl) (by kernel_rfl) (by kernel_rfl) ?_) | ((first | refine DG_next' (by kernel_rfl) (fun K hK => ?_) | refine DG_nil (by kernel_rfl) (fun K hK => ?_)); simp only [↓Go.Sy.dsnE_some, ↓Go.Sy.dsnE_none, ↓Go.Sy.dsnE_nil, ↓Go.Sy.dsnO_snoc, ↓Go.Sy.dsnO_nil, ↓Go.Sy.nidAt_snoc, ↓Go.Sy.nidAt_nil, push_cast, Nat.reduceLeDiff, Nat.reduceSub, Nat.reduceBEq, Nat.reduceEqDiff, Nat.reduceAdd, Nat.reduceLT, ↓reduceIte, reduceCtorEq]; refine hK _ _ _ ?_; clear hK K) | (refine DG_go ?_) | (refine AL_nil ?_) | (refine Thn_normal ?_) | (refine Thn_ret ?_) | (refine Thn_exit ?_) | (refine Blk_normal ?_) | (refine Blk_ret ?_) | (refine Blk_here ?_) | (refine Blk_other rfl ?_) | (refine AC_block ?_) | (refine AC_exit ?_) | (refine AC_skip ?_) | (refine AC_ret ?_))
  all_goals (refine Ends.mk2 (by first | exact .inr rfl | exact .inl rfl) [3] ?_; simp -dsimp (disch := first | exact vD | fail) only [push_cast, simprocAttr, Tryd.f81]; (repeat (refine aI ?_)); try (first | exact vI | fail))
theorem grow_sub_s (hi : i < x.nodes.length) (hfew : x.nodes.length ≤ 60) (ht : x.nodes.getD i default = t) (hk : t.kind = 1) (hs : t.server < l.length) (h0 : 0 ≤ t.server) (hL : l.length = L) (hL2 : L < 2^40) (hw0 : t.w = []) (hk0 : t.k = [])
    (hw : GOk (l.getD t.server.toNat default) (l.getD t.server.toNat default).root [] true 0 (grow0 mkR (l.getD t.server.toNat default))) (ho : 0 < out.length) (hfin : (grow0 mkR (l.getD t.server.toNat default) out).length ≤ 1000) :
    ACall Tryd.prog 81 [.sl 0 0 out.length 5, .agg (Cells.cells x), .val (.int .i64 i), .isl zl (cR l) L] [.cells (cR out) 59] 0 (.sl 0 0 (grow0 mkR (l.getD t.server.toNat default) out).length 5) [.cells (cR (grow0 mkR (l.getD t.server.toNat default) out)) 59] := by
  have hw1 := PLift.up (hw.s out ho hfin)
  simp only [cR_nil] at hw1 ⊢
  refine ACall.enter Tryd.func81 rfl (by simp [Tryd.ntmps81]) (by simp) ?_; simp only [entry, idx, Tryd.ntmps81, List.length, List.map_cons, List.map_nil, List.append_nil, List.cons_append, List.nil_append, Nat.reduceAdd, Nat.zero_add, List.length_cons, List.length_nil]
  repeat' (first | (refine AC_seq ?_) | (refine AC_region_lit ?_) | ((first | refine AL_go rfl (fun K hK => ?_) | refine AL_go0 (fun K hK => ?_) | refine DG_run (fun K hK => ?_)); (first | refine R_callG (f := 95) [] 0 false ?_ | refine R_callG (f := 81) (dst := some 39) [0] 0 false ?_); simp -dsimp (disch := first | exact vD | fail) only [push_cast, simprocAttr, ht]; (repeat (refine aI ?_)); intro G hG; refine hG _ _ ?_; clear hG G; (first | refine ⟨_, _, copied_ok (t := t) (by rw [hw0]; simp) (by rw [hk0]; simp), ?_⟩ | refine ⟨_, _, hw1.down, ?_⟩); simp -dsimp (disch := first | exact vD | fail) only [push_cast, simprocAttr, ht]; (repeat (refine aI ?_)); (first | refine hK _ _ _ ?_ | refine hK _ _ ?_); clear hK K) | ((first | refine AL_go rfl (fun K hK => ?_) | refine AL_go0 (fun K hK => ?_) | refine DG_run (fun K hK => ?_)); (first | refine R_move _ ?_ | refine R_assign _ ?_ | refine Q_load _ _ ?_ | refine Q_loadAgg _ _ ?_ | refine Q_fieldAddr _ _ _ ?_ | refine Q_indexAddr _ _ _ ?_ | refine Q_indexArr _ _ _ ?_ | refine Q_len _ _ ?_ | refine Q_lenStr _ _ ?_ | refine Q_pick _ _ _ ?_ | refine Q_box _ _ ?_ | refine R_alloc _ ?_ | refine Q_store _ _ _ ?_ | refine Q_buildSlice _ _ _ ?_ | refine Q_eqAgg _ _ _ _ ?_ | refine Q_neqAgg _ _ _ _ ?_ | refine Q_neqSelf _ _ _ _ ?_ | refine Q_bin _ _ _ _ _ ?_ | refine Q_appendNil _ _ _ ?_); simp -dsimp (disch := first | exact vD | fail) only [push_cast, simprocAttr, ht]; (repeat (refine aI ?_)); (first | refine hK _ _ _ ?_ | refine hK _ _ ?_); clear hK K) | ((first | refine AL_go rfl (fun K hK => ?_) | refine AL_go0 (fun K hK => ?_) | refine DG_run (fun K hK => ?_)); (first | refine Q_append _ _ _ ?_); simp -dsimp (disch := first | exact vD | fail) only [push_cast, simprocAttr, ht]; (repeat (refine aI ?_)); (first | refine hK _ _ _ ?_ | refine hK _ _ ?_); clear hK K) | ((first | refine AL_go rfl (fun K hK => ?_) | refine AL_go0 (fun K hK => ?_) | refine DG_run (fun K hK => ?_)); (first | refine Q_append00 _ _ _ ?_); simp -dsimp (disch := first | exact vD | fail) only [push_cast, simprocAttr, ht]; (repeat (refine aI ?_)); (first | refine hK _ _ _ ?_ | refine hK _ _ ?_); clear hK K) | ((first | refine AL_go rfl (fun K hK => ?_) | refine AL_go0 (fun K hK => ?_) | refine DG_run (fun K hK => ?_)); (first | refine Q_appendIn _ _ _ ?_); simp -dsimp (disch := first | exact vD | fail) only [push_cast, simprocAttr, ht]; (repeat (refine aI ?_)); (first | refine hK _ _ _ ?_ | refine hK _ _ ?_); clear hK K) | ((first | refine AL_guard rfl rfl (fun K1 K2 h1 h2 => ?_) rfl | refine AC_cond_k (fun K1 K2 h1 h2 => ?_) | refine DG_guard rfl rfl (fun K1 K2 h1 h2 => ?_)); simp -dsimp (disch := first | exact vD | fail) only [push_cast, simprocAttr, ht]; (first | (refine ⟨fun hc => ?_, fun hc => ?_⟩ <;> first | (exfalso; omega) | (exfalso; contradiction) | refine h1 ?_ | refine h2 ?_) | refine h1 ?_ | refine h2 ?_); all_goals clear h1 h2 K1 K2) | (refine AC_draw (id := 3) (by kernel_rfl) [⟨0, [], [28, 29, 30, 31, 32, 33, 34, 35, 36, 37, 38], [], [], 0⟩, ⟨1, [], [27, 29, 30, 33, 34, 35, 36, 37, 38], [], [], 0⟩, ⟨2, [], [27, 28, 33, 34, 35, 36, 37, 38], [], [], 0⟩, ⟨3, [2], [27, 28, 33, 34, 35, 36, 37, 38], [], [], 0⟩, ⟨4, [1, 2, 3], [27, 33, 34, 35, 36, 37, 38], [], [], 0⟩, ⟨5, [1, 2, 3, 4], [27, 33, 34, 35, 36, 37, 38], [], [], 0⟩, ⟨6, [], [27, 28, 29, 30, 31, 32, 34, 35], [], [], 0⟩, ⟨7, [], [27, 28, 29, 30, 31, 32, 33], [], [], 0⟩, ⟨8, [7], [27, 28, 29, 30, 31, 32, 33], [], [], 0⟩, ⟨9, [6, 7, 8], [27, 28, 29, 30, 31, 32], [], [], 0⟩, ⟨10, [6, 7, 8, 9], [27, 28, 29, 30, 31, 32], [], [], 0⟩, ⟨11, [6, 7, 8, 9, 10], [27, 28, 29, 30, 31, 32], [], [], 0⟩, ⟨12, [0, 1, 2, 3, 4, 5, 6, 7, 8, 9, 10, 11], [], [], [2], 1⟩, ⟨13, [0, 1, 2, 3, 4, 5, 6, 7, 8, 9, 10, 11, 12], [], [], [], 0⟩] (by kernel_rfl) (by kernel_rfl) (by kernel_rfl) ?_) | (refine AC_draw (id := 7) (by kernel_rfl) [⟨0, [], [48, 49, 50, 51, 52, 53, 54], [], [], 0⟩, ⟨1, [], [47, 49, 50, 51, 52, 53, 54], [], [], 0⟩, ⟨2, [], [47, 48, 51, 54], [], [], 0⟩, ⟨3, [2], [47, 48, 51, 54], [], [], 0⟩, ⟨4, [], [47, 48, 49, 50, 54], [], [], 0⟩, ⟨5, [2, 3, 4], [47, 48, 54], [], [], 0⟩, ⟨6, [2, 3, 4, 5], [47, 48, 54], [], [], 0⟩, ⟨7, [], [47, 48, 49, 50, 51, 52, 53], [], [], 0⟩, ⟨8, [0, 1, 2, 3, 4, 5, 6, 7], [], [], [2], 1⟩, ⟨9, [0, 1, 2, 3, 4, 5, 6, 7, 8], [], [], [], 0⟩] (by kernel_rfl) (by kernel_rfl) (by kernel_rfl) ?_) | ((first | refine DG_next' (by kernel_rfl) (fun K hK => ?_) | refine DG_nil (by kernel_rfl) (fun K hK => ?_)); simp only [↓Go.Sy.dsnE_some, ↓Go.Sy.dsnE_none, ↓Go.Sy.dsnE_nil, ↓Go.Sy.dsnO_snoc, ↓Go.Sy.dsnO_nil, ↓Go.Sy.nidAt_snoc, ↓Go.Sy.nidAt_nil, push_cast, Nat.reduceLeDiff, Nat.reduceSub, Nat.reduceBEq, Nat.reduceEqDiff, Nat.reduceAdd, Nat.reduceLT, ↓reduceIte, reduceCtorEq]; refine hK _ _ _ ?_; clear hK K) | (refine DG_go ?_) | (refine AL_nil ?_) | (refine Thn_normal ?_) | (refine Thn_ret ?_) | (refine Thn_exit ?_) | (refine Blk_normal ?_) | (refine Blk_ret ?_) | (refine Blk_here ?_) | (refine Blk_other rfl ?_) | (refine AC_block ?_) | (refine AC_exit ?_) | (refine AC_skip ?_) | (refine AC_ret ?_))
  all_goals (refine Ends.mk2 (by first | exact .inr rfl | exact .inl rfl) [4] ?_; simp -dsimp (disch := first | exact vD | fail) only [push_cast, simprocAttr, Tryd.f81]; (repeat (refine aI ?_)); try (first | exact vI | fail))
theorem G_all (hx : XOk x) (hL : l.length = L) (hL2 : L < 2^40)
    (hsub : ∀ s : Int, 0 ≤ s → s < l.length → GOk (l.getD s.toNat default) (l.getD s.toNat default).root [] true 0 (grow0 mkR (l.getD s.toNat default))) :
    ∀ (f : Nat) (y : Int), 0 ≤ y → y < x.nodes.length → y.toNat < f → GOk x y l zl L (gR x l f y.toNat) := by
  intro f
  induction f with
  | zero => intro y _ _ h; omega
  | succ f ih =>
    intro y h0 h1 h2
    obtain ⟨i, rfl⟩ := Int.eq_ofNat_of_zero_le h0
    rw [Int.toNat_natCast] at h2 ⊢
    have hi : i < x.nodes.length := by omega
    have hno := hx.node i hi
    generalize ht : x.nodes.getD i default = t at hno
    by_cases hc : t.kind = 1 ∧ t.server < l.length
    · have hw := hsub t.server hno.srv.1 hc.2
      refine ⟨fun hfin => ?_, fun out ho hfin => ?_⟩
      · rw [gR_sub ht hc.1 hc.2] at hfin ⊢
        exact grow_sub_z hi hx.few ht hc.1 hc.2 hno.srv.1 hL hL2 (hno.leaf hc.1).2.1 (hno.leaf hc.1).2.2 hw hfin
      · rw [gR_sub ht hc.1 hc.2] at hfin ⊢
        exact grow_sub_s hi hx.few ht hc.1 hc.2 hno.srv.1 hL hL2 (hno.leaf hc.1).2.1 (hno.leaf hc.1).2.2 hw ho hfin
    · have hih : ∀ y : Int, 0 ≤ y → y < i → GOk x y l zl L (gR x l f y.toNat) := fun y hy0 hyi => ih y hy0 (by omega) (by omega)
      have hf : 0 < t.k.length → 0 < f := fun h => by
        have := hno.ks _ (getD_mem (d := default) h); omega
      have hwk : t.k.length ≤ 1000 → t.w.length ≤ 1000 := fun h => by
        by_cases hw : t.w = []
        · rw [hw]; simp
        · rw [hno.wl hw]; exact h
      refine ⟨fun hfin => ?_, fun out ho hfin => ?_⟩
      · have hk := kids_leR ht (subL_none hc) hf hfin
        exact grow_own_z hi hx.few ht hc hL hL2 hno (hwk hk) hk hih hf hfin
      · have hk := kids_leR ht (subL_none hc) hf hfin
        exact grow_own_s hi hx.few ht hc hL hL2 hno (hwk hk) hk hih ho hfin
theorem gR_nil (hx : XOk x) (f i : Nat) (out : List Nd) (hi : i < x.nodes.length) (hf : i < f) : gR x [] f i out = growG mkR sub0 x.nodes f i out := by
  unfold gR
  induction f generalizing i out with
  | zero => rfl
  | succ f ih =>
    have hno := hx.node i hi
    have e1 : subL mkR [] out (x.nodes.getD i default) = none := subL_nil hno.srv.1
    rw [growG_s _ _ _ _ _ _ e1, growG_s mkR sub0 x.nodes f i out rfl]
    have : ∀ (ks : List Int) (s : List Nd × List Int), (∀ k ∈ ks, 0 ≤ k ∧ k < i) → gS (growG mkR (subL mkR []) x.nodes f) ks s = gS (growG mkR sub0 x.nodes f) ks s := by
      intro ks
      induction ks with
      | nil => intro s _; rfl
      | cons k ks ih2 =>
        intro s h
        have hk := h k (by simp)
        simp only [gS]
        rw [ih k.toNat s.1 (by omega) (by omega), ih2 _ (fun y hy => h y (by simp [hy]))]
    rw [this _ _ hno.ks]
theorem G_0 (hx : XOk x) : GOk x x.root [] true 0 (grow0 mkR x) := by
  have h := G_all (zl := true) (L := 0) hx (l := []) rfl (by omega) (fun s h0 h1 => by simp at h1; omega) (x.root.toNat + 1) x.root hx.root.1 hx.root.2 (by omega)
  have e : gR x [] (x.root.toNat + 1) x.root.toNat = grow0 mkR x := by
    funext out
    exact gR_nil hx _ _ _ (by have := hx.root; omega) (by omega)
  rw [e] at h; exact h
theorem G_l (hx : XOk x) (hl : ∀ y ∈ l, XOk y) (hL : l.length = L) (hL2 : L < 2^40) : GOk x x.root l zl L (gR x l (x.root.toNat + 1) x.root.toNat) :=
  G_all hx hL hL2 (fun s h0 h1 => by
    have := hl (l.getD s.toNat default) (getD_mem (by omega))
    exact G_0 this) _ _ hx.root.1 hx.root.2 (by omega)
end Go.Proofs.YtgnkcohlfdddnaaDoor
