/- The numbers of nodes of written trees: the reference. No condition. -/
import Derived.Test.YtgnkcohlfdddnaaDoorBu9
import Derived.Test.YtgnkcohlfdddnaaDoorBu10
set_option linter.unusedVariables false
set_option linter.unusedSectionVars false
set_option linter.unusedSimpArgs false
set_option maxHeartbeats 2000000
set_option maxRecDepth 20000
namespace Go.Proofs.YtgnkcohlfdddnaaDoor
open Go Go.Sy Go.Bp
attribute [local irreducible] AO AL AC OpT ACall Ends DGo DRun Thn Blk Nxt
variable {z zl : Bool} {n i j m r L : Nat} {a : Int} {x : Ex} {l : List Int} {of : Int → Int} {t : Nd}
def ofR (l : List Int) (s : Int) : Int := if s < l.length then l.getD s.toNat default else 1
theorem ofR_rng (h : ∀ y ∈ l, 1 ≤ y ∧ y ≤ 1000) : ∀ s, 0 ≤ s → s < 12 → 1 ≤ ofR l s ∧ ofR l s ≤ 1000 := fun s h0 _ => by
  unfold ofR; split
  · exact h _ (getD_mem (by omega))
  · omega
theorem ho_ofR (hx : XOk x) (ho : ∀ s, 0 ≤ s → s < 12 → 1 ≤ of s ∧ of s ≤ 1000) : ∀ n ∈ x.nodes, n.kind = 1 → 1 ≤ of n.server ∧ of n.server ≤ 1000 := fun n hn _ => by
  obtain ⟨j, hj, rfl⟩ := List.getElem_of_mem hn
  have := (hx.node j hj).srv
  rw [List.getD_eq_getElem?_getD, List.getElem?_eq_getElem hj, Option.getD_some] at this
  exact ho _ this.1 this.2
theorem inO_r {ns : List Nd} : InO n 1000 of ns 0 (List.replicate n 0) := ⟨by simp, by simp [szA]⟩
def szR (zl : Bool) (l : List Int) (L : Nat) (x : Ex) (n : Nat) (p : {p : Nat × List Int // p.1 ≤ n ∧ InO n 1000 (ofR l) x.nodes p.1 p.2}) : St :=
  ⟨70, 0, [(1,.isl zl (cI .i64 l) L), (2,.pt 0 0), (5,.sl 1 0 n 1), (6,.val (.int .i64 p.val.1))],
   [(0, some (.cells (Cells.cells x) 50)), (1, some (.cells (cI .i64 p.val.2) 3))]⟩
def szQ (zl : Bool) (l : List Int) (L : Nat) (x : Ex) (n i : Nat) (t : Nd) (p : {p : Nat × List Int // p.1 ≤ t.k.length ∧ InI n 1000 (ofR l) x.nodes i p.1 p.2}) : St :=
  ⟨70, 0, [(1,.isl zl (cI .i64 l) L), (2,.pt 0 0), (5,.sl 1 0 n 1), (6,.val (.int .i64 i)), (7,.pt 2 0), (8,.val (.int .i64 p.val.1))],
   [(0, some (.cells (Cells.cells x) 50)), (1, some (.cells (cI .i64 p.val.2) 3)), (2, some (.cells (Cells.cells t) 59))]⟩
def v0 (l : List Int) (t : Nd) : Int := if t.kind = 1 ∧ t.server < l.length then l.getD t.server.toNat default else 1
theorem v0_1 (h : t.kind = 1) (h2 : t.server < l.length) : v0 l t = l.getD t.server.toNat default := by unfold v0; rw [if_pos ⟨h, h2⟩]
theorem v0_2 (h : ¬ t.kind = 1) : v0 l t = 1 := by unfold v0; rw [if_neg (fun e => h e.1)]
theorem v0_3 (h : ¬ t.server < l.length) : v0 l t = 1 := by unfold v0; rw [if_neg (fun e => h e.2)]
theorem v0_s0 : v0 l t = s0 (ofR l) t := by
  unfold v0 s0 ofR
  by_cases h : t.kind = 1
  · by_cases h2 : t.server < l.length
    · rw [if_pos ⟨h, h2⟩, if_pos h, if_pos h2]
    · rw [if_neg (fun e => h2 e.2), if_pos h, if_neg h2]
  · rw [if_neg (fun e => h e.1), if_neg h]
theorem sizes_end {A : List Int} (h : InO n 1000 of x.nodes n A) (hn : x.nodes.length = n) : A = szA 1000 of [] x.nodes := by
  have h1 := h.tk
  rw [List.take_of_length_le (by rw [h.len]; exact Nat.le_refl _), List.take_of_length_le (by omega)] at h1
  exact h1
theorem sizes_ok (hx : XOk x) (hsh : Short x) (hn : x.nodes.length = n) (hL : l.length = L) (hl : ∀ y ∈ l, 1 ≤ y ∧ y ≤ 1000) (hL2 : L < 2^40) :
    ACall Tryd.prog 80 [.agg (Cells.cells x), .isl zl (cI .i64 l) L] [] 0 (.isl false (cI .i64 (szA 1000 (ofR l) [] x.nodes)) n) [] := by
  have hfew := hx.few
  have hnode := PLift.up hx.node
  have hoo := PLift.up (ho_ofR hx (ofR_rng hl))
  have hks := fun (i q : Nat) (hi : i < x.nodes.length) (hq : q < (x.nodes.getD i default).k.length) => ks_at hx hi hq
  have hns := dmy_def
  have hv1 := dmy_def
  have hsk := fun (i : Nat) (h : i < x.nodes.length) => (hsh.2 i h).2
  refine ACall.enter Tryd.func80 rfl (by simp [Tryd.ntmps80]) (by simp) ?_; simp only [entry, idx, Tryd.ntmps80, List.length, List.map_cons, List.map_nil, List.append_nil, List.cons_append, List.nil_append, Nat.reduceAdd, Nat.zero_add, List.length_cons, List.length_nil]
  repeat' (first | (refine AC_loop_id ?_; refine AC_loop' [0,1,2] ([0,1,2].length) (szQ zl l L x n i t) (fun p => t.k.length - p.val.1) (⟨(0, A.set i (v0 l t)), by omega, hA.start (by omega) (by rw [hns]; exact v0_s0)⟩) rfl (by unfold szQ; (try simp only [List.cons_append, List.nil_append]); refine Sub.mk2 ?_; (simp -dsimp (disch := first | exact vD | fail) only [push_cast, simprocAttr, hns, hv1, hn, List.set_set]); (repeat (refine aI ?_)); (first | done | (first | exact vI | fail)); done) ?_; (rintro ⟨⟨q, B⟩, hq, hB⟩; dsimp only at hq hB; have hBl := hB.len; have hBr := hB.rng (by decide) hoo.down (by omega); have hBs := hBr.1; rcases Nat.lt_or_eq_of_le hq with hql | hql <;> first | (have hkq := hks i q (by omega) (by rw [hns]; exact hql); rw [hns] at hkq; have hBk := hBr.2 (t.k.getD q default).toNat (by omega); (simp -dsimp (disch := first | exact vD | fail) only [push_cast, simprocAttr, szQ])) | (simp -dsimp (disch := first | exact vD | fail) only [push_cast, simprocAttr, szQ]))) | (refine Nxt_id ?_; refine Nxt.mk [0,1,2] (⟨(q + 1, B.set i (min 1000 (B.getD i default + B.getD (t.k.getD q default).toNat default))), by omega, hB.step (by omega) (by rw [hns]; exact hql) (by rw [hns]; omega) (by rw [hns])⟩) rfl (by unfold szQ; (try simp only [List.cons_append, List.nil_append]); refine Sub.mk2 ?_; (simp -dsimp (disch := first | exact vD | fail) only [push_cast, simprocAttr, hns, hv1, hn, List.set_set]); (repeat (refine aI ?_)); (first | done | (first | exact vI | fail)); done) (by first | omega | (simp; done) | (simp; omega))) | (refine AC_loop_id ?_; refine AC_loop' [0,1] ([0,1].length) (szR zl l L x n) (fun p => n - p.val.1) (⟨(0, List.replicate n 0), by omega, inO_r⟩) rfl (by unfold szR; (try simp only [List.cons_append, List.nil_append]); refine Sub.mk2 ?_; (simp -dsimp (disch := first | exact vD | fail) only [push_cast, simprocAttr, hns, hv1, hn, List.set_set]); (repeat (refine aI ?_)); (first | done | (first | exact vI | fail)); done) ?_; (rintro ⟨⟨i, A⟩, hi, hA⟩; dsimp only at hi hA; have hAl := hA.len; rcases Nat.lt_or_eq_of_le hi with hil | hil <;> first | (have hnd := hnode.down i (by omega); have htl := hsk i (by omega); generalize hns : x.nodes.getD i default = t at hnd htl; have hsv := hnd.srv; rcases Decidable.em (t.kind = 1) with hkd | hkd <;> rcases Decidable.em (t.server < l.length) with hke | hke <;> first | (have hv1 := v0_1 hkd hke; (simp -dsimp (disch := first | exact vD | fail) only [push_cast, simprocAttr, szR])) | (have hv1 := v0_2 (l := l) hkd; (simp -dsimp (disch := first | exact vD | fail) only [push_cast, simprocAttr, szR])) | (have hv1 := v0_3 hke; (simp -dsimp (disch := first | exact vD | fail) only [push_cast, simprocAttr, szR]))) | (simp -dsimp (disch := first | exact vD | fail) only [push_cast, simprocAttr, szR]))) | (refine Nxt_id ?_; refine Nxt.mk [0,1] (⟨(i + 1, B), by omega, hB.done (by omega) (by omega) (by rw [hns]; omega)⟩) rfl (by unfold szR; (try simp only [List.cons_append, List.nil_append]); refine Sub.mk2 ?_; (simp -dsimp (disch := first | exact vD | fail) only [push_cast, simprocAttr, hns, hv1, hn, List.set_set]); (repeat (refine aI ?_)); (first | done | (first | exact vI | fail)); done) (by first | omega | (simp; done) | (simp; omega))) | (refine AC_seq ?_) | (refine AC_region_lit ?_) | ((first | refine AL_go rfl (fun K hK => ?_) | refine AL_go0 (fun K hK => ?_) | refine DG_run (fun K hK => ?_)); (first | refine R_move _ ?_ | refine R_assign _ ?_ | refine Q_load _ _ ?_ | refine Q_loadAgg _ _ ?_ | refine Q_fieldAddr _ _ _ ?_ | refine Q_indexAddr _ _ _ ?_ | refine Q_indexArr _ _ _ ?_ | refine Q_len _ _ ?_ | refine Q_lenStr _ _ ?_ | refine Q_pick _ _ _ ?_ | refine Q_box _ _ ?_ | refine R_alloc _ ?_ | refine Q_store _ _ _ ?_ | refine Q_makeSlice _ _ _ ?_ | refine Q_min _ _ _ _ ?_ | refine Q_eqAgg _ _ _ _ ?_ | refine Q_neqAgg _ _ _ _ ?_ | refine Q_neqSelf _ _ _ _ ?_ | refine Q_bin _ _ _ _ _ ?_); simp -dsimp (disch := first | exact vD | fail) only [push_cast, simprocAttr, hns, hv1, hn, List.set_set]; (repeat (refine aI ?_)); (first | refine hK _ _ _ ?_ | refine hK _ _ ?_); clear hK K) | ((first | refine AL_guard rfl rfl (fun K1 K2 h1 h2 => ?_) rfl | refine AC_cond_k (fun K1 K2 h1 h2 => ?_) | refine DG_guard rfl rfl (fun K1 K2 h1 h2 => ?_)); simp -dsimp (disch := first | exact vD | fail) only [push_cast, simprocAttr, hns, hv1, hn, List.set_set]; (first | (refine ⟨fun hc => ?_, fun hc => ?_⟩ <;> first | (exfalso; omega) | (exfalso; contradiction) | refine h1 ?_ | refine h2 ?_) | refine h1 ?_ | refine h2 ?_); all_goals clear h1 h2 K1 K2) | (refine AC_draw (id := 12) (by kernel_rfl) [⟨0, [], [53, 54, 55, 56, 57, 58, 59, 60, 61, 62, 63, 64, 65, 66, 67], [], [], 0⟩, ⟨1, [], [52, 54, 55, 56, 57, 58, 59, 60, 61, 62, 63, 64, 65, 66, 67], [], [], 0⟩, ⟨2, [], [52, 53, 55, 58, 59, 60, 61, 62, 63, 64, 65], [], [], 0⟩, ⟨3, [], [52, 53, 54, 58, 59, 60, 61, 62, 63, 64, 65], [], [], 0⟩, ⟨4, [2, 3], [52, 53, 58, 59, 60, 61, 62, 63, 64, 65], [], [], 0⟩, ⟨5, [2, 3, 4], [52, 53, 58, 59, 60, 61, 62, 63, 64, 65], [], [], 0⟩, ⟨6, [], [52, 53, 54, 55, 56, 57, 59, 60, 61, 62, 63], [], [], 0⟩, ⟨7, [], [52, 53, 54, 55, 56, 57, 58, 61], [], [], 0⟩, ⟨8, [7], [52, 53, 54, 55, 56, 57, 58, 61], [], [], 0⟩, ⟨9, [], [52, 53, 54, 55, 56, 57, 58, 59, 60], [], [], 0⟩, ⟨10, [7, 8, 9], [52, 53, 54, 55, 56, 57, 58], [], [], 0⟩, ⟨11, [7, 8, 9, 10], [52, 53, 54, 55, 56, 57, 58], [], [], 0⟩, ⟨12, [6, 7, 8, 9, 10, 11], [52, 53, 54, 55, 56, 57], [], [], 0⟩, ⟨13, [6, 7, 8, 9, 10, 11, 12], [52, 53, 54, 55, 56, 57], [], [], 0⟩, ⟨14, [2, 3, 4, 5, 6, 7, 8, 9, 10, 11, 12, 13], [52, 53], [], [], 0⟩, ⟨15, [2, 3, 4, 5, 6, 7, 8, 9, 10, 11, 12, 13, 14], [52, 53], [], [], 0⟩, ⟨16, [0, 1, 2, 3, 4, 5, 6, 7, 8, 9, 10, 11, 12, 13, 14, 15], [], [], [], 0⟩, ⟨17, [0, 1, 2, 3, 4, 5, 6, 7, 8, 9, 10, 11, 12, 13, 14, 15, 16], [], [], [2], 0⟩] (by kernel_rfl) (by kernel_rfl) (by kernel_rfl) ?_) | ((first | refine DG_next' (by kernel_rfl) (fun K hK => ?_) | refine DG_nil (by kernel_rfl) (fun K hK => ?_)); simp only [↓Go.Sy.dsnE_some, ↓Go.Sy.dsnE_none, ↓Go.Sy.dsnE_nil, ↓Go.Sy.dsnO_snoc, ↓Go.Sy.dsnO_nil, ↓Go.Sy.nidAt_snoc, ↓Go.Sy.nidAt_nil, push_cast, Nat.reduceLeDiff, Nat.reduceSub, Nat.reduceBEq, Nat.reduceEqDiff, Nat.reduceAdd, Nat.reduceLT, ↓reduceIte, reduceCtorEq]; refine hK _ _ _ ?_; clear hK K) | (refine DG_go ?_) | (refine AL_nil ?_) | (refine Thn_normal ?_) | (refine Thn_ret ?_) | (refine Thn_exit ?_) | (refine Blk_normal ?_) | (refine Blk_ret ?_) | (refine Blk_here ?_) | (refine Blk_other rfl ?_) | (refine AC_block ?_) | (refine AC_exit ?_) | (refine AC_skip ?_) | (refine AC_ret ?_))
  all_goals (have ei : i = n := (by omega); subst ei; have e := sizes_end hA hn; subst e; ((refine Ends.frz 1 ?_; simp -dsimp (disch := first | exact vD | fail) only [push_cast, simprocAttr, Tryd.f80]; (repeat (refine aI ?_)); intro K hK; refine hK _ _ ?_; clear hK K); refine Ends.mk2 (by first | exact .inr rfl | exact .inl rfl) [] ?_; simp -dsimp (disch := first | exact vD | fail) only [push_cast, simprocAttr, Tryd.f80]; (repeat (refine aI ?_)); try (first | exact vI | fail)))
end Go.Proofs.YtgnkcohlfdddnaaDoor
