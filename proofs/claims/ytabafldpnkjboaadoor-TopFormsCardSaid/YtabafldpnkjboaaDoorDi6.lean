/- Diagrams: the program's server, accepts, ordered. No condition. -/
import Derived.Test.YtabafldpnkjboaaDoorDi4
set_option linter.unusedVariables false
set_option linter.unusedSectionVars false
set_option linter.unusedSimpArgs false
set_option maxHeartbeats 4000000
set_option maxRecDepth 20000
namespace Go.Proofs.YtabafldpnkjboaaDoor
open Go Go.Sy Go.Dg
attribute [local irreducible] AO AL AC OpT ACall Ends DGo DRun Thn Blk Nxt
variable {N N' N1 N2 T : Nat} {F F1 F2 G : List Fo} {L L' : List Fk} {v lo hi n k k1 k2 k' i m s t a b r : Nat} {p q p' q' : Int} {z z' : Bool} {x y : Fk}
theorem server_lt (hr : r < 2) : ACall Tryd.prog 52 [.agg [.val (.int .i64 n), .isl z (cR F) N, .val (.int .i64 q)], .val (.int .i64 r)] [] 0 (.val (.int .i64 n)) [] := by
  refine ACall.enter Tryd.func52 rfl (by simp [Tryd.ntmps52]) (by simp) ?_; simp only [entry, idx, Tryd.ntmps52, List.length, List.map_cons, List.map_nil, List.append_nil, List.cons_append, List.nil_append, Nat.reduceAdd, Nat.zero_add, List.length_cons, List.length_nil]
  repeat' (first | apply AC_seq | apply AC_region_lit | ((first | refine AL_go rfl (fun K hK => ?_) | refine AL_go0 (fun K hK => ?_)); (first | apply R_move | apply R_assign | apply Q_load | apply Q_loadAgg | apply Q_fieldAddr | apply Q_indexAddr | apply Q_indexArr | apply Q_box | apply Q_bin); simp -dsimp (disch := try exact vD) only [push_cast, simprocAttr]; (repeat refine aI ?_); apply hK; clear hK K) | ((first | refine AL_guard rfl rfl (fun K1 K2 h1 h2 => ?_) rfl | refine AC_cond_k (fun K1 K2 h1 h2 => ?_)); simp -dsimp (disch := try exact vD) only [push_cast, simprocAttr]; (first | (refine ⟨fun hc => ?_, fun hc => ?_⟩ <;> first | (exfalso; omega) | (exfalso; contradiction) | refine h1 ?_ | refine h2 ?_) | refine h1 ?_ | refine h2 ?_); all_goals clear h1 h2 K1 K2) | apply AL_nil | apply Thn_normal | apply Thn_ret | apply Thn_exit | apply Blk_normal | apply Blk_ret | apply Blk_here | (refine Blk_other rfl ?_) | apply AC_block | apply AC_exit | apply AC_skip | apply AC_ret)
  all_goals ((refine Ends.mk2 (by first | exact .inr rfl | exact .inl rfl) [] ?_; simp -dsimp (disch := try exact vD) only [push_cast, simprocAttr, Tryd.f52]; (repeat refine aI ?_); try (first | exact vI | fail)))
theorem server_ge (hN : F.length = N) (hN2 : N < 2 ^ 40) (hk : k < N) : ACall Tryd.prog 52 [.agg [.val (.int .i64 n), .isl z (cR F) N, .val (.int .i64 q)], .val (.int .i64 ((k : Int) + 1 + 1))] [] 0 (.val (.int .i64 (F.getD k default).v)) [] := by
  have hg : ¬ (k : Int) + 1 + 1 < 2 := by omega
  refine ACall.enter Tryd.func52 rfl (by simp [Tryd.ntmps52]) (by simp) ?_; simp only [entry, idx, Tryd.ntmps52, List.length, List.map_cons, List.map_nil, List.append_nil, List.cons_append, List.nil_append, Nat.reduceAdd, Nat.zero_add, List.length_cons, List.length_nil]
  repeat' (first | apply AC_seq | apply AC_region_lit | ((first | refine AL_go rfl (fun K hK => ?_) | refine AL_go0 (fun K hK => ?_)); (first | apply R_move | apply R_assign | apply Q_load | apply Q_loadAgg | apply Q_fieldAddr | apply Q_indexAddr | apply Q_indexArr | apply Q_box | apply Q_bin); simp -dsimp (disch := try exact vD) only [push_cast, simprocAttr, hg, sub12, fo_cells]; (repeat refine aI ?_); apply hK; clear hK K) | ((first | refine AL_guard rfl rfl (fun K1 K2 h1 h2 => ?_) rfl | refine AC_cond_k (fun K1 K2 h1 h2 => ?_)); simp -dsimp (disch := try exact vD) only [push_cast, simprocAttr, hg, sub12, fo_cells]; (first | (refine ⟨fun hc => ?_, fun hc => ?_⟩ <;> first | (exfalso; omega) | (exfalso; contradiction) | refine h1 ?_ | refine h2 ?_) | refine h1 ?_ | refine h2 ?_); all_goals clear h1 h2 K1 K2) | apply AL_nil | apply Thn_normal | apply Thn_ret | apply Thn_exit | apply Blk_normal | apply Blk_ret | apply Blk_here | (refine Blk_other rfl ?_) | apply AC_block | apply AC_exit | apply AC_skip | apply AC_ret)
  all_goals ((refine Ends.mk2 (by first | exact .inr rfl | exact .inl rfl) [] ?_; simp -dsimp (disch := try exact vD) only [push_cast, simprocAttr, Tryd.f52]; (repeat refine aI ?_); try (first | exact vI | fail)))
theorem server_ok (hN : F.length = N) (hN2 : N < 2 ^ 40) (hr : r < N + 2) : ACall Tryd.prog 52 [.agg [.val (.int .i64 n), .isl z (cR F) N, .val (.int .i64 q)], .val (.int .i64 r)] [] 0 (.val (.int .i64 (srvF n F r))) [] := by
  unfold srvF
  by_cases h : r < 2
  · rw [if_pos h]; exact server_lt h
  · rw [if_neg h]
    obtain ⟨k, rfl⟩ : ∃ k, r = k + 2 := ⟨r - 2, by omega⟩
    have := server_ge (z := z) (n := n) (q := q) hN hN2 (show k < N by omega)
    rw [Nat.add_sub_cancel]
    have e : ((k + 2 : Nat) : Int) = (k : Int) + 1 + 1 := by omega
    rw [e]; exact this
def acI (z : Bool) (p q : Int) (F : List Fo) (N t : Nat) (v : Bool) (r : {r : Nat // valN F t r = v ∧ r < N + 2}) : St :=
  ⟨29, 0, [(1,.val (.int .u16 (U t))), (2,.pt 0 0), (5,.val (.int .i64 r.val))], [(0, some (.cells [.val (.int .i64 p), .isl z (cR F) N, .val (.int .i64 q)] 37))]⟩
theorem accepts_ok (hb : Bnd F) (h16 : ∀ k, k < F.length → (F.getD k default).v < 16) (hN : F.length = N) (hN2 : N < 2 ^ 40) (hr : r < N + 2) (ht : t < 65536) : ACall Tryd.prog 34 [.agg [.val (.int .i64 p), .isl z (cR F) N, .val (.int .i64 r)], .val (.int .u16 (U t))] [] 0 (.val (.bool (valN F t r))) [] := by
  have hx := dmy_def; have hy := dmy_def
  generalize hv : valN F t r = v
  refine ACall.enter Tryd.func34 rfl (by simp [Tryd.ntmps34]) (by simp) ?_; simp only [entry, idx, Tryd.ntmps34, List.length, List.map_cons, List.map_nil, List.append_nil, List.cons_append, List.nil_append, Nat.reduceAdd, Nat.zero_add, List.length_cons, List.length_nil]
  repeat' (first | (refine AC_loop_id ?_; refine AC_loop' [0] ([0].length) (acI z p r F N t v) (fun r => r.val) (⟨r, hv, hr⟩) rfl (by unfold acI; (try simp only [List.cons_append, List.nil_append]); refine Sub.mk2 ?_; (simp -dsimp (disch := try exact vD) only [push_cast, simprocAttr, hx, hy, fo_cells, sub12, ne12]); (repeat refine aI ?_); first | done | exact vI) ?_; (rintro ⟨r1, hv1, hr1⟩; rcases Nat.lt_or_ge r1 2 with h2 | h2 <;> first | (have hh : 2 ≤ r1 := h2; obtain ⟨k, rfl⟩ : ∃ k, r1 = k + 2 := ⟨r1 - 2, by omega⟩; have hbk : (F.getD k default).lo < k + 2 ∧ (F.getD k default).hi < k + 2 := hb k (by omega); have h16k := h16 k (by omega); rcases Bool.eq_false_or_eq_true (bit t (F.getD k default).v) with hy | hy <;> (simp -dsimp (disch := try exact vD) only [push_cast, simprocAttr, acI])) | (simp -dsimp (disch := try exact vD) only [push_cast, simprocAttr, acI]))) | (refine Nxt_id ?_; refine Nxt.mk [0] (⟨(F.getD k default).hi, by rw [← hv1, valN_geB (r := k + 2) hb (by omega) (by omega), Nat.add_sub_cancel, ← bit_tb ht, hy]; rfl, by omega⟩) rfl (by unfold acI; (try simp only [List.cons_append, List.nil_append]); refine Sub.mk2 ?_; (simp -dsimp (disch := try exact vD) only [push_cast, simprocAttr, hx, hy, fo_cells, sub12, ne12]); (repeat refine aI ?_); first | done | exact vI) (by first | omega | (dsimp only; omega) | (simp; done) | (simp; omega))) | (refine Nxt_id ?_; refine Nxt.mk [0] (⟨(F.getD k default).lo, by rw [← hv1, valN_geB (r := k + 2) hb (by omega) (by omega), Nat.add_sub_cancel, ← bit_tb ht, hy]; rfl, by omega⟩) rfl (by unfold acI; (try simp only [List.cons_append, List.nil_append]); refine Sub.mk2 ?_; (simp -dsimp (disch := try exact vD) only [push_cast, simprocAttr, hx, hy, fo_cells, sub12, ne12]); (repeat refine aI ?_); first | done | exact vI) (by first | omega | (dsimp only; omega) | (simp; done) | (simp; omega))) | apply AC_seq | apply AC_region_lit | ((first | refine AL_go rfl (fun K hK => ?_) | refine AL_go0 (fun K hK => ?_)); (first | apply R_move | apply R_assign | apply Q_load | apply Q_loadAgg | apply Q_fieldAddr | apply Q_indexAddr | apply Q_indexArr | apply Q_box | apply R_alloc | apply Q_store | apply Q_eqAgg | apply Q_neqAgg | apply Q_neqSelf | apply Q_bin); simp -dsimp (disch := try exact vD) only [push_cast, simprocAttr, hx, hy, fo_cells, sub12, ne12]; (repeat refine aI ?_); apply hK; clear hK K) | ((first | refine AL_guard rfl rfl (fun K1 K2 h1 h2 => ?_) rfl | refine AC_cond_k (fun K1 K2 h1 h2 => ?_)); simp -dsimp (disch := try exact vD) only [push_cast, simprocAttr, hx, hy, fo_cells, sub12, ne12]; (first | (refine ⟨fun hc => ?_, fun hc => ?_⟩ <;> first | (exfalso; omega) | (exfalso; contradiction) | refine h1 ?_ | refine h2 ?_) | refine h1 ?_ | refine h2 ?_); all_goals clear h1 h2 K1 K2) | apply AL_nil | apply Thn_normal | apply Thn_ret | apply Thn_exit | apply Blk_normal | apply Blk_ret | apply Blk_here | (refine Blk_other rfl ?_) | apply AC_block | apply AC_exit | apply AC_skip | apply AC_ret)
  all_goals first
    | (have e : v = decide ((r1 : Int) = 1) := (by rw [← hv1, valN_lt (by omega)]; exact decide_eq_decide.2 ⟨fun h => by omega, fun h => by omega⟩); rw [e]; (refine Ends.mk2 (by first | exact .inr rfl | exact .inl rfl) [] ?_; simp -dsimp (disch := try exact vD) only [push_cast, simprocAttr, Tryd.f34]; (repeat refine aI ?_); try (first | exact vI | fail)); done)
    | trace_state
def seenM (F : List Fo) (i : Nat) : List (List Int × AV) := (F.take i).map fun f => ([(f.v : Int), (f.lo : Int), (f.hi : Int)], .val (.bool true))
theorem seen_pv : PV (seenM F i) := fun x hx => by
  obtain ⟨f, _, rfl⟩ := List.mem_map.1 hx
  exact ⟨_, rfl⟩
theorem seen_ren {τ : Nat → Nat} : ((seenM F i).map fun x => (x.1, ren τ x.2)) = seenM F i := seen_pv.id fun v => by simp [ren]
theorem seen_bnd {j : Nat} : (∀ x ∈ seenM F i, bnd j x.2) = True := seen_pv.all fun v => by simp [bnd]
attribute [push_cast] seen_ren seen_bnd
theorem seen_none (hnd : F.Nodup) (hi : i < F.length) : assoc (seenM F i) [((F.getD i default).v : Int), ((F.getD i default).lo : Int), ((F.getD i default).hi : Int)] = none := by
  have key : ∀ l : List Fo, (∀ f ∈ l, ¬ f = F.getD i default) → assoc (l.map fun f => ([(f.v : Int), (f.lo : Int), (f.hi : Int)], AV.val (.bool true))) [((F.getD i default).v : Int), ((F.getD i default).lo : Int), ((F.getD i default).hi : Int)] = none := by
    intro l
    induction l with
    | nil => intro _; rfl
    | cons f l ih =>
      intro h
      rw [List.map_cons]
      simp only [assoc]
      rw [if_neg, ih fun g hg => h g (List.mem_cons_of_mem _ hg)]
      intro e
      refine h f (List.mem_cons_self ..) ?_
      generalize F.getD i default = g at e
      cases f; cases g
      simp only [List.cons.injEq, and_true] at e
      simp only [Fo.mk.injEq]
      omega
  refine key _ fun f hf e => ?_
  obtain ⟨j, hj, rfl⟩ := List.getElem_of_mem hf
  have hj2 : j < i ∧ j < F.length := by simp at hj; omega
  rw [List.getElem_take] at e
  have e3 : F.getD i default = F[i] := by simp [List.getD_eq_getElem?_getD, hi]
  rw [e3] at e
  have u1 := hnd.idxOf_getElem j hj2.2
  have u2 := hnd.idxOf_getElem i hi
  rw [e, u2] at u1
  omega
theorem seen_put (hnd : F.Nodup) (hi : i < F.length) : putM (seenM F i) [((F.getD i default).v : Int), ((F.getD i default).lo : Int), ((F.getD i default).hi : Int)] (.val (.bool true)) = seenM F (i + 1) := by
  rw [put_new _ _ _ (seen_none hnd hi)]
  unfold seenM
  rw [take_s hi, List.map_append]; rfl
theorem seen_0 : seenM F 0 = [] := rfl
def orI (z : Bool) (n : Nat) (q : Int) (F : List Fo) (N : Nat) (i : {i : Nat // i ≤ N}) : St :=
  ⟨80, 0, [(1,.pt 0 0), (3,.mp 1), (8,.isl z (cR F) N), (9,.val (.int .i64 N)), (10,.val (.int .i64 i.val))], [(0, some (.cells [.val (.int .i64 n), .isl z (cR F) N, .val (.int .i64 q)] 37)), (1, some (.map true 3 (seenM F i.val)))]⟩
theorem ordered_0 (hg : Go.Dg.Good n F) (hN : F.length = N) (hN2 : N < 2 ^ 40) : ACall Tryd.prog 61 [.agg [.val (.int .i64 n), .isl z (cR F) N, .val (.int .i64 q)]] [] 0 (.val (.bool true)) [] := by
  have hsv := fun (r : Nat) (hr : r < N + 2) => PLift.up (server_ok (z := z) (n := n) (q := q) hN hN2 hr)
  have hsn := dmy_def; have hsp := dmy_def
  refine ACall.enter Tryd.func61 rfl (by simp [Tryd.ntmps61]) (by simp) ?_; simp only [entry, idx, Tryd.ntmps61, List.length, List.map_cons, List.map_nil, List.append_nil, List.cons_append, List.nil_append, Nat.reduceAdd, Nat.zero_add, List.length_cons, List.length_nil]
  repeat' (first | (refine AC_loop_id ?_; refine AC_loop' [0, 1] ([0, 1].length) (orI z n q F N) (fun i => N - i.val) (⟨0, by omega⟩) rfl (by unfold orI; (try simp only [List.cons_append, List.nil_append]); refine Sub.mk2 ?_; (simp -dsimp (disch := try exact vD) only [push_cast, simprocAttr, hsn, hsp, fo_cells, seen_0]); (repeat refine aI ?_); first | done | exact vI) ?_; (rintro ⟨i, hi⟩; rcases Nat.lt_or_eq_of_le hi with hil | hil <;> first | (have ei : N = i := hil.symm; subst ei; (simp -dsimp (disch := try exact vD) only [push_cast, simprocAttr, orI])) | (have ho := hg.ok i (by omega); have o1 := ho.v; have o2 := ho.lo; have o3 := ho.hi; have o4 := ho.ne; have o5 := ho.sl; have o6 := ho.sh; clear ho; have hsn := seen_none hg.nd (show i < F.length by omega); have hsp := seen_put hg.nd (show i < F.length by omega); (simp -dsimp (disch := try exact vD) only [push_cast, simprocAttr, orI])))) | (refine Nxt_id ?_; refine Nxt.mk [0, 1] (⟨i + 1, by omega⟩) rfl (by unfold orI; (try simp only [List.cons_append, List.nil_append]); refine Sub.mk2 ?_; (simp -dsimp (disch := try exact vD) only [push_cast, simprocAttr, hsn, hsp, fo_cells, seen_0]); (repeat refine aI ?_); first | done | exact vI) (by first | omega | (dsimp only; omega) | (simp; done) | (simp; omega))) | apply AC_seq | apply AC_region_lit | ((first | refine AL_go rfl (fun K hK => ?_) | refine AL_go0 (fun K hK => ?_) | refine DG_run (fun K hK => ?_)); (first | refine R_callG (f := 52) (dst := some 64) [] 0 false ?_ | refine R_callG (f := 52) (dst := some 72) [] 0 false ?_); simp -dsimp (disch := try exact vD) only [push_cast, simprocAttr, hsn, hsp, fo_cells, seen_0]; (repeat refine aI ?_); intro G hG; refine hG _ _ ?_; clear hG G; (first | refine ⟨_, _, (hsv (F.getD i default).lo (by omega)).down, ?_⟩ | refine ⟨_, _, (hsv (F.getD i default).hi (by omega)).down, ?_⟩); simp -dsimp (disch := try exact vD) only [push_cast, simprocAttr, hsn, hsp, fo_cells, seen_0]; (repeat refine aI ?_); apply hK; clear hK K) | ((first | refine AL_go rfl (fun K hK => ?_) | refine AL_go0 (fun K hK => ?_) | refine DG_run (fun K hK => ?_)); (first | apply R_move | apply R_assign | apply Q_load | apply Q_loadAgg | apply Q_fieldAddr | apply Q_indexAddr | apply Q_indexArr | apply Q_len | apply Q_lenStr | apply Q_pick | apply Q_box | apply R_alloc | apply Q_store | apply Q_makeMap | apply Q_lookup | apply Q_lookupOk | apply Q_mapUpdate | apply Q_eqAgg | apply Q_neqAgg | apply Q_neqSelf | apply Q_bin); simp -dsimp (disch := try exact vD) only [push_cast, simprocAttr, hsn, hsp, fo_cells, seen_0]; (repeat refine aI ?_); apply hK; clear hK K) | ((first | refine AL_guard rfl rfl (fun K1 K2 h1 h2 => ?_) rfl | refine AC_cond_k (fun K1 K2 h1 h2 => ?_) | refine DG_guard rfl rfl (fun K1 K2 h1 h2 => ?_)); simp -dsimp (disch := try exact vD) only [push_cast, simprocAttr, hsn, hsp, fo_cells, seen_0]; (first | (refine ⟨fun hc => ?_, fun hc => ?_⟩ <;> first | (exfalso; omega) | (exfalso; contradiction) | refine h1 ?_ | refine h2 ?_) | refine h1 ?_ | refine h2 ?_); all_goals clear h1 h2 K1 K2) | (refine AC_draw (id := 7) (by kernel_rfl) [⟨0, [], [62, 63, 65, 66], [], [], 0⟩, ⟨1, [], [61, 65, 66], [], [], 0⟩, ⟨2, [1], [61, 65, 66], [], [], 0⟩, ⟨3, [0, 1, 2], [65, 66], [], [], 0⟩, ⟨4, [], [61, 62, 63, 64], [], [], 0⟩, ⟨5, [4], [61, 62, 63, 64], [], [], 0⟩, ⟨6, [0, 1, 2, 3, 4, 5], [], [], [], 0⟩, ⟨7, [0, 1, 2, 3, 4, 5, 6], [], [], [], 0⟩, ⟨8, [0, 1, 2, 3, 4, 5, 6, 7], [70, 71, 73, 74], [], [], 0⟩, ⟨9, [0, 1, 2, 3, 4, 5, 6, 7], [69, 73, 74], [], [], 0⟩, ⟨10, [0, 1, 2, 3, 4, 5, 6, 7, 9], [69, 73, 74], [], [], 0⟩, ⟨11, [0, 1, 2, 3, 4, 5, 6, 7, 8, 9, 10], [73, 74], [], [], 0⟩, ⟨12, [0, 1, 2, 3, 4, 5, 6, 7], [69, 70, 71, 72], [], [], 0⟩, ⟨13, [0, 1, 2, 3, 4, 5, 6, 7, 12], [69, 70, 71, 72], [], [], 0⟩, ⟨14, [0, 1, 2, 3, 4, 5, 6, 7, 8, 9, 10, 11, 12, 13], [], [], [], 0⟩, ⟨15, [0, 1, 2, 3, 4, 5, 6, 7, 8, 9, 10, 11, 12, 13, 14], [], [], [], 0⟩] (by kernel_rfl) (by kernel_rfl) (by kernel_rfl) ?_) | ((first | refine DG_next' (by kernel_rfl) (fun K hK => ?_) | refine DG_nil (by kernel_rfl) (fun K hK => ?_)); simp only [↓Go.Sy.dsnE_some, ↓Go.Sy.dsnE_none, ↓Go.Sy.dsnE_nil, ↓Go.Sy.dsnO_snoc, ↓Go.Sy.dsnO_nil, ↓Go.Sy.nidAt_snoc, ↓Go.Sy.nidAt_nil, push_cast, Nat.reduceLeDiff, Nat.reduceSub, Nat.reduceBEq, Nat.reduceEqDiff, Nat.reduceAdd, Nat.reduceLT, ↓reduceIte, reduceCtorEq]; refine hK _ _ _ ?_; clear hK K) | apply DG_go | apply AL_nil | apply Thn_normal | apply Thn_ret | apply Thn_exit | apply Blk_normal | apply Blk_ret | apply Blk_here | (refine Blk_other rfl ?_) | apply AC_block | apply AC_exit | apply AC_skip | apply AC_ret)
  all_goals first
    | ((refine Ends.mk2 (by first | exact .inr rfl | exact .inl rfl) [] ?_; simp -dsimp (disch := try exact vD) only [push_cast, simprocAttr, Tryd.f61]; (repeat refine aI ?_); try (first | exact vI | fail)); done)
    | trace_state
end Go.Proofs.YtabafldpnkjboaaDoor
