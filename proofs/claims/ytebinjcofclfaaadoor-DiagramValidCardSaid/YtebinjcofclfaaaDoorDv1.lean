/- Diagrams, any: the program's server and ordered. No condition. -/
import Derived.Test.YtebinjcofclfaaaDoorDi7
set_option linter.unusedVariables false
set_option linter.unusedSectionVars false
set_option linter.unusedSimpArgs false
set_option maxHeartbeats 4000000
set_option maxRecDepth 20000
namespace Go.Proofs.YtebinjcofclfaaaDoor
open Go Go.Sy Go.Dg
attribute [local irreducible] AO AL AC OpT ACall Ends DGo DRun Thn Blk Nxt
variable {N N' N1 N2 T : Nat} {F F1 F2 G : List Fo} {L L' : List Fk} {k k1 k2 k' i m s t a j r : Nat} {p q n v lo hi : Int} {z b : Bool} {x y : Fk}
def srvI (n : Int) (L : List Fk) (r : Int) : Int := if r < 2 then n else (L.getD (r.toNat - 2) default).v
theorem serverI_lt (h : r < 2) : ACall Tryd.prog 43 [.agg [.val (.int .i64 n), .isl z (cR L) N, .val (.int .i64 q)], .val (.int .i64 r)] [] 0 (.val (.int .i64 n)) [] := by
  refine ACall.enter Tryd.func43 rfl (by simp [Tryd.ntmps43]) (by simp) ?_; simp only [entry, idx, Tryd.ntmps43, List.length, List.map_cons, List.map_nil, List.append_nil, List.cons_append, List.nil_append, Nat.reduceAdd, Nat.zero_add, List.length_cons, List.length_nil]
  repeat' (first | apply AC_seq | apply AC_region_lit | ((first | refine AL_go rfl (fun K hK => ?_) | refine AL_go0 (fun K hK => ?_)); (first | apply R_move | apply R_assign | apply Q_load | apply Q_loadAgg | apply Q_fieldAddr | apply Q_indexAddr | apply Q_indexArr | apply Q_box | apply Q_bin); simp -dsimp (disch := try exact vD) only [push_cast, simprocAttr]; (repeat refine aI ?_); apply hK; clear hK K) | ((first | refine AL_guard rfl rfl (fun K1 K2 h1 h2 => ?_) rfl | refine AC_cond_k (fun K1 K2 h1 h2 => ?_)); simp -dsimp (disch := try exact vD) only [push_cast, simprocAttr]; (first | (refine ⟨fun hc => ?_, fun hc => ?_⟩ <;> first | (exfalso; omega) | (exfalso; contradiction) | refine h1 ?_ | refine h2 ?_) | refine h1 ?_ | refine h2 ?_); all_goals clear h1 h2 K1 K2) | apply AL_nil | apply Thn_normal | apply Thn_ret | apply Thn_exit | apply Blk_normal | apply Blk_ret | apply Blk_here | (refine Blk_other rfl ?_) | apply AC_block | apply AC_exit | apply AC_skip | apply AC_ret)
  all_goals ((refine Ends.mk2 (by first | exact .inr rfl | exact .inl rfl) [] ?_; simp -dsimp (disch := try exact vD) only [push_cast, simprocAttr, Tryd.f43]; (repeat refine aI ?_); try (first | exact vI | fail)))
theorem serverI_ge (hN : L.length = N) (hN2 : N < 2 ^ 40) (hk : k < N) : ACall Tryd.prog 43 [.agg [.val (.int .i64 n), .isl z (cR L) N, .val (.int .i64 q)], .val (.int .i64 ((k : Int) + 1 + 1))] [] 0 (.val (.int .i64 (L.getD k default).v)) [] := by
  have hg : ¬ (k : Int) + 1 + 1 < 2 := by omega
  refine ACall.enter Tryd.func43 rfl (by simp [Tryd.ntmps43]) (by simp) ?_; simp only [entry, idx, Tryd.ntmps43, List.length, List.map_cons, List.map_nil, List.append_nil, List.cons_append, List.nil_append, Nat.reduceAdd, Nat.zero_add, List.length_cons, List.length_nil]
  repeat' (first | apply AC_seq | apply AC_region_lit | ((first | refine AL_go rfl (fun K hK => ?_) | refine AL_go0 (fun K hK => ?_)); (first | apply R_move | apply R_assign | apply Q_load | apply Q_loadAgg | apply Q_fieldAddr | apply Q_indexAddr | apply Q_indexArr | apply Q_box | apply Q_bin); simp -dsimp (disch := try exact vD) only [push_cast, simprocAttr, hg, sub12, fk_cells]; (repeat refine aI ?_); apply hK; clear hK K) | ((first | refine AL_guard rfl rfl (fun K1 K2 h1 h2 => ?_) rfl | refine AC_cond_k (fun K1 K2 h1 h2 => ?_)); simp -dsimp (disch := try exact vD) only [push_cast, simprocAttr, hg, sub12, fk_cells]; (first | (refine ⟨fun hc => ?_, fun hc => ?_⟩ <;> first | (exfalso; omega) | (exfalso; contradiction) | refine h1 ?_ | refine h2 ?_) | refine h1 ?_ | refine h2 ?_); all_goals clear h1 h2 K1 K2) | apply AL_nil | apply Thn_normal | apply Thn_ret | apply Thn_exit | apply Blk_normal | apply Blk_ret | apply Blk_here | (refine Blk_other rfl ?_) | apply AC_block | apply AC_exit | apply AC_skip | apply AC_ret)
  all_goals ((refine Ends.mk2 (by first | exact .inr rfl | exact .inl rfl) [] ?_; simp -dsimp (disch := try exact vD) only [push_cast, simprocAttr, Tryd.f43]; (repeat refine aI ?_); try (first | exact vI | fail)))
theorem serverI_ok (hN : L.length = N) (hN2 : N < 2 ^ 40) {r : Int} (h0 : 0 ≤ r) (hr : r < N + 2) : ACall Tryd.prog 43 [.agg [.val (.int .i64 n), .isl z (cR L) N, .val (.int .i64 q)], .val (.int .i64 r)] [] 0 (.val (.int .i64 (srvI n L r))) [] := by
  obtain ⟨c, rfl⟩ := Int.eq_ofNat_of_zero_le h0
  unfold srvI
  by_cases h : c < 2
  · rw [if_pos (by omega)]; exact serverI_lt h
  · rw [if_neg (by omega)]
    obtain ⟨k, rfl⟩ : ∃ k, c = k + 2 := ⟨c - 2, by omega⟩
    have := serverI_ge (z := z) (n := n) (q := q) hN hN2 (show k < N by omega)
    have e : ((k + 2 : Nat) : Int) = (k : Int) + 1 + 1 := by omega
    rw [show ((k + 2 : Nat) : Int).toNat - 2 = k by omega, e]; exact this
structure OkI (n : Int) (L : List Fk) (i : Nat) : Prop where
  v0 : 0 ≤ (L.getD i default).v
  v1 : (L.getD i default).v < n
  l0 : 0 ≤ (L.getD i default).lo
  h0 : 0 ≤ (L.getD i default).hi
  l1 : (L.getD i default).lo < i + 2
  h1 : (L.getD i default).hi < i + 2
  ne : ¬ (L.getD i default).lo = (L.getD i default).hi
  new : ¬ L.getD i default ∈ L.take i
  sl : (L.getD i default).v < srvI n L (L.getD i default).lo
  sh : (L.getD i default).v < srvI n L (L.getD i default).hi
def seenL (L : List Fk) (i : Nat) : List (List Int × AV) := (L.take i).map fun f => ([f.v, f.lo, f.hi], .val (.bool true))
theorem seenL_pv : PV (seenL L i) := fun x hx => by
  obtain ⟨f, _, rfl⟩ := List.mem_map.1 hx
  exact ⟨_, rfl⟩
theorem seenL_ren {τ : Nat → Nat} : ((seenL L i).map fun x => (x.1, ren τ x.2)) = seenL L i := seenL_pv.id fun v => by simp [ren]
theorem seenL_bnd {j : Nat} : (∀ x ∈ seenL L i, bnd j x.2) = True := seenL_pv.all fun v => by simp [bnd]
attribute [push_cast] seenL_ren seenL_bnd
theorem seenL_assoc : ∀ l : List Fk, assoc (l.map fun f => ([f.v, f.lo, f.hi], AV.val (.bool true))) [x.v, x.lo, x.hi] = if x ∈ l then some (.val (.bool true)) else none := by
  intro l
  induction l with
  | nil => rfl
  | cons f l ih =>
    rw [List.map_cons]
    simp only [assoc]
    by_cases e : f = x
    · subst e; simp
    · rw [if_neg (fun hc => e (by cases f; cases x; simpa using hc)), ih]
      by_cases hm : x ∈ l
      · rw [if_pos hm, if_pos (List.mem_cons_of_mem _ hm)]
      · rw [if_neg hm, if_neg (fun h => by
          rcases List.mem_cons.1 h with h | h
          · exact e h.symm
          · exact hm h)]
theorem ktake_s (h : i < L.length) : L.take (i + 1) = L.take i ++ [L.getD i default] := by
  rw [List.take_add_one, List.getD_eq_getElem?_getD, List.getElem?_eq_getElem h]; rfl
theorem seenL_put (hi : i < L.length) (h : ¬ L.getD i default ∈ L.take i) : putM (seenL L i) [(L.getD i default).v, (L.getD i default).lo, (L.getD i default).hi] (.val (.bool true)) = seenL L (i + 1) := by
  have e : assoc (seenL L i) [(L.getD i default).v, (L.getD i default).lo, (L.getD i default).hi] = none := by
    unfold seenL
    rw [seenL_assoc, if_neg h]
  rw [put_new _ _ _ e]
  unfold seenL
  rw [ktake_s hi, List.map_append]; rfl
theorem seenL_0 : seenL L 0 = [] := rfl
def orJ (z : Bool) (n q : Int) (L : List Fk) (N : Nat) (i : {i : Nat // i ≤ N ∧ ∀ j, j < i → OkI n L j}) : St :=
  ⟨80, 0, [(1,.pt 0 0), (3,.mp 1), (8,.isl z (cR L) N), (9,.val (.int .i64 N)), (10,.val (.int .i64 i.val))], [(0, some (.cells [.val (.int .i64 n), .isl z (cR L) N, .val (.int .i64 q)] 28)), (1, some (.map true 3 (seenL L i.val)))]⟩
theorem orderedI (hN : L.length = N) (hN2 : N < 2 ^ 40) (hn : n ≤ 100) (hb : b = true ↔ ∀ j, j < N → OkI n L j) : ACall Tryd.prog 46 [.agg [.val (.int .i64 n), .isl z (cR L) N, .val (.int .i64 q)]] [] 0 (.val (.bool b)) [] := by
  have hsv := fun (r : Int) (h0 : 0 ≤ r) (hr : r < N + 2) => PLift.up (serverI_ok (z := z) (n := n) (q := q) hN hN2 h0 hr)
  have hz : 0 ≤ N ∧ ∀ j, j < 0 → OkI n L j := ⟨Nat.zero_le _, fun j hj => absurd hj (by omega)⟩
  have hsn := dmy_def; have hsp := dmy_def; have hxe := dmy_def
  have hput := PLift.up (fun (i : Nat) (h : i < N) => seenL_put (L := L) (i := i) (by omega))
  refine ACall.enter Tryd.func46 rfl (by simp [Tryd.ntmps46]) (by simp) ?_; simp only [entry, idx, Tryd.ntmps46, List.length, List.map_cons, List.map_nil, List.append_nil, List.cons_append, List.nil_append, Nat.reduceAdd, Nat.zero_add, List.length_cons, List.length_nil]
  repeat' (first | (refine AC_loop_id ?_; refine AC_loop' [0, 1] ([0, 1].length) (orJ z n q L N) (fun i => N - i.val) (⟨0, hz⟩) rfl (by unfold orJ; (try simp only [List.cons_append, List.nil_append]); refine Sub.mk2 ?_; (simp -dsimp (disch := try exact vD) only [push_cast, simprocAttr, hsn, hsp, hxe, fk_cells, seenL_0]); (repeat refine aI ?_); first | done | exact vI) ?_; (rintro ⟨i, hi1, hok⟩; rcases Nat.lt_or_eq_of_le hi1 with hil | hil <;> first | (have ei : N = i := hil.symm; subst ei; (simp -dsimp (disch := try exact vD) only [push_cast, simprocAttr, orJ])) | (obtain ⟨x, hxe⟩ : ∃ x, L.getD i default = x := ⟨_, rfl⟩; obtain ⟨v, lo, hi⟩ := x; have hsa := seenL_assoc (x := ⟨v, lo, hi⟩) (L.take i); rcases Decidable.em (⟨v, lo, hi⟩ ∈ L.take i) with hm | hm <;> first | (rw [if_pos hm] at hsa; have hsn : assoc (seenL L i) [v, lo, hi] = some (.val (.bool true)) := hsa; (simp -dsimp (disch := try exact vD) only [push_cast, simprocAttr, orJ])) | (rw [if_neg hm] at hsa; have hsn : assoc (seenL L i) [v, lo, hi] = none := hsa; have hsp : putM (seenL L i) [v, lo, hi] (.val (.bool true)) = seenL L (i + 1) := (by have := hput.down i hil; rw [hxe] at this; exact this hm); (simp -dsimp (disch := try exact vD) only [push_cast, simprocAttr, orJ]))))) | (refine Nxt_id ?_; refine Nxt.mk [0, 1] (⟨i + 1, by omega, fun j hj => by rcases Nat.lt_or_eq_of_le (Nat.le_of_lt_succ hj) with h | h; exact hok j h; rw [h]; refine ⟨?_, ?_, ?_, ?_, ?_, ?_, ?_, ?_, ?_, ?_⟩ <;> rw [hxe] <;> first | assumption | omega | (dsimp only; omega)⟩) rfl (by unfold orJ; (try simp only [List.cons_append, List.nil_append]); refine Sub.mk2 ?_; (simp -dsimp (disch := try exact vD) only [push_cast, simprocAttr, hsn, hsp, hxe, fk_cells, seenL_0]); (repeat refine aI ?_); first | done | exact vI) (by first | omega | (dsimp only; omega) | (simp; done) | (simp; omega))) | apply AC_seq | apply AC_region_lit | ((first | refine AL_go rfl (fun K hK => ?_) | refine AL_go0 (fun K hK => ?_) | refine DG_run (fun K hK => ?_)); (first | refine R_callG (f := 43) (dst := some 64) [] 0 false ?_ | refine R_callG (f := 43) (dst := some 72) [] 0 false ?_); simp -dsimp (disch := try exact vD) only [push_cast, simprocAttr, hsn, hsp, hxe, fk_cells, seenL_0]; (repeat refine aI ?_); intro G hG; refine hG _ _ ?_; clear hG G; (first | refine ⟨_, _, (hsv lo (by omega) (by omega)).down, ?_⟩ | refine ⟨_, _, (hsv hi (by omega) (by omega)).down, ?_⟩); simp -dsimp (disch := try exact vD) only [push_cast, simprocAttr, hsn, hsp, hxe, fk_cells, seenL_0]; (repeat refine aI ?_); apply hK; clear hK K) | ((first | refine AL_go rfl (fun K hK => ?_) | refine AL_go0 (fun K hK => ?_) | refine DG_run (fun K hK => ?_)); (first | apply R_move | apply R_assign | apply Q_load | apply Q_loadAgg | apply Q_fieldAddr | apply Q_indexAddr | apply Q_indexArr | apply Q_len | apply Q_lenStr | apply Q_pick | apply Q_box | apply R_alloc | apply Q_store | apply Q_makeMap | apply Q_lookup | apply Q_lookupOk | apply Q_mapUpdate | apply Q_eqAgg | apply Q_neqAgg | apply Q_neqSelf | apply Q_bin); simp -dsimp (disch := try exact vD) only [push_cast, simprocAttr, hsn, hsp, hxe, fk_cells, seenL_0]; (repeat refine aI ?_); apply hK; clear hK K) | ((first | refine AL_guard rfl rfl (fun K1 K2 h1 h2 => ?_) rfl | refine AC_cond_k (fun K1 K2 h1 h2 => ?_) | refine DG_guard rfl rfl (fun K1 K2 h1 h2 => ?_)); simp -dsimp (disch := try exact vD) only [push_cast, simprocAttr, hsn, hsp, hxe, fk_cells, seenL_0]; (first | (refine ⟨fun hc => ?_, fun hc => ?_⟩ <;> first | (exfalso; omega) | (exfalso; contradiction) | refine h1 ?_ | refine h2 ?_) | refine h1 ?_ | refine h2 ?_); all_goals clear h1 h2 K1 K2) | (refine AC_draw (id := 7) (by kernel_rfl) [⟨0, [], [62, 63, 65, 66], [], [], 0⟩, ⟨1, [], [61, 65, 66], [], [], 0⟩, ⟨2, [1], [61, 65, 66], [], [], 0⟩, ⟨3, [0, 1, 2], [65, 66], [], [], 0⟩, ⟨4, [], [61, 62, 63, 64], [], [], 0⟩, ⟨5, [4], [61, 62, 63, 64], [], [], 0⟩, ⟨6, [0, 1, 2, 3, 4, 5], [], [], [], 0⟩, ⟨7, [0, 1, 2, 3, 4, 5, 6], [], [], [], 0⟩, ⟨8, [0, 1, 2, 3, 4, 5, 6, 7], [70, 71, 73, 74], [], [], 0⟩, ⟨9, [0, 1, 2, 3, 4, 5, 6, 7], [69, 73, 74], [], [], 0⟩, ⟨10, [0, 1, 2, 3, 4, 5, 6, 7, 9], [69, 73, 74], [], [], 0⟩, ⟨11, [0, 1, 2, 3, 4, 5, 6, 7, 8, 9, 10], [73, 74], [], [], 0⟩, ⟨12, [0, 1, 2, 3, 4, 5, 6, 7], [69, 70, 71, 72], [], [], 0⟩, ⟨13, [0, 1, 2, 3, 4, 5, 6, 7, 12], [69, 70, 71, 72], [], [], 0⟩, ⟨14, [0, 1, 2, 3, 4, 5, 6, 7, 8, 9, 10, 11, 12, 13], [], [], [], 0⟩, ⟨15, [0, 1, 2, 3, 4, 5, 6, 7, 8, 9, 10, 11, 12, 13, 14], [], [], [], 0⟩] (by kernel_rfl) (by kernel_rfl) (by kernel_rfl) ?_) | ((first | refine DG_next' (by kernel_rfl) (fun K hK => ?_) | refine DG_nil (by kernel_rfl) (fun K hK => ?_)); simp only [↓Go.Sy.dsnE_some, ↓Go.Sy.dsnE_none, ↓Go.Sy.dsnE_nil, ↓Go.Sy.dsnO_snoc, ↓Go.Sy.dsnO_nil, ↓Go.Sy.nidAt_snoc, ↓Go.Sy.nidAt_nil, push_cast, Nat.reduceLeDiff, Nat.reduceSub, Nat.reduceBEq, Nat.reduceEqDiff, Nat.reduceAdd, Nat.reduceLT, ↓reduceIte, reduceCtorEq]; refine hK _ _ _ ?_; clear hK K) | apply DG_go | apply AL_nil | apply Thn_normal | apply Thn_ret | apply Thn_exit | apply Blk_normal | apply Blk_ret | apply Blk_here | (refine Blk_other rfl ?_) | apply AC_block | apply AC_exit | apply AC_skip | apply AC_ret)
  all_goals first
    | (have e : b = true := hb.2 hok; rw [e]; (refine Ends.mk2 (by first | exact .inr rfl | exact .inl rfl) [] ?_; simp -dsimp (disch := try exact vD) only [push_cast, simprocAttr, Tryd.f46]; (repeat refine aI ?_); try (first | exact vI | fail)); done)
    | (have e : b = false := (by rw [Bool.eq_false_iff]; intro hc1; obtain ⟨a1, a2, a3, a4, a5, a6, a7, a8, a9, a10⟩ := hb.1 hc1 i hil; rw [hxe] at a1 a2 a3 a4 a5 a6 a7 a8 a9 a10; dsimp only at a1 a2 a3 a4 a5 a6 a7 a9 a10; first | omega | exact a8 hm); rw [e]; (refine Ends.mk2 (by first | exact .inr rfl | exact .inl rfl) [] ?_; simp -dsimp (disch := try exact vD) only [push_cast, simprocAttr, Tryd.f46]; (repeat refine aI ?_); try (first | exact vI | fail)); done)
    | trace_state
def tof (x : Fk) : Fo := ⟨x.v.toNat, x.lo.toNat, x.hi.toNat⟩
theorem tof_fk (h1 : 0 ≤ x.v) (h2 : 0 ≤ x.lo) (h3 : 0 ≤ x.hi) : fk (tof x) = x := by
  cases x; simp only [fk, tof, Fk.mk.injEq] at *; omega
theorem toF_L (h : ∀ i, i < L.length → 0 ≤ (L.getD i default).v ∧ 0 ≤ (L.getD i default).lo ∧ 0 ≤ (L.getD i default).hi) : (L.map tof).map fk = L := by
  rw [List.map_map]
  conv => rhs; rw [← List.map_id L]
  refine List.map_congr_left fun x hx => ?_
  obtain ⟨i, hi, rfl⟩ := List.getElem_of_mem hx
  have := h i hi
  rw [List.getD_eq_getElem?_getD, List.getElem?_eq_getElem hi] at this
  exact tof_fk this.1 this.2.1 this.2.2
theorem fkL (h : k < F.length) : (F.map fk).getD k default = fk (F.getD k default) := by
  simp [List.getD_eq_getElem?_getD, List.getElem?_eq_getElem h]
theorem srvI_F {m : Nat} (h : r < F.length + 2) : srvI m (F.map fk) r = (srvF m F r : Nat) := by
  unfold srvI srvF
  by_cases h2 : r < 2
  · rw [if_pos (by omega), if_pos h2]
  · rw [if_neg (by omega), if_neg h2, show ((r : Int).toNat - 2) = r - 2 by omega, fkL (by omega)]; rfl
theorem memL_F {f : Fo} {l : List Fo} : fk f ∈ l.map fk ↔ f ∈ l := by
  refine ⟨fun h => ?_, fun h => List.mem_map_of_mem h⟩
  obtain ⟨g, hg, e⟩ := List.mem_map.1 h
  have : g = f := by cases g; cases f; simp only [fk, Fk.mk.injEq] at e; simp only [Fo.mk.injEq]; omega
  rw [← this]; exact hg
theorem good_okI {m : Nat} (hg : Go.Dg.Good m F) (hi : i < F.length) : OkI m (F.map fk) i := by
  have ho := hg.ok i hi
  have h1 := ho.lo; have h2 := ho.hi; have h3 := ho.v; have h4 := ho.ne; have h5 := ho.sl; have h6 := ho.sh
  have e := fkL (F := F) hi
  have e1 := srvI_F (F := F) (m := m) (r := (F.getD i default).lo) (by omega)
  have e2 := srvI_F (F := F) (m := m) (r := (F.getD i default).hi) (by omega)
  refine ⟨?_, ?_, ?_, ?_, ?_, ?_, ?_, ?_, ?_, ?_⟩ <;> rw [e]
  · show 0 ≤ ((F.getD i default).v : Int); omega
  · show ((F.getD i default).v : Int) < m; omega
  · show 0 ≤ ((F.getD i default).lo : Int); omega
  · show 0 ≤ ((F.getD i default).hi : Int); omega
  · show ((F.getD i default).lo : Int) < _; omega
  · show ((F.getD i default).hi : Int) < _; omega
  · show ¬ ((F.getD i default).lo : Int) = ((F.getD i default).hi : Int); omega
  · rw [← List.map_take, memL_F]
    intro hm
    obtain ⟨j, hj, ej⟩ := List.getElem_of_mem hm
    have hj2 : j < i ∧ j < F.length := by rw [List.length_take] at hj; omega
    rw [List.getElem_take] at ej
    have e3 : F.getD i default = F[i] := by simp [List.getD_eq_getElem?_getD, hi]
    rw [e3] at ej
    have u1 := hg.nd.idxOf_getElem j hj2.2
    have u2 := hg.nd.idxOf_getElem i hi
    rw [ej, u2] at u1; omega
  · show ((F.getD i default).v : Int) < srvI m (F.map fk) ((F.getD i default).lo : Int); rw [e1]; omega
  · show ((F.getD i default).v : Int) < srvI m (F.map fk) ((F.getD i default).hi : Int); rw [e2]; omega
theorem okI_good {m : Nat} (h : ∀ i, i < F.length → OkI m (F.map fk) i) : Go.Dg.Good m F := by
  refine ⟨fun k hk => ?_, ?_⟩
  · have o := h k hk
    have e := fkL (F := F) hk
    have a1 := o.v1; have a2 := o.l1; have a3 := o.h1; have a4 := o.ne; have a5 := o.sl; have a6 := o.sh
    rw [e] at a1 a2 a3 a4 a5 a6
    have b1 : ((F.getD k default).v : Int) < m := a1
    have b2 : ((F.getD k default).lo : Int) < k + 2 := a2
    have b3 : ((F.getD k default).hi : Int) < k + 2 := a3
    have b4 : ¬ ((F.getD k default).lo : Int) = ((F.getD k default).hi : Int) := a4
    have b5 : ((F.getD k default).v : Int) < srvI m (F.map fk) ((F.getD k default).lo : Int) := a5
    have b6 : ((F.getD k default).v : Int) < srvI m (F.map fk) ((F.getD k default).hi : Int) := a6
    rw [srvI_F (by omega)] at b5 b6
    exact ⟨by omega, by omega, by omega, by omega, by omega, by omega⟩
  · rw [List.nodup_iff_pairwise_ne, List.pairwise_iff_getElem]
    intro i j hi hj hij e
    have o := (h j hj).new
    rw [fkL hj, ← List.map_take, memL_F] at o
    refine o ?_
    have e3 : F.getD j default = F[j] := by simp [List.getD_eq_getElem?_getD, hj]
    rw [e3, ← e]
    have : F[i] = (F.take j)[i]'(by rw [List.length_take]; omega) := by rw [List.getElem_take]
    rw [this]; exact List.getElem_mem _
end Go.Proofs.YtebinjcofclfaaaDoor
