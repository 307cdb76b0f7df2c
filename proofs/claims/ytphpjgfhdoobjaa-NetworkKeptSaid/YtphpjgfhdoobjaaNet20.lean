/- The network: the law NetworkScript as a call. No condition. -/
import Derived.Test.YtphpjgfhdoobjaaNet17
import Derived.Test.YtphpjgfhdoobjaaNet19
set_option linter.unusedVariables false
set_option linter.unusedSectionVars false
set_option linter.unusedSimpArgs false
set_option maxHeartbeats 8000000
set_option maxRecDepth 20000
namespace Go.Proofs.Ytphpjgfhdoobjaa
open Go Go.Sy
attribute [local irreducible] AO AL AC OpT ACall Ends DGo DRun Thn Blk Nxt
variable {n a b v : Int} {i j k len : Nat} {z z2 : Bool} {m : Msg} {c : Bool} {s : NS} {o : OpN} {l : List Pk} {f : List (List Int × Bool)} {next : Int} {B : List Bool} {L : List OpN}

instance : Cells OpN 6 := ⟨oC, fun _ => rfl, fun _ => rfl, fun _ => rfl⟩
theorem on_cells (o : OpN) : Cells.cells o = oC o := rfl
theorem on_load {l : List OpN} {j : Nat} (h : j < l.length) : ((cR l).drop (j * 6)).take 6 = oC (l.getD j default) := by rw [cR_load h]; rfl
theorem oc_len {o : OpN} : (oC o).length = 6 := rfl
theorem oc_0 {o : OpN} : (oC o)[0]? = some (.val (.int .u8 o.kind)) := rfl
theorem oc_2 {o : OpN} : (oC o)[2]? = some (.val (.int .i8 o.to)) := rfl
theorem oc_take {o : OpN} : (oC o).take 6 = oC o := rfl
theorem oc_spl {o : OpN} {cs : List AV} (h : cs.length = 6) : spl cs 0 (oC o) = oC o := spl_full (by rw [oc_len, h])
theorem oc_put {o : OpN} {cs : List AV} {off : Nat} : putAV cs off (oC o) = spl cs off (oC o) := rfl
theorem oc_fill {o : OpN} {cs : List AV} (h : cs.length = 6) : fillOne cs 0 (oC o) = oC o := by rw [fill_spl (by simp [oc_len, h]), oc_spl h]
theorem oc_all {o : OpN} : (oC o).all AV.scalar = true := rfl
theorem oc_pl (o : OpN) : (oC o).all AV.plain = true := rfl
theorem oc_cl (o : OpN) (x : AV) (hx : x ∈ oC o) : bnd 0 x := plain_bnd x (List.all_eq_true.1 (oc_pl o) x hx)
theorem oc_ren (τ : Nat → Nat) (o : OpN) : (oC o).map (ren τ) = oC o := (List.map_congr_left (fun x hx => closed_ren τ x (oc_cl o x hx))).trans (List.map_id' _)
theorem oc_frz (id : Nat) (cs : List AV) (o : OpN) : (oC o).map (frzV id cs) = oC o := (List.map_congr_left (fun x hx => closed_frz id cs x (oc_cl o x hx))).trans (List.map_id' _)
theorem oc_toA {st : St} {σ : List Nat} {fz : Bool} {n : Nat} (h : 0 < n) (o : OpN) : (oC o).map (toA st σ fz n) = oC o := (List.map_congr_left (fun x hx => plain_toA h x (List.all_eq_true.1 (oc_pl o) x hx))).trans (List.map_id' _)
theorem oc_dfz {st : St} {σ : List Nat} {n : Nat} (h : 0 < n) (o : OpN) : (oC o).map (dfz st σ n) = oC o := (List.map_congr_left (fun x hx => plain_dfz h x (List.all_eq_true.1 (oc_pl o) x hx))).trans (List.map_id' _)
theorem oc_bnd (n : Nat) (o : OpN) : (∀ x ∈ oC o, bnd n x) = True := eq_true (fun x hx => closed_bnd n x (oc_cl o x hx))
attribute [push_cast] on_cells oc_len oc_0 oc_2 oc_take oc_spl oc_put oc_fill oc_all oc_ren oc_frz oc_toA oc_dfz oc_bnd

/-- The network behind the first operations of a list. -/
noncomputable def runN (n : Int) (L : List OpN) : Nat → NS
  | 0 => ⟨0, [], [], fB 324, true, true⟩
  | k + 1 => (stepN n (runN n L k) (L.getD k default)).s
theorem lk_0 : lkOk [] (fB 324) := fun u v hu hv => by
  have : u * 18 + v < 324 := by omega
  rw [List.getD_eq_getElem?_getD, fB_get this]; rfl
theorem ok_0 (hn : n ≤ 18) : okS n ⟨0, [], [], fB 324, true, true⟩ 0 :=
  ⟨hn, Nat.zero_le _, Int.le_refl _, Int.le_refl _, (fun t ht => by cases ht), (fun i j _ h => absurd h (Nat.not_lt_zero _)), fB_len, lk_0, fun _ => rfl⟩
theorem run_ok (hn : n ≤ 18) (k : Nat) : okS n (runN n L k) k := by
  induction k with
  | zero => exact ok_0 hn
  | succ k ih => exact ok_step ih
theorem op_at (h : ∀ o ∈ L, okO o) (j : Nat) : okO (L.getD j default) := by
  rw [List.getD_eq_getElem?_getD]
  by_cases hj : j < L.length
  · rw [List.getElem?_eq_getElem hj]; exact h _ (List.getElem_mem hj)
  · rw [List.getElem?_eq_none (by omega)]
    show okO (⟨0, 0, 0, 0, 0, 0⟩ : OpN)
    exact ⟨by decide, by decide, by decide, by decide, by decide, by decide⟩
theorem zp_step (h : s.zp = false) : (stepN n s o).s.zp = false := by
  have hs : ∀ m, (sendS n s m).s.zp = false := fun m => by unfold sendS; split <;> (first | exact h | (split <;> first | exact h | rfl))
  unfold stepN
  split
  · exact hs _
  split
  · unfold takeS; split <;> (first | exact h | (split <;> exact h))
  split
  · unfold nextS; split <;> (first | exact h | (split <;> exact h))
  split
  · unfold dropS; split <;> exact h
  split
  · unfold repS; split <;> (first | exact h | exact hs _)
  · unfold blockS; split <;> exact h
def tsl (z : Bool) (id n : Nat) : AV := if z then .isl true [] 0 else .sl id 0 n 24
def tob (z : Bool) (id : Nat) (l : List Pk) : List (Nat × Option AObj) := if z then [] else [(id, some (.cells (cR l) 41))]
theorem tsl_t {id : Nat} (h : z = true) : tsl z id k = .isl true [] 0 := by rw [tsl, if_pos h]
theorem tsl_f {id : Nat} (h : z = false) : tsl z id k = .sl id 0 k 24 := by rw [tsl, h]; rfl
theorem tob_t {id : Nat} (h : z = true) : tob z id l = [] := by rw [tob, if_pos h]
theorem tob_f {id : Nat} (h : z = false) : tob z id l = [(id, some (.cells (cR l) 41))] := by rw [tob, h]; rfl
theorem run_0 : runN n L 0 = ⟨0, [], [], fB 324, true, true⟩ := rfl
theorem run_s : runN n L (k + 1) = (stepN n (runN n L k) (L.getD k default)).s := rfl
noncomputable def scI (n : Int) (z : Bool) (L : List OpN) (j : {j : Nat // j ≤ L.length}) : St :=
  ⟨97, 0, [(6,.pt 0 0), (8,.pt 2 0), (45,.isl z (cR L) L.length), (46,.val (.int .i64 L.length)), (47,.val (.int .i64 j.val))],
   [(0, some (.cells [.val (.int .i64 n), .val (.int .i64 (runN n L j.val).next), tsl (runN n L j.val).zp 3 (runN n L j.val).l.length, .mp 1] 80)), (1, some (.map true 2 (bV (runN n L j.val).f))),
    (2, some (.cells (rC n (runN n L j.val).next (.isl (runN n L j.val).zr (cR (runN n L j.val).l) (runN n L j.val).l.length) (runN n L j.val).B) 49))] ++ tob (runN n L j.val).zp 3 (runN n L j.val).l⟩
theorem same_nil : ACall Try.prog 21 [.isl z [] 0, .isl z2 [] 0] [] 0 (.val (.bool true)) [] := sameL (l := []) (by simp)
theorem rwaitS (h : okS n s k) : ACall Try.prog 25 [rS n s, .val (.int .i64 a)] [] 0 (.isl ((wt s.l a s.l.length).length == 0) (cR (wt s.l a s.l.length)) (wt s.l a s.l.length).length) [] := rwait_ok h.lB (by have := h.len; omega)
theorem allS (h : okS n s k) : ACall Try.prog 15 [.pt 0 0] (nS n s) 3 (.isl false (cR s.l) s.l.length) (nS n s) := all_f (by have := h.len; omega)
theorem waitS (h : okS n s k) : ACall Try.prog 16 [.pt 0 0, .val (.int .i64 a)] (nS n s) 3 (.isl ((wt s.l a s.l.length).length == 0) (cR (wt s.l a s.l.length)) (wt s.l a s.l.length).length) (nS n s) := wait_f (by have := h.len; omega)
theorem allE (h : okS n s k) (hz : s.zp = true) : ACall Try.prog 15 [.pt 0 0] (n0 n s.next s.f) 2 (.isl true (cR s.l) s.l.length) (n0 n s.next s.f) := by rw [h.zp hz]; exact all_0
theorem waitE (h : okS n s k) (hz : s.zp = true) : ACall Try.prog 16 [.pt 0 0, .val (.int .i64 a)] (n0 n s.next s.f) 2 (.isl true (cR (wt s.l a s.l.length)) (wt s.l a s.l.length).length) (n0 n s.next s.f) := by rw [h.zp hz]; exact wait_0
theorem wt_lt (h : okS n s k) : (wt s.l a s.l.length).length ≤ 1000 := by have := h.len; have := wt_le (l := s.l) (a := a) (j := s.l.length); omega
theorem script_big (hv : 0 ≤ v ∧ v ≤ 255) (hl2 : L.length < 2^45) (hl : 60 < L.length) : ACall Try.prog 8 [.val (.int .u8 v), .isl z (cR L) L.length] [] 0 (.val (.bool true)) [] := by
  have hv2 : v.tmod 6 = v % 6 := Int.tmod_eq_emod_of_nonneg hv.1
  refine ACall.enter Try.func8 rfl (by simp [Try.ntmps8]) (by simp) ?_
  simp only [entry, idx, Try.ntmps8, List.length, List.map_cons, List.map_nil, List.append_nil, List.cons_append, List.nil_append, Nat.reduceAdd, Nat.zero_add, List.length_cons, List.length_nil]
  repeat' (first
    | (refine AC_seq ?_)
    | (refine AC_region_lit ?_)
    | ((first | refine AL_go rfl (fun K hK => ?_) | refine AL_go0 (fun K hK => ?_) | refine DG_run (fun K hK => ?_))
       (first | refine R_callG (f := 10) [] 0 false ?_)
       simp (dsimp := false) (disch := first | exact vD | fail) only [push_cast, List.reduceReplicate, Nat.reduceAdd, Nat.reduceMul, Nat.reduceSub, Nat.reduceEqDiff, Nat.reduceLT, Nat.reduceLeDiff, Nat.reduceBEq, Int.reduceToNat, Int.reduceEq, Int.reduceLT, Int.reduceLE, Int.reduceAdd, Int.reduceSub, Int.reduceMul, ↓reduceIte, reduceCtorEq]
       (repeat (refine aI ?_)); intro G hG; refine hG _ _ ?_; clear hG G
       (first | refine ⟨_, _, awake_ok, ?_⟩)
       simp (dsimp := false) (disch := first | exact vD | fail) only [push_cast, List.reduceReplicate, Nat.reduceAdd, Nat.reduceMul, Nat.reduceSub, Nat.reduceEqDiff, Nat.reduceLT, Nat.reduceLeDiff, Nat.reduceBEq, Int.reduceToNat, Int.reduceEq, Int.reduceLT, Int.reduceLE, Int.reduceAdd, Int.reduceSub, Int.reduceMul, ↓reduceIte, reduceCtorEq]
       (repeat (refine aI ?_)); (first | refine hK _ _ _ ?_ | refine hK _ _ ?_); clear hK K)
    | ((first | refine AL_go rfl (fun K hK => ?_) | refine AL_go0 (fun K hK => ?_) | refine DG_run (fun K hK => ?_))
       (first | refine R_move _ ?_ | refine R_assign _ ?_ | refine Q_load _ _ ?_ | refine Q_loadAgg _ _ ?_ | refine Q_fieldAddr _ _ _ ?_ | refine Q_indexAddr _ _ _ ?_ | refine Q_indexArr _ _ _ ?_ | refine Q_len _ _ ?_ | refine Q_lenStr _ _ ?_ | refine Q_pick _ _ _ ?_ | refine Q_not _ _ ?_ | refine Q_neg _ _ ?_ | refine Q_extract _ _ ?_ | refine R_alloc _ ?_ | refine Q_store _ _ _ ?_ | refine Q_convert _ _ _ ?_ | refine Q_eqAgg _ _ _ _ ?_ | refine Q_neqAgg _ _ _ _ ?_ | refine Q_neqSelf _ _ _ _ ?_ | refine Q_bin _ _ _ _ _ ?_)
       simp (dsimp := false) (disch := first | exact vD | fail) only [push_cast, List.reduceReplicate, Nat.reduceAdd, Nat.reduceMul, Nat.reduceSub, Nat.reduceEqDiff, Nat.reduceLT, Nat.reduceLeDiff, Nat.reduceBEq, Int.reduceToNat, Int.reduceEq, Int.reduceLT, Int.reduceLE, Int.reduceAdd, Int.reduceSub, Int.reduceMul, ↓reduceIte, reduceCtorEq]
       (repeat (refine aI ?_)); (first | refine hK _ _ _ ?_ | refine hK _ _ ?_); clear hK K)
    | ((first | refine AL_go rfl (fun K hK => ?_) | refine AL_go0 (fun K hK => ?_) | refine DG_run (fun K hK => ?_))
       (first | refine Q_eqnil _ _ _ _ ?_ | refine Q_neqnil _ _ _ _ ?_)
       simp (dsimp := false) (disch := first | exact vD | fail) only [push_cast, List.reduceReplicate, Nat.reduceAdd, Nat.reduceMul, Nat.reduceSub, Nat.reduceEqDiff, Nat.reduceLT, Nat.reduceLeDiff, Nat.reduceBEq, Int.reduceToNat, Int.reduceEq, Int.reduceLT, Int.reduceLE, Int.reduceAdd, Int.reduceSub, Int.reduceMul, ↓reduceIte, reduceCtorEq]
       (repeat (refine aI ?_)); (first | refine hK _ _ _ ?_ | refine hK _ _ ?_); clear hK K)
    | ((first | refine AL_guard rfl rfl (fun K1 K2 h1 h2 => ?_) rfl | refine AC_cond_k (fun K1 K2 h1 h2 => ?_) | refine DG_guard rfl rfl (fun K1 K2 h1 h2 => ?_))
       simp (dsimp := false) (disch := first | exact vD | fail) only [push_cast, List.reduceReplicate, Nat.reduceAdd, Nat.reduceMul, Nat.reduceSub, Nat.reduceEqDiff, Nat.reduceLT, Nat.reduceLeDiff, Nat.reduceBEq, Int.reduceToNat, Int.reduceEq, Int.reduceLT, Int.reduceLE, Int.reduceAdd, Int.reduceSub, Int.reduceMul, ↓reduceIte, reduceCtorEq]
       first | (refine ⟨fun hc => ?_, fun hc => ?_⟩ <;> first | (exfalso; omega) | (exfalso; contradiction) | refine h1 ?_ | refine h2 ?_) | refine h1 ?_ | refine h2 ?_
       all_goals clear h1 h2 K1 K2)
    | (refine AC_draw (id := 14) (by kernel_rfl) [⟨0, [], [66], [], [], 0⟩, ⟨1, [], [65], [], [], 0⟩, ⟨2, [0, 1], [], [], [], 0⟩, ⟨3, [0, 1, 2], [], [], [], 0⟩, ⟨4, [0, 1, 2, 3], [70], [], [], 0⟩, ⟨5, [0, 1, 2, 3], [69], [], [], 0⟩, ⟨6, [0, 1, 2, 3, 4, 5], [], [], [], 0⟩, ⟨7, [0, 1, 2, 3, 4, 5, 6], [], [], [], 0⟩, ⟨8, [0, 1, 2, 3, 4, 5, 6, 7], [], [], [], 0⟩, ⟨9, [0, 1, 2, 3, 4, 5, 6, 7, 8], [], [], [], 0⟩, ⟨10, [0, 1, 2, 3, 4, 5, 6, 7, 8, 9], [77, 78], [], [], 0⟩, ⟨11, [0, 1, 2, 3, 4, 5, 6, 7, 8, 9, 10], [77, 78], [], [], 0⟩, ⟨12, [0, 1, 2, 3, 4, 5, 6, 7, 8, 9], [75, 76], [], [], 0⟩, ⟨13, [0, 1, 2, 3, 4, 5, 6, 7, 8, 9, 12], [75, 76], [], [], 0⟩, ⟨14, [0, 1, 2, 3, 4, 5, 6, 7, 8, 9, 10, 11, 12, 13], [], [], [], 0⟩, ⟨15, [0, 1, 2, 3, 4, 5, 6, 7, 8, 9, 10, 11, 12, 13, 14], [], [], [], 0⟩, ⟨16, [0, 1, 2, 3, 4, 5, 6, 7, 8, 9, 10, 11, 12, 13, 14, 15], [], [], [], 0⟩, ⟨17, [0, 1, 2, 3, 4, 5, 6, 7, 8, 9, 10, 11, 12, 13, 14, 15, 16], [], [], [], 0⟩, ⟨18, [0, 1, 2, 3, 4, 5, 6, 7, 8, 9, 10, 11, 12, 13, 14, 15, 16, 17], [84, 85, 86, 88, 89, 90, 91], [], [], 0⟩, ⟨19, [0, 1, 2, 3, 4, 5, 6, 7, 8, 9, 10, 11, 12, 13, 14, 15, 16, 17], [83, 88, 89, 90, 91], [], [], 0⟩, ⟨20, [0, 1, 2, 3, 4, 5, 6, 7, 8, 9, 10, 11, 12, 13, 14, 15, 16, 17, 19], [83, 88, 89, 90, 91], [], [], 0⟩, ⟨21, [0, 1, 2, 3, 4, 5, 6, 7, 8, 9, 10, 11, 12, 13, 14, 15, 16, 17, 19, 20], [83, 88, 89, 90, 91], [], [], 0⟩, ⟨22, [0, 1, 2, 3, 4, 5, 6, 7, 8, 9, 10, 11, 12, 13, 14, 15, 16, 17, 18, 19, 20, 21], [88, 89, 90, 91], [], [], 0⟩, ⟨23, [0, 1, 2, 3, 4, 5, 6, 7, 8, 9, 10, 11, 12, 13, 14, 15, 16, 17], [83, 84, 85, 86, 87, 89, 90, 91], [], [], 0⟩, ⟨24, [0, 1, 2, 3, 4, 5, 6, 7, 8, 9, 10, 11, 12, 13, 14, 15, 16, 17], [83, 84, 85, 86, 87, 88], [], [], 0⟩, ⟨25, [0, 1, 2, 3, 4, 5, 6, 7, 8, 9, 10, 11, 12, 13, 14, 15, 16, 17, 24], [83, 84, 85, 86, 87, 88], [], [], 0⟩, ⟨26, [0, 1, 2, 3, 4, 5, 6, 7, 8, 9, 10, 11, 12, 13, 14, 15, 16, 17, 24, 25], [83, 84, 85, 86, 87, 88], [], [], 0⟩, ⟨27, [0, 1, 2, 3, 4, 5, 6, 7, 8, 9, 10, 11, 12, 13, 14, 15, 16, 17, 18, 19, 20, 21, 22, 23, 24, 25, 26], [], [], [], 0⟩, ⟨28, [0, 1, 2, 3, 4, 5, 6, 7, 8, 9, 10, 11, 12, 13, 14, 15, 16, 17, 18, 19, 20, 21, 22, 23, 24, 25, 26, 27], [], [], [], 0⟩, ⟨29, [0, 1, 2, 3, 4, 5, 6, 7, 8, 9, 10, 11, 12, 13, 14, 15, 16, 17, 18, 19, 20, 21, 22, 23, 24, 25, 26, 27, 28], [], [], [], 0⟩, ⟨30, [0, 1, 2, 3, 4, 5, 6, 7, 8, 9, 10, 11, 12, 13, 14, 15, 16, 17, 18, 19, 20, 21, 22, 23, 24, 25, 26, 27, 28, 29], [], [], [], 0⟩] (by kernel_rfl) (by kernel_rfl) (by kernel_rfl) ?_)
    | ((first | refine DG_next' (by kernel_rfl) (fun K hK => ?_) | refine DG_nil (by kernel_rfl) (fun K hK => ?_))
       simp only [↓Go.Sy.dsnE_some, ↓Go.Sy.dsnE_none, ↓Go.Sy.dsnE_nil, ↓Go.Sy.dsnO_snoc, ↓Go.Sy.dsnO_nil, ↓Go.Sy.nidAt_snoc, ↓Go.Sy.nidAt_nil, push_cast, Nat.reduceLeDiff, Nat.reduceSub, Nat.reduceBEq, Nat.reduceEqDiff, Nat.reduceAdd, Nat.reduceLT, ↓reduceIte, reduceCtorEq]
       refine hK _ _ _ ?_; clear hK K)
    | (refine DG_go ?_)
    | (refine AL_nil ?_) | (refine Thn_normal ?_) | (refine Thn_ret ?_) | (refine Thn_exit ?_) | (refine Blk_normal ?_) | (refine Blk_ret ?_) | (refine Blk_here ?_) | (refine Blk_other rfl ?_) | (refine AC_block ?_) | (refine AC_exit ?_) | (refine AC_skip ?_) | (refine AC_ret ?_))
  all_goals (refine Ends.mk2 (by first | exact .inr rfl | exact .inl rfl) [] ?_; simp (dsimp := false) (disch := first | exact vD | fail) only [push_cast, List.reduceReplicate, Nat.reduceAdd, Nat.reduceMul, Nat.reduceSub, Nat.reduceEqDiff, Nat.reduceLT, Nat.reduceLeDiff, Nat.reduceBEq, Int.reduceToNat, Int.reduceEq, Int.reduceLT, Int.reduceLE, Int.reduceAdd, Int.reduceSub, Int.reduceMul, ↓reduceIte, reduceCtorEq, Try.f8]; (repeat (refine aI ?_)); try (first | exact vI | fail))
theorem script_ok (hv : 0 ≤ v ∧ v ≤ 255) (hl : L.length ≤ 60) (ho : ∀ o ∈ L, okO o) : ACall Try.prog 8 [.val (.int .u8 v), .isl z (cR L) L.length] [] 0 (.val (.bool true)) [] := by
  have hF : (fB 324).length = 324 := fB_len
  have hv2 : v.tmod 6 = v % 6 := Int.tmod_eq_emod_of_nonneg hv.1
  have h18 : 1 + v % 6 ≤ 18 := by omega
  have hn : ¬ (1 + v % 6 < 1 ∨ 18 < 1 + v % 6) := by omega
  refine ACall.enter Try.func8 rfl (by simp [Try.ntmps8]) (by simp) ?_
  simp only [entry, idx, Try.ntmps8, List.length, List.map_cons, List.map_nil, List.append_nil, List.cons_append, List.nil_append, Nat.reduceAdd, Nat.zero_add, List.length_cons, List.length_nil]
  repeat' (first
    | (refine AC_loop_id ?_; refine AC_loop' [0,1,2,9] ([0,1,2,9].length) (scI (1 + v % 6) z L) (fun j => L.length - j.val) (⟨0, by omega⟩) rfl (by unfold scI; (try simp only [List.cons_append, List.nil_append]); refine Sub.mk2 ?_; (simp (dsimp := false) (disch := first | exact vD | fail) only [push_cast, List.reduceReplicate, Nat.reduceAdd, Nat.reduceMul, Nat.reduceSub, Nat.reduceEqDiff, Nat.reduceLT, Nat.reduceLeDiff, Nat.reduceBEq, Int.reduceToNat, Int.reduceEq, Int.reduceLT, Int.reduceLE, Int.reduceAdd, Int.reduceSub, Int.reduceMul, ↓reduceIte, reduceCtorEq, n0, nS, rS, rN, run_0, run_s, tsl_t, tsl_f, tob_t, tob_f, on_load, cR_nil]); (repeat (refine aI ?_)); (first | done | (first | exact vI | fail)); done) ?_; (rintro ⟨j, hj⟩; have hr := run_ok (L := L) h18 j; have hr2 := run_ok (L := L) h18 (j + 1); have hk0 : j ≤ 1000000 := (by omega); have hlB := hr.lB; have hlB2 : (stepN (1 + v % 6) (runN (1 + v % 6) L j) (L.getD j default)).s.B.length = 324 := hr2.lB; rw [run_s] at hr2; have hoj := op_at ho j; have hto := hoj.2.2.1; dsimp only [scI]; generalize hS : runN (1 + v % 6) L j = S at *; have hpe := fun h1 h2 => peQ hr hk0 hoj h1 h2; have hpe1 := fun h1 h2 => pe1Q hr hk0 hoj h1 h2; have hpf := pfQ hr hk0 hoj; have hdo := doQ hr hk0 hoj; have hzs := fun h => zp_step (n := 1 + v % 6) (o := L.getD j default) (s := S) h; generalize hR : stepN (1 + v % 6) S (L.getD j default) = R at *; cases hz1 : S.zp <;> cases hz2 : R.s.zp <;> first | (exact absurd ((hzs hz1).symm.trans hz2) (by decide)) | (simp (dsimp := false) (disch := first | exact vD | fail) only [push_cast, List.reduceReplicate, Nat.reduceAdd, Nat.reduceMul, Nat.reduceSub, Nat.reduceEqDiff, Nat.reduceLT, Nat.reduceLeDiff, Nat.reduceBEq, Int.reduceToNat, Int.reduceEq, Int.reduceLT, Int.reduceLE, Int.reduceAdd, Int.reduceSub, Int.reduceMul, ↓reduceIte, reduceCtorEq, tsl_t, tsl_f, tob_t, tob_f])))
    | (refine Nxt_id ?_; refine Nxt.mk [0,1,2,9] (⟨j + 1, by omega⟩) rfl (by unfold scI; (try simp only [List.cons_append, List.nil_append]); refine Sub.mk2 ?_; (simp (dsimp := false) (disch := first | exact vD | fail) only [push_cast, List.reduceReplicate, Nat.reduceAdd, Nat.reduceMul, Nat.reduceSub, Nat.reduceEqDiff, Nat.reduceLT, Nat.reduceLeDiff, Nat.reduceBEq, Int.reduceToNat, Int.reduceEq, Int.reduceLT, Int.reduceLE, Int.reduceAdd, Int.reduceSub, Int.reduceMul, ↓reduceIte, reduceCtorEq, n0, nS, rS, rN, run_0, run_s, tsl_t, tsl_f, tob_t, tob_f, on_load, cR_nil, hS, hR]); (repeat (refine aI ?_)); (first | done | (first | exact vI | fail)); done) (by first | omega | (simp; done) | (simp; omega)))
    | (refine Nxt_id ?_; refine Nxt.mk [0,1,2,5] (⟨j + 1, by omega⟩) rfl (by unfold scI; (try simp only [List.cons_append, List.nil_append]); refine Sub.mk2 ?_; (simp (dsimp := false) (disch := first | exact vD | fail) only [push_cast, List.reduceReplicate, Nat.reduceAdd, Nat.reduceMul, Nat.reduceSub, Nat.reduceEqDiff, Nat.reduceLT, Nat.reduceLeDiff, Nat.reduceBEq, Int.reduceToNat, Int.reduceEq, Int.reduceLT, Int.reduceLE, Int.reduceAdd, Int.reduceSub, Int.reduceMul, ↓reduceIte, reduceCtorEq, n0, nS, rS, rN, run_0, run_s, tsl_t, tsl_f, tob_t, tob_f, on_load, cR_nil, hS, hR]); (repeat (refine aI ?_)); (first | done | (first | exact vI | fail)); done) (by first | omega | (simp; done) | (simp; omega)))
    | (refine AC_seq ?_)
    | (refine AC_region_lit ?_)
    | ((first | refine AL_go rfl (fun K hK => ?_) | refine AL_go0 (fun K hK => ?_) | refine DG_run (fun K hK => ?_))
       (first | refine R_callG (f := 10) [] 0 false ?_ | refine R_callG (f := 11) [] 0 false ?_ | refine R_callG (f := 14) [] 0 false ?_ | refine R_callG (f := 23) [] 0 false ?_ | refine R_callG (f := 24) [] 0 false ?_ | refine R_callG (f := 25) [] 0 false ?_)
       simp (dsimp := false) (disch := first | exact vD | fail) only [push_cast, List.reduceReplicate, Nat.reduceAdd, Nat.reduceMul, Nat.reduceSub, Nat.reduceEqDiff, Nat.reduceLT, Nat.reduceLeDiff, Nat.reduceBEq, Int.reduceToNat, Int.reduceEq, Int.reduceLT, Int.reduceLE, Int.reduceAdd, Int.reduceSub, Int.reduceMul, ↓reduceIte, reduceCtorEq, n0, nS, rS, rN, run_0, run_s, tsl_t, tsl_f, tob_t, tob_f, on_load, cR_nil]
       (repeat (refine aI ?_)); intro G hG; refine hG _ _ ?_; clear hG G
       (first | refine ⟨_, _, awake_ok, ?_⟩ | refine ⟨_, _, new_ok hn, ?_⟩ | refine ⟨_, _, rnew_ok hn, ?_⟩ | refine ⟨_, _, hdo, ?_⟩ | refine ⟨_, _, equal_ok, ?_⟩ | refine ⟨_, _, rwaitS hr2, ?_⟩)
       simp (dsimp := false) (disch := first | exact vD | fail) only [push_cast, List.reduceReplicate, Nat.reduceAdd, Nat.reduceMul, Nat.reduceSub, Nat.reduceEqDiff, Nat.reduceLT, Nat.reduceLeDiff, Nat.reduceBEq, Int.reduceToNat, Int.reduceEq, Int.reduceLT, Int.reduceLE, Int.reduceAdd, Int.reduceSub, Int.reduceMul, ↓reduceIte, reduceCtorEq, n0, nS, rS, rN, run_0, run_s, tsl_t, tsl_f, tob_t, tob_f, on_load, cR_nil]
       (repeat (refine aI ?_)); (first | refine hK _ _ _ ?_ | refine hK _ _ ?_); clear hK K)
    | ((first | refine AL_go rfl (fun K hK => ?_) | refine AL_go0 (fun K hK => ?_) | refine DG_run (fun K hK => ?_))
       (first
        | (refine R_callG (f := 22) [0,1] 2 false ?_
           simp (dsimp := false) (disch := first | exact vD | fail) only [push_cast, List.reduceReplicate, Nat.reduceAdd, Nat.reduceMul, Nat.reduceSub, Nat.reduceEqDiff, Nat.reduceLT, Nat.reduceLeDiff, Nat.reduceBEq, Int.reduceToNat, Int.reduceEq, Int.reduceLT, Int.reduceLE, Int.reduceAdd, Int.reduceSub, Int.reduceMul, ↓reduceIte, reduceCtorEq, n0, nS, rS, rN, run_0, run_s, tsl_t, tsl_f, tob_t, tob_f, on_load, cR_nil]
           (repeat (refine aI ?_)); intro G hG; refine hG _ _ ?_; clear hG G
           refine ⟨_, _, hpe hz1 hz2, ?_⟩
           simp (dsimp := false) (disch := first | exact vD | fail) only [push_cast, List.reduceReplicate, Nat.reduceAdd, Nat.reduceMul, Nat.reduceSub, Nat.reduceEqDiff, Nat.reduceLT, Nat.reduceLeDiff, Nat.reduceBEq, Int.reduceToNat, Int.reduceEq, Int.reduceLT, Int.reduceLE, Int.reduceAdd, Int.reduceSub, Int.reduceMul, ↓reduceIte, reduceCtorEq, n0, nS, rS, rN, run_0, run_s, tsl_t, tsl_f, tob_t, tob_f, on_load, cR_nil]
           (repeat (refine aI ?_)); (first | refine hK _ _ _ ?_ | refine hK _ _ ?_); clear hK K)
        | (refine R_callG (f := 22) [0,1] 2 false ?_
           simp (dsimp := false) (disch := first | exact vD | fail) only [push_cast, List.reduceReplicate, Nat.reduceAdd, Nat.reduceMul, Nat.reduceSub, Nat.reduceEqDiff, Nat.reduceLT, Nat.reduceLeDiff, Nat.reduceBEq, Int.reduceToNat, Int.reduceEq, Int.reduceLT, Int.reduceLE, Int.reduceAdd, Int.reduceSub, Int.reduceMul, ↓reduceIte, reduceCtorEq, n0, nS, rS, rN, run_0, run_s, tsl_t, tsl_f, tob_t, tob_f, on_load, cR_nil]
           (repeat (refine aI ?_)); intro G hG; refine hG _ _ ?_; clear hG G
           refine ⟨_, _, hpe1 hz1 hz2, ?_⟩
           simp (dsimp := false) (disch := first | exact vD | fail) only [push_cast, List.reduceReplicate, Nat.reduceAdd, Nat.reduceMul, Nat.reduceSub, Nat.reduceEqDiff, Nat.reduceLT, Nat.reduceLeDiff, Nat.reduceBEq, Int.reduceToNat, Int.reduceEq, Int.reduceLT, Int.reduceLE, Int.reduceAdd, Int.reduceSub, Int.reduceMul, ↓reduceIte, reduceCtorEq, n0, nS, rS, rN, run_0, run_s, tsl_t, tsl_f, tob_t, tob_f, on_load, cR_nil]
           (repeat (refine aI ?_)); (first | refine hK _ _ _ ?_ | refine hK _ _ ?_); clear hK K)
        | (refine R_callG (f := 22) [0,1,3] 2 false ?_
           simp (dsimp := false) (disch := first | exact vD | fail) only [push_cast, List.reduceReplicate, Nat.reduceAdd, Nat.reduceMul, Nat.reduceSub, Nat.reduceEqDiff, Nat.reduceLT, Nat.reduceLeDiff, Nat.reduceBEq, Int.reduceToNat, Int.reduceEq, Int.reduceLT, Int.reduceLE, Int.reduceAdd, Int.reduceSub, Int.reduceMul, ↓reduceIte, reduceCtorEq, n0, nS, rS, rN, run_0, run_s, tsl_t, tsl_f, tob_t, tob_f, on_load, cR_nil]
           (repeat (refine aI ?_)); intro G hG; refine hG _ _ ?_; clear hG G
           refine ⟨_, _, hpf, ?_⟩
           simp (dsimp := false) (disch := first | exact vD | fail) only [push_cast, List.reduceReplicate, Nat.reduceAdd, Nat.reduceMul, Nat.reduceSub, Nat.reduceEqDiff, Nat.reduceLT, Nat.reduceLeDiff, Nat.reduceBEq, Int.reduceToNat, Int.reduceEq, Int.reduceLT, Int.reduceLE, Int.reduceAdd, Int.reduceSub, Int.reduceMul, ↓reduceIte, reduceCtorEq, n0, nS, rS, rN, run_0, run_s, tsl_t, tsl_f, tob_t, tob_f, on_load, cR_nil]
           (repeat (refine aI ?_)); (first | refine hK _ _ _ ?_ | refine hK _ _ ?_); clear hK K)
        | (refine R_callG (f := 21) [] 0 false ?_
           simp (dsimp := false) (disch := first | exact vD | fail) only [push_cast, List.reduceReplicate, Nat.reduceAdd, Nat.reduceMul, Nat.reduceSub, Nat.reduceEqDiff, Nat.reduceLT, Nat.reduceLeDiff, Nat.reduceBEq, Int.reduceToNat, Int.reduceEq, Int.reduceLT, Int.reduceLE, Int.reduceAdd, Int.reduceSub, Int.reduceMul, ↓reduceIte, reduceCtorEq, n0, nS, rS, rN, run_0, run_s, tsl_t, tsl_f, tob_t, tob_f, on_load, cR_nil]
           (repeat (refine aI ?_)); intro G hG; refine hG _ _ ?_; clear hG G
           refine ⟨_, _, sameL (by have := hr2.len; omega), ?_⟩
           simp (dsimp := false) (disch := first | exact vD | fail) only [push_cast, List.reduceReplicate, Nat.reduceAdd, Nat.reduceMul, Nat.reduceSub, Nat.reduceEqDiff, Nat.reduceLT, Nat.reduceLeDiff, Nat.reduceBEq, Int.reduceToNat, Int.reduceEq, Int.reduceLT, Int.reduceLE, Int.reduceAdd, Int.reduceSub, Int.reduceMul, ↓reduceIte, reduceCtorEq, n0, nS, rS, rN, run_0, run_s, tsl_t, tsl_f, tob_t, tob_f, on_load, cR_nil]
           (repeat (refine aI ?_)); (first | refine hK _ _ _ ?_ | refine hK _ _ ?_); clear hK K)
        | (refine R_callG (f := 21) [] 0 false ?_
           simp (dsimp := false) (disch := first | exact vD | fail) only [push_cast, List.reduceReplicate, Nat.reduceAdd, Nat.reduceMul, Nat.reduceSub, Nat.reduceEqDiff, Nat.reduceLT, Nat.reduceLeDiff, Nat.reduceBEq, Int.reduceToNat, Int.reduceEq, Int.reduceLT, Int.reduceLE, Int.reduceAdd, Int.reduceSub, Int.reduceMul, ↓reduceIte, reduceCtorEq, n0, nS, rS, rN, run_0, run_s, tsl_t, tsl_f, tob_t, tob_f, on_load, cR_nil]
           (repeat (refine aI ?_)); intro G hG; refine hG _ _ ?_; clear hG G
           refine ⟨_, _, sameL (wt_lt hr2), ?_⟩
           simp (dsimp := false) (disch := first | exact vD | fail) only [push_cast, List.reduceReplicate, Nat.reduceAdd, Nat.reduceMul, Nat.reduceSub, Nat.reduceEqDiff, Nat.reduceLT, Nat.reduceLeDiff, Nat.reduceBEq, Int.reduceToNat, Int.reduceEq, Int.reduceLT, Int.reduceLE, Int.reduceAdd, Int.reduceSub, Int.reduceMul, ↓reduceIte, reduceCtorEq, n0, nS, rS, rN, run_0, run_s, tsl_t, tsl_f, tob_t, tob_f, on_load, cR_nil]
           (repeat (refine aI ?_)); (first | refine hK _ _ _ ?_ | refine hK _ _ ?_); clear hK K)
        | (refine R_callG (f := 15) [0,1] 2 false ?_
           simp (dsimp := false) (disch := first | exact vD | fail) only [push_cast, List.reduceReplicate, Nat.reduceAdd, Nat.reduceMul, Nat.reduceSub, Nat.reduceEqDiff, Nat.reduceLT, Nat.reduceLeDiff, Nat.reduceBEq, Int.reduceToNat, Int.reduceEq, Int.reduceLT, Int.reduceLE, Int.reduceAdd, Int.reduceSub, Int.reduceMul, ↓reduceIte, reduceCtorEq, n0, nS, rS, rN, run_0, run_s, tsl_t, tsl_f, tob_t, tob_f, on_load, cR_nil]
           (repeat (refine aI ?_)); intro G hG; refine hG _ _ ?_; clear hG G
           refine ⟨_, _, allE hr2 hz2, ?_⟩
           simp (dsimp := false) (disch := first | exact vD | fail) only [push_cast, List.reduceReplicate, Nat.reduceAdd, Nat.reduceMul, Nat.reduceSub, Nat.reduceEqDiff, Nat.reduceLT, Nat.reduceLeDiff, Nat.reduceBEq, Int.reduceToNat, Int.reduceEq, Int.reduceLT, Int.reduceLE, Int.reduceAdd, Int.reduceSub, Int.reduceMul, ↓reduceIte, reduceCtorEq, n0, nS, rS, rN, run_0, run_s, tsl_t, tsl_f, tob_t, tob_f, on_load, cR_nil]
           (repeat (refine aI ?_)); (first | refine hK _ _ _ ?_ | refine hK _ _ ?_); clear hK K)
        | (refine R_callG (f := 15) [0,1,5] 3 false ?_
           simp (dsimp := false) (disch := first | exact vD | fail) only [push_cast, List.reduceReplicate, Nat.reduceAdd, Nat.reduceMul, Nat.reduceSub, Nat.reduceEqDiff, Nat.reduceLT, Nat.reduceLeDiff, Nat.reduceBEq, Int.reduceToNat, Int.reduceEq, Int.reduceLT, Int.reduceLE, Int.reduceAdd, Int.reduceSub, Int.reduceMul, ↓reduceIte, reduceCtorEq, n0, nS, rS, rN, run_0, run_s, tsl_t, tsl_f, tob_t, tob_f, on_load, cR_nil]
           (repeat (refine aI ?_)); intro G hG; refine hG _ _ ?_; clear hG G
           refine ⟨_, _, allS hr2, ?_⟩
           simp (dsimp := false) (disch := first | exact vD | fail) only [push_cast, List.reduceReplicate, Nat.reduceAdd, Nat.reduceMul, Nat.reduceSub, Nat.reduceEqDiff, Nat.reduceLT, Nat.reduceLeDiff, Nat.reduceBEq, Int.reduceToNat, Int.reduceEq, Int.reduceLT, Int.reduceLE, Int.reduceAdd, Int.reduceSub, Int.reduceMul, ↓reduceIte, reduceCtorEq, n0, nS, rS, rN, run_0, run_s, tsl_t, tsl_f, tob_t, tob_f, on_load, cR_nil]
           (repeat (refine aI ?_)); (first | refine hK _ _ _ ?_ | refine hK _ _ ?_); clear hK K)
        | (refine R_callG (f := 16) [0,1] 2 false ?_
           simp (dsimp := false) (disch := first | exact vD | fail) only [push_cast, List.reduceReplicate, Nat.reduceAdd, Nat.reduceMul, Nat.reduceSub, Nat.reduceEqDiff, Nat.reduceLT, Nat.reduceLeDiff, Nat.reduceBEq, Int.reduceToNat, Int.reduceEq, Int.reduceLT, Int.reduceLE, Int.reduceAdd, Int.reduceSub, Int.reduceMul, ↓reduceIte, reduceCtorEq, n0, nS, rS, rN, run_0, run_s, tsl_t, tsl_f, tob_t, tob_f, on_load, cR_nil]
           (repeat (refine aI ?_)); intro G hG; refine hG _ _ ?_; clear hG G
           refine ⟨_, _, waitE hr2 hz2, ?_⟩
           simp (dsimp := false) (disch := first | exact vD | fail) only [push_cast, List.reduceReplicate, Nat.reduceAdd, Nat.reduceMul, Nat.reduceSub, Nat.reduceEqDiff, Nat.reduceLT, Nat.reduceLeDiff, Nat.reduceBEq, Int.reduceToNat, Int.reduceEq, Int.reduceLT, Int.reduceLE, Int.reduceAdd, Int.reduceSub, Int.reduceMul, ↓reduceIte, reduceCtorEq, n0, nS, rS, rN, run_0, run_s, tsl_t, tsl_f, tob_t, tob_f, on_load, cR_nil]
           (repeat (refine aI ?_)); (first | refine hK _ _ _ ?_ | refine hK _ _ ?_); clear hK K)
        | (refine R_callG (f := 16) [0,1,5] 3 false ?_
           simp (dsimp := false) (disch := first | exact vD | fail) only [push_cast, List.reduceReplicate, Nat.reduceAdd, Nat.reduceMul, Nat.reduceSub, Nat.reduceEqDiff, Nat.reduceLT, Nat.reduceLeDiff, Nat.reduceBEq, Int.reduceToNat, Int.reduceEq, Int.reduceLT, Int.reduceLE, Int.reduceAdd, Int.reduceSub, Int.reduceMul, ↓reduceIte, reduceCtorEq, n0, nS, rS, rN, run_0, run_s, tsl_t, tsl_f, tob_t, tob_f, on_load, cR_nil]
           (repeat (refine aI ?_)); intro G hG; refine hG _ _ ?_; clear hG G
           refine ⟨_, _, waitS hr2, ?_⟩
           simp (dsimp := false) (disch := first | exact vD | fail) only [push_cast, List.reduceReplicate, Nat.reduceAdd, Nat.reduceMul, Nat.reduceSub, Nat.reduceEqDiff, Nat.reduceLT, Nat.reduceLeDiff, Nat.reduceBEq, Int.reduceToNat, Int.reduceEq, Int.reduceLT, Int.reduceLE, Int.reduceAdd, Int.reduceSub, Int.reduceMul, ↓reduceIte, reduceCtorEq, n0, nS, rS, rN, run_0, run_s, tsl_t, tsl_f, tob_t, tob_f, on_load, cR_nil]
           (repeat (refine aI ?_)); (first | refine hK _ _ _ ?_ | refine hK _ _ ?_); clear hK K)))
    | ((first | refine AL_go rfl (fun K hK => ?_) | refine AL_go0 (fun K hK => ?_) | refine DG_run (fun K hK => ?_))
       (first | refine R_move _ ?_ | refine R_assign _ ?_ | refine Q_load _ _ ?_ | refine Q_loadAgg _ _ ?_ | refine Q_fieldAddr _ _ _ ?_ | refine Q_indexAddr _ _ _ ?_ | refine Q_indexArr _ _ _ ?_ | refine Q_len _ _ ?_ | refine Q_lenStr _ _ ?_ | refine Q_pick _ _ _ ?_ | refine Q_not _ _ ?_ | refine Q_neg _ _ ?_ | refine Q_extract _ _ ?_ | refine R_alloc _ ?_ | refine Q_store _ _ _ ?_ | refine Q_convert _ _ _ ?_ | refine Q_eqAgg _ _ _ _ ?_ | refine Q_neqAgg _ _ _ _ ?_ | refine Q_neqSelf _ _ _ _ ?_ | refine Q_bin _ _ _ _ _ ?_)
       simp (dsimp := false) (disch := first | exact vD | fail) only [push_cast, List.reduceReplicate, Nat.reduceAdd, Nat.reduceMul, Nat.reduceSub, Nat.reduceEqDiff, Nat.reduceLT, Nat.reduceLeDiff, Nat.reduceBEq, Int.reduceToNat, Int.reduceEq, Int.reduceLT, Int.reduceLE, Int.reduceAdd, Int.reduceSub, Int.reduceMul, ↓reduceIte, reduceCtorEq, n0, nS, rS, rN, run_0, run_s, tsl_t, tsl_f, tob_t, tob_f, on_load, cR_nil]
       (repeat (refine aI ?_)); (first | refine hK _ _ _ ?_ | refine hK _ _ ?_); clear hK K)
    | ((first | refine AL_go rfl (fun K hK => ?_) | refine AL_go0 (fun K hK => ?_) | refine DG_run (fun K hK => ?_))
       (first | refine Q_eqnil _ _ _ _ ?_ | refine Q_neqnil _ _ _ _ ?_)
       simp (dsimp := false) (disch := first | exact vD | fail) only [push_cast, List.reduceReplicate, Nat.reduceAdd, Nat.reduceMul, Nat.reduceSub, Nat.reduceEqDiff, Nat.reduceLT, Nat.reduceLeDiff, Nat.reduceBEq, Int.reduceToNat, Int.reduceEq, Int.reduceLT, Int.reduceLE, Int.reduceAdd, Int.reduceSub, Int.reduceMul, ↓reduceIte, reduceCtorEq, n0, nS, rS, rN, run_0, run_s, tsl_t, tsl_f, tob_t, tob_f, on_load, cR_nil]
       (repeat (refine aI ?_)); (first | refine hK _ _ _ ?_ | refine hK _ _ ?_); clear hK K)
    | ((first | refine AL_guard rfl rfl (fun K1 K2 h1 h2 => ?_) rfl | refine AC_cond_k (fun K1 K2 h1 h2 => ?_) | refine DG_guard rfl rfl (fun K1 K2 h1 h2 => ?_))
       simp (dsimp := false) (disch := first | exact vD | fail) only [push_cast, List.reduceReplicate, Nat.reduceAdd, Nat.reduceMul, Nat.reduceSub, Nat.reduceEqDiff, Nat.reduceLT, Nat.reduceLeDiff, Nat.reduceBEq, Int.reduceToNat, Int.reduceEq, Int.reduceLT, Int.reduceLE, Int.reduceAdd, Int.reduceSub, Int.reduceMul, ↓reduceIte, reduceCtorEq, n0, nS, rS, rN, run_0, run_s, tsl_t, tsl_f, tob_t, tob_f, on_load, cR_nil]
       first | (refine ⟨fun hc => ?_, fun hc => ?_⟩ <;> first | (exfalso; omega) | (exfalso; contradiction) | (exfalso; (simp_all; done)) | refine h1 ?_ | refine h2 ?_) | refine h1 ?_ | refine h2 ?_
       all_goals clear h1 h2 K1 K2)
    | (refine AC_draw (id := 14) (by kernel_rfl) [⟨0, [], [66], [], [], 0⟩, ⟨1, [], [65], [], [], 0⟩, ⟨2, [0, 1], [], [], [], 0⟩, ⟨3, [0, 1, 2], [], [], [], 0⟩, ⟨4, [0, 1, 2, 3], [70], [], [], 0⟩, ⟨5, [0, 1, 2, 3], [69], [], [], 0⟩, ⟨6, [0, 1, 2, 3, 4, 5], [], [], [], 0⟩, ⟨7, [0, 1, 2, 3, 4, 5, 6], [], [], [], 0⟩, ⟨8, [0, 1, 2, 3, 4, 5, 6, 7], [], [], [], 0⟩, ⟨9, [0, 1, 2, 3, 4, 5, 6, 7, 8], [], [], [], 0⟩, ⟨10, [0, 1, 2, 3, 4, 5, 6, 7, 8, 9], [77, 78], [], [], 0⟩, ⟨11, [0, 1, 2, 3, 4, 5, 6, 7, 8, 9, 10], [77, 78], [], [3, 4, 8], 0⟩, ⟨12, [0, 1, 2, 3, 4, 5, 6, 7, 8, 9], [75, 76], [3, 4, 8], [], 0⟩, ⟨13, [0, 1, 2, 3, 4, 5, 6, 7, 8, 9, 12], [75, 76], [3, 4, 8], [], 0⟩, ⟨14, [0, 1, 2, 3, 4, 5, 6, 7, 8, 9, 10, 11, 12, 13], [], [], [], 0⟩, ⟨15, [0, 1, 2, 3, 4, 5, 6, 7, 8, 9, 10, 11, 12, 13, 14], [], [], [], 0⟩, ⟨16, [0, 1, 2, 3, 4, 5, 6, 7, 8, 9, 10, 11, 12, 13, 14, 15], [], [], [], 0⟩, ⟨17, [0, 1, 2, 3, 4, 5, 6, 7, 8, 9, 10, 11, 12, 13, 14, 15, 16], [], [], [], 0⟩, ⟨18, [0, 1, 2, 3, 4, 5, 6, 7, 8, 9, 10, 11, 12, 13, 14, 15, 16, 17], [84, 85, 86, 88, 89, 90, 91], [], [], 0⟩, ⟨19, [0, 1, 2, 3, 4, 5, 6, 7, 8, 9, 10, 11, 12, 13, 14, 15, 16, 17], [83, 88, 89, 90, 91], [], [], 0⟩, ⟨20, [0, 1, 2, 3, 4, 5, 6, 7, 8, 9, 10, 11, 12, 13, 14, 15, 16, 17, 19], [83, 88, 89, 90, 91], [], [], 0⟩, ⟨21, [0, 1, 2, 3, 4, 5, 6, 7, 8, 9, 10, 11, 12, 13, 14, 15, 16, 17, 19, 20], [83, 88, 89, 90, 91], [], [], 0⟩, ⟨22, [0, 1, 2, 3, 4, 5, 6, 7, 8, 9, 10, 11, 12, 13, 14, 15, 16, 17, 18, 19, 20, 21], [88, 89, 90, 91], [], [3, 4, 8], 0⟩, ⟨23, [0, 1, 2, 3, 4, 5, 6, 7, 8, 9, 10, 11, 12, 13, 14, 15, 16, 17], [83, 84, 85, 86, 87, 89, 90, 91], [3, 4, 8], [], 0⟩, ⟨24, [0, 1, 2, 3, 4, 5, 6, 7, 8, 9, 10, 11, 12, 13, 14, 15, 16, 17], [83, 84, 85, 86, 87, 88], [3, 4, 8], [], 0⟩, ⟨25, [0, 1, 2, 3, 4, 5, 6, 7, 8, 9, 10, 11, 12, 13, 14, 15, 16, 17, 24], [83, 84, 85, 86, 87, 88], [3, 4, 8], [], 0⟩, ⟨26, [0, 1, 2, 3, 4, 5, 6, 7, 8, 9, 10, 11, 12, 13, 14, 15, 16, 17, 24, 25], [83, 84, 85, 86, 87, 88], [3, 4, 8], [], 0⟩, ⟨27, [0, 1, 2, 3, 4, 5, 6, 7, 8, 9, 10, 11, 12, 13, 14, 15, 16, 17, 18, 19, 20, 21, 22, 23, 24, 25, 26], [], [], [], 0⟩, ⟨28, [0, 1, 2, 3, 4, 5, 6, 7, 8, 9, 10, 11, 12, 13, 14, 15, 16, 17, 18, 19, 20, 21, 22, 23, 24, 25, 26, 27], [], [], [], 0⟩, ⟨29, [0, 1, 2, 3, 4, 5, 6, 7, 8, 9, 10, 11, 12, 13, 14, 15, 16, 17, 18, 19, 20, 21, 22, 23, 24, 25, 26, 27, 28], [], [], [], 0⟩, ⟨30, [0, 1, 2, 3, 4, 5, 6, 7, 8, 9, 10, 11, 12, 13, 14, 15, 16, 17, 18, 19, 20, 21, 22, 23, 24, 25, 26, 27, 28, 29], [], [], [], 0⟩] (by kernel_rfl) (by kernel_rfl) (by kernel_rfl) ?_)
    | ((first | refine DG_next' (by kernel_rfl) (fun K hK => ?_) | refine DG_nil (by kernel_rfl) (fun K hK => ?_))
       simp only [↓Go.Sy.dsnE_some, ↓Go.Sy.dsnE_none, ↓Go.Sy.dsnE_nil, ↓Go.Sy.dsnO_snoc, ↓Go.Sy.dsnO_nil, ↓Go.Sy.nidAt_snoc, ↓Go.Sy.nidAt_nil, push_cast, Nat.reduceLeDiff, Nat.reduceSub, Nat.reduceBEq, Nat.reduceEqDiff, Nat.reduceAdd, Nat.reduceLT, ↓reduceIte, reduceCtorEq]
       refine hK _ _ _ ?_; clear hK K)
    | (refine DG_go ?_)
    | (refine AL_nil ?_) | (refine Thn_normal ?_) | (refine Thn_ret ?_) | (refine Thn_exit ?_) | (refine Blk_normal ?_) | (refine Blk_ret ?_) | (refine Blk_here ?_) | (refine Blk_other rfl ?_) | (refine AC_block ?_) | (refine AC_exit ?_) | (refine AC_skip ?_) | (refine AC_ret ?_))
  all_goals (refine Ends.mk2 (by first | exact .inr rfl | exact .inl rfl) [] ?_; simp (dsimp := false) (disch := first | exact vD | fail) only [push_cast, List.reduceReplicate, Nat.reduceAdd, Nat.reduceMul, Nat.reduceSub, Nat.reduceEqDiff, Nat.reduceLT, Nat.reduceLeDiff, Nat.reduceBEq, Int.reduceToNat, Int.reduceEq, Int.reduceLT, Int.reduceLE, Int.reduceAdd, Int.reduceSub, Int.reduceMul, ↓reduceIte, reduceCtorEq, Try.f8]; (repeat (refine aI ?_)); try (first | exact vI | fail))
theorem script_law (hv : 0 ≤ v ∧ v ≤ 255) (hl2 : L.length < 2^45) (ho : ∀ o ∈ L, okO o) : ACall Try.prog 8 [.val (.int .u8 v), .isl z (cR L) L.length] [] 0 (.val (.bool true)) [] := by
  rcases Nat.lt_or_ge 60 L.length with h | h
  · exact script_big hv hl2 h
  · exact script_ok hv h ho
end Go.Proofs.Ytphpjgfhdoobjaa
